/- strconv.FormatUint at base 10, at this dump: every uint64. -/
import Derived.Test.YtlegagccaeoidaaDoorXRShelf
import Derived.Test.YtlegagccaeoidaaDoorHxStr
import Derived.Shelf.Strconv.Itoa3
import Derived.Lib.ItoaMem
import Derived.Lib.AppendIntMem
import Derived.BigCall
import Derived.BigGuard
namespace Go.Proofs
open Go.Shelf Go.RowKit Go.Sort Go.Lib
set_option maxHeartbeats 6400000 in
set_option maxRecDepth 100000 in
theorem Tryd.internal_FormatUint (u : Nat) (hu64 : u < 18446744073709551616) (w : World) (htab : Lib.TabIs Tryd.prog w "internal/strconv.uint64pow10" .u64 Lib.pow10Tab) :
    Calls Tryd.prog 19 #[.int .u64 u, .int .i64 10] w fun e w' => e = .returned (.string ⟨(Lib.decDigits u).toArray⟩) ∧ ∃ k os, w' = grow (w.drewN k) os := by
  by_cases hs : u < 100
  · have hs' : (u : Int) < 100 := by omega
    have hw : IntKind.i64.wrap (u : Int) = (u : Int) := by rw [IntKind.wrap_i64]; omega
    go_enter Tryd.func19, Tryd.ntmps19
    go_wp2_with (go_at_call 21; refine (Tryd.internal_strconv_small u hs _).mono ?_; rintro e w' ⟨rfl, rfl⟩)
    go_ret
    exact ⟨rfl, 0, #[], by simp [World.drewN_zero]⟩
  · have hu1 : 1 ≤ u := by omega
    have iu : (100 : Int) ≤ (u : Int) := by omega
    have hnd20 : Lib.nDigits u ≤ 20 := by have := Lib.numDigits_eq u hu1 hu64; split at this <;> omega
    have hal : Tryd.prog.arrayLen 40 = 24 := by simp [Program.arrayLen, Tryd.underlying40]
    have hsl : ∀ W, (Instr.sliceAt 40 (.pointer (some ⟨w.heap.size, 0, none⟩)) none (some (.int .i64 (Lib.nDigits u : Int))) none).run Tryd.prog W = .ok (.slice (some ⟨w.heap.size, 0, none⟩) (Lib.nDigits u) 24) W := fun W => by
      rw [run_sliceAt_array_h W 40 ⟨w.heap.size, 0, none⟩ (by simp [Program.arrayLen, Program.elem, Tryd.underlying40]) .i64 (Lib.nDigits u : Int) (by omega) (by rw [hal]; omega)]
      go_simp
    have hH0 := Lib.holds_zero0 w 40 (Lib.nDigits u) (by omega)
    have hfmt := Tryd.internal_strconv_formatBase10 w.heap.size 0 24 u (Array.replicate (Lib.nDigits u) 0) (w.alloc (.cells Lib.zeros24 40)) hH0 (by rw [Array.size_replicate]; exact Lib.lt_pow_nDigits u) hu64 (by rw [Array.size_replicate]; omega)
    rw [Array.size_replicate] at hfmt
    have HH0 := Lib.hid hH0
    clear hH0 hal
    go_enter Tryd.func19, Tryd.ntmps19
    go_wp2_with (go_at_call 22; refine (Tryd.internal_strconv_numDigits u hu1 hu64 _ (Lib.tabIs_alloc htab _)).mono ?_; rintro e w' ⟨rfl, rfl⟩)
    go_at_call 23
    refine hfmt.mono ?_
    rintro e w' ⟨rfl, k, v', dk, rfl, hF⟩
    have hcv : (convert 43 9 (.slice (some ⟨w.heap.size, 0, none⟩) (Lib.nDigits u) 24)).run Tryd.prog ((putRow (fun (b : UInt8) => Value.int .u8 (b.toNat : Int)) (w.alloc (.cells Lib.zeros24 40)) w.heap.size 0 dk).drewN k) = .ok (.string ⟨(Lib.decDigits u).toArray⟩) ((putRow (fun (b : UInt8) => Value.int .u8 (b.toNat : Int)) (w.alloc (.cells Lib.zeros24 40)) w.heap.size 0 dk).drewN k) := by
      have h := run_convert_bytes_back (P := Tryd.prog) ((putRow (fun (b : UInt8) => Value.int .u8 (b.toNat : Int)) (w.alloc (.cells Lib.zeros24 40)) w.heap.size 0 dk).drewN k) 43 9 5 ⟨w.heap.size, 0, none⟩ 24 (Lib.decDigits u) Tryd.underlying43 Tryd.underlying5 Tryd.underlying9 (fun j hj => by
        rw [Lib.row_is_numeral hF j hj, Lib.add_plain, World.cell?_drewN]
        exact cell?_putRow (fun (b : UInt8) => Value.int .u8 (b.toNat : Int)) _ w.heap.size 0 _ dk HH0.out (by rw [hF.size, Array.size_replicate]) j (by rw [hF.size]; rw [Lib.decDigits_length] at hj; exact hj))
      rw [Lib.decDigits_length] at h
      exact h
    go_wp2
    go_ret
    obtain ⟨os, eo⟩ := Lib.fin_at w (.cells Lib.zeros24 40) dk k 0
    exact ⟨rfl, k, os, eo⟩
set_option maxRecDepth 100000 in
theorem Tryd.FormatUint (u : Nat) (hu64 : u < 18446744073709551616) (w : World) (htab : Lib.TabIs Tryd.prog w "internal/strconv.uint64pow10" .u64 Lib.pow10Tab) :
    Calls Tryd.prog 17 #[.int .u64 u, .int .i64 10] w fun e w' => e = .returned (.string ⟨(Lib.decDigits u).toArray⟩) ∧ ∃ k os, w' = grow (w.drewN k) os := by
  go_enter Tryd.func17, Tryd.ntmps17
  go_wp2_with (go_at_call 19; refine (Tryd.internal_FormatUint u hu64 _ htab).mono ?_; rintro e w' ⟨rfl, hk⟩)
  go_ret
  exact ⟨rfl, hk⟩
end Go.Proofs
namespace Go.Hx
open Go Go.Proofs
/-- The table of powers lies as it was laid. -/
abbrev TabK : Kp → Prop := TabOf Tryd.prog "internal/strconv.uint64pow10" .u64 Lib.pow10Tab
def itoaO (n : Int) : Option ByteArray := if -9223372036854775808 ≤ n ∧ n ≤ 9223372036854775807 then some ⟨(Lib.itoa n).toArray⟩ else none
def fmtO (u b : Int) : Option ByteArray := if 0 ≤ u ∧ u < 18446744073709551616 ∧ b = 10 then some ⟨(Lib.decDigits u.toNat).toArray⟩ else none
theorem Fc_itoa {K : Kp} {G : List Ent} {n : Int} {y : ByteArray} (H : itoaO n = some y) (hT : TabK K) : Fc Tryd.prog 13 #[.int .i64 n] K G (fun v K' G' => v = .string y ∧ K = K' ∧ G = G') := fun E w hs => by
  unfold itoaO at H
  split at H
  · rename_i h
    cases H
    refine (Tryd.strconv_Itoa n h.1 h.2 w (hT w hs.ko)).mono fun e w' ⟨e1, k, os, e2⟩ => ?_
    subst e2
    exact ⟨_, K, G, e1, Kp.le_refl K, hs.grown k os, rfl, rfl, rfl⟩
  · cases H
theorem Fc_fmt {K : Kp} {G : List Ent} {u b : Int} {y : ByteArray} (H : fmtO u b = some y) (hT : TabK K) : Fc Tryd.prog 17 #[.int .u64 u, .int .i64 b] K G (fun v K' G' => v = .string y ∧ K = K' ∧ G = G') := fun E w hs => by
  unfold fmtO at H
  split at H
  · rename_i h
    obtain ⟨h1, h2, rfl⟩ := h
    cases H
    have hc := Tryd.FormatUint u.toNat (by omega) w (hT w hs.ko)
    rw [show ((u.toNat : Nat) : Int) = u by omega] at hc
    refine hc.mono fun e w' ⟨e1, k, os, e2⟩ => ?_
    subst e2
    exact ⟨_, K, G, e1, Kp.le_refl K, hs.grown k os, rfl, rfl, rfl⟩
  · cases H
end Go.Hx
