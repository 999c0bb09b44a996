
import Derived.Shelf.Strconv.Itoa0
import Derived.Shelf.Strconv.Itoa1
import Derived.Shelf.LaysM
import Derived.Shelf.Strconv.Itoa2
import Derived.Shelf.Strconv.AppendUint10
import Derived.Shelf.Strconv.AppendInt10
import Derived.Shelf.Strconv.AppendIntPublic10
import Derived.Ground.Names2Prog
import Derived.Shelf.Slices.Clone
import Derived.Ground.SlgnProg
import Derived.Shelf.SlicesE.Clone
import Derived.Test.YtphoeijgpmlbpaaDoorProg
import Derived.Test.YtphoeijgpmlbpaaDoorHxLoops
import Derived.Shelf.Strconv.Itoa3
import Derived.OwnWalk
import Derived.WalkKit
import Derived.BigCall
import Derived.BigGuard
namespace Go.Proofs
open Go.Shelf
def Tryd.lays283_ren : Go.Shelf.Ren := ⟨fun | 283 => 93 | n => n, fun | 3 => 3 | 9 => 9 | 4 => 4 | n => n, fun | n => n⟩
theorem Tryd.lays283 : Go.Proofs.Lays.n283 Tryd.prog Tryd.lays283_ren := {
  mixed := by kernel_rfl
  f283 := Tryd.func93.trans (congrArg some (by kernel_rfl))
  t3 := Tryd.underlying3
  a3 := Tryd.isAgg3
  z3 := Tryd.sizeOf3
  v3 := Tryd.zeroValue3
  t4 := Tryd.underlying4
  a4 := Tryd.isAgg4
  z4 := Tryd.sizeOf4
  v4 := Tryd.zeroValue4
  t9 := Tryd.underlying9
  a9 := Tryd.isAgg9
  z9 := Tryd.sizeOf9
  v9 := Tryd.zeroValue9 }
open Go.Lib in
theorem Tryd.internal_strconv_small (i : Nat) (h : i < 100) (w : World) :
    Calls Tryd.prog 93 #[.int .i64 i] w fun e w' => e = .returned (.string ⟨(Lib.decDigits i).toArray⟩) ∧ w' = w := Any.internal_strconv_small Tryd.lays283 i h w
def Tryd.laysM284_ren : Go.Shelf.Ren := ⟨fun | 284 => 94 | 129 => 98 | 317 => 97 | 318 => 99 | n => n, fun | 53 => 34 | 3 => 3 | 212 => 163 | 0 => 0 | 4 => 4 | 46 => 167 | 5 => 5 | 9 => 9 | n => n, fun | 17 => 0 | n => n⟩
theorem Tryd.laysM284 : Go.Proofs.LaysM.n284 Tryd.prog Tryd.laysM284_ren := {
  mixed := by kernel_rfl
  f129 := Tryd.func98.trans (congrArg some (by kernel_rfl))
  f284 := Tryd.func94.trans (congrArg some (by kernel_rfl))
  f317 := Tryd.func97.trans (congrArg some (by kernel_rfl))
  f318 := Tryd.func99.trans (congrArg some (by kernel_rfl))
  t0 := Tryd.underlying0
  a0 := Tryd.isAgg0
  z0 := Tryd.sizeOf0
  v0 := Tryd.zeroValue0
  t3 := Tryd.underlying3
  a3 := Tryd.isAgg3
  z3 := Tryd.sizeOf3
  v3 := Tryd.zeroValue3
  t4 := Tryd.underlying4
  a4 := Tryd.isAgg4
  z4 := Tryd.sizeOf4
  v4 := Tryd.zeroValue4
  t5 := Tryd.underlying5
  a5 := Tryd.isAgg5
  z5 := Tryd.sizeOf5
  v5 := Tryd.zeroValue5
  t9 := Tryd.underlying9
  a9 := Tryd.isAgg9
  z9 := Tryd.sizeOf9
  v9 := Tryd.zeroValue9
  t46 := Tryd.underlying167
  a46 := Tryd.isAgg167
  z46 := Tryd.sizeOf167
  v46 := Tryd.zeroValue167
  t53 := Tryd.underlying34
  a53 := Tryd.isAgg34
  z53 := Tryd.sizeOf34
  v53 := Tryd.zeroValue34
  t212 := Tryd.underlying163
  a212 := Tryd.isAgg163
  z212 := Tryd.sizeOf163
  v212 := Tryd.zeroValue163
  g17 := by kernel_rfl
  i0 := by kernel_rfl
  i3 := by kernel_rfl
  i4 := by kernel_rfl
  i5 := by kernel_rfl
  i9 := by kernel_rfl
  i46 := by kernel_rfl
  i53 := by kernel_rfl
  i212 := by kernel_rfl
  m17 := by kernel_rfl }
open Go.Lib in
theorem Tryd.internal_strconv_numDigits (u : Nat) (h1 : 1 ≤ u) (h2 : u < 18446744073709551616) (w : World) (htab : Lib.TabIs Tryd.prog w "internal/strconv.uint64pow10" .u64 Lib.pow10Tab) :
    Calls Tryd.prog 94 #[.int .u64 u] w fun e w' => e = .returned (.int .i64 (Lib.nDigits u)) ∧ w' = w := Any.internal_strconv_numDigits Tryd.laysM284 u h1 h2 w htab
def Tryd.lays285_ren : Go.Shelf.Ren := ⟨fun | 285 => 95 | n => n, fun | 37 => 22 | 53 => 34 | 3 => 3 | 4 => 4 | 51 => 164 | 9 => 9 | 5 => 5 | 0 => 0 | n => n, fun | n => n⟩
theorem Tryd.lays285 : Go.Proofs.Lays.n285 Tryd.prog Tryd.lays285_ren := {
  mixed := by kernel_rfl
  f285 := Tryd.func95.trans (congrArg some (by kernel_rfl))
  t0 := Tryd.underlying0
  a0 := Tryd.isAgg0
  z0 := Tryd.sizeOf0
  v0 := Tryd.zeroValue0
  t3 := Tryd.underlying3
  a3 := Tryd.isAgg3
  z3 := Tryd.sizeOf3
  v3 := Tryd.zeroValue3
  t4 := Tryd.underlying4
  a4 := Tryd.isAgg4
  z4 := Tryd.sizeOf4
  v4 := Tryd.zeroValue4
  t5 := Tryd.underlying5
  a5 := Tryd.isAgg5
  z5 := Tryd.sizeOf5
  v5 := Tryd.zeroValue5
  t9 := Tryd.underlying9
  a9 := Tryd.isAgg9
  z9 := Tryd.sizeOf9
  v9 := Tryd.zeroValue9
  t37 := Tryd.underlying22
  a37 := Tryd.isAgg22
  z37 := Tryd.sizeOf22
  v37 := Tryd.zeroValue22
  t51 := Tryd.underlying164
  a51 := Tryd.isAgg164
  z51 := Tryd.sizeOf164
  v51 := Tryd.zeroValue164
  t53 := Tryd.underlying34
  a53 := Tryd.isAgg34
  z53 := Tryd.sizeOf34
  v53 := Tryd.zeroValue34 }
open Go.RowKit Go.Sort Go.Lib in
theorem Tryd.internal_strconv_formatBase10 (blk off cap : Nat) (u : Nat) (d : Array UInt8) (w : World) (hH : Holds (fun (b : UInt8) => Value.int .u8 (b.toNat : Int)) w blk off d) (hu : u < 10 ^ d.size) (hu64 : u < 18446744073709551616) (hsz : d.size < 4611686018427387904) :
    Calls Tryd.prog 95 #[.slice (some ⟨blk, off, none⟩) d.size cap, .int .u64 u] w fun e w' =>
      e = .returned (.tuple #[]) ∧ ∃ (n v' : Nat) (dk : Array UInt8), w' = (putRow (fun (b : UInt8) => Value.int .u8 (b.toNat : Int)) w blk off dk).drewN n ∧ FmtInv d.size u 0 v' dk := Any.internal_strconv_formatBase10 Tryd.lays285 blk off cap u d w hH hu hu64 hsz
end Go.Proofs

namespace Go.Proofs
open Go.Shelf Go.RowKit Go.Sort Go.Lib Go.Hx
set_option linter.unusedVariables false
theorem Tryd.byteInfo : ∃ i, Tryd.prog.info? 5 = some i ∧ i.zero = some (.int .u8 0) ∧ i.size = 1 ∧ i.bytes = 1 := info_parts (by kernel_rfl)
set_option maxHeartbeats 6400000 in
set_option maxRecDepth 100000 in
theorem Tryd.appUint_small (n u : Nat) (hu : u < 100) (sv : Value) (xs : List Value) (w : World) (hown : w.ownsRow 0 5 1 sv n xs) (hlim : n + 20 ≤ 140737488355328) :
    Calls Tryd.prog 90 #[sv, .int .u64 u, .int .i64 10] w fun e w' => ∃ v', e = .returned v' ∧ w'.ownsRow 0 5 1 v' (n + (Lib.decDigits u).length) (xs ++ Lib.byteCells (Lib.decDigits u)) ∧ Apd w w' sv v' := by
  have hlen : (Lib.decDigits u).length ≤ 20 := by
    rw [Lib.decDigits_length]
    by_cases h10 : u < 10
    · rw [Lib.nDigits_small h10]; omega
    · rw [Lib.nDigits_big h10, Lib.nDigits_small (show u / 10 < 10 by omega)]; omega
  have hsz : (⟨(Lib.decDigits u).toArray⟩ : ByteArray).size = (Lib.decDigits u).length := by simp [ByteArray.size]
  have iu : (u : Int) < 100 := by omega
  have hw : IntKind.i64.wrap (u : Int) = (u : Int) := by rw [IntKind.wrap_i64]; omega
  obtain ⟨i, hi, hz0, hz1, hz2⟩ := Tryd.byteInfo
  obtain ⟨v', w', hr, ho, hg, hat⟩ := fl (P := Tryd.prog) w 0 22 9 22 5 i Tryd.underlying22 Tryd.underlying9 hi hz0 hz1 hz2 sv n xs hown ⟨(Lib.decDigits u).toArray⟩ (by rw [hsz]; unfold maxLen; omega) (by rw [hsz]; omega) (Nat.zero_le _)
  rw [hsz] at ho
  go_enter Tryd.func90, Tryd.ntmps90
  go_wp2_with (first
    | (go_at_call 93; refine (Tryd.internal_strconv_small u hu _).mono ?_; rintro e w2 ⟨rfl, rfl⟩)
    | (at_builtin; refine em rfl _ _ 22 9 rfl rfl rfl hr ?_))
  go_ret
  refine ⟨v', rfl, ?_, Apd.of hg hat⟩
  exact ho
set_option maxHeartbeats 12800000 in
set_option maxRecDepth 100000 in
theorem Tryd.appUint_big (n u : Nat) (hu : 100 ≤ u) (hu64 : u < 18446744073709551616) (sv : Value) (xs : List Value) (w : World) (hown : w.ownsRow 0 5 1 sv n xs) (hlim : n + 20 ≤ 140737488355328) (htab : Lib.TabIs Tryd.prog w "internal/strconv.uint64pow10" .u64 Lib.pow10Tab) :
    Calls Tryd.prog 90 #[sv, .int .u64 u, .int .i64 10] w fun e w' => ∃ v', e = .returned v' ∧ w'.ownsRow 0 5 1 v' (n + (Lib.decDigits u).length) (xs ++ Lib.byteCells (Lib.decDigits u)) ∧ Apd w w' sv v' := by
  obtain ⟨i0, hi, hz0, hz1, hz2⟩ := Tryd.byteInfo
  have hu1 : 1 ≤ u := by omega
  have hnd20 : Lib.nDigits u ≤ 20 := by have := Lib.numDigits_eq u hu1 hu64; split at this <;> omega
  have hal : Tryd.prog.arrayLen 157 = 24 := by simp [Program.arrayLen, Tryd.underlying157]
  have hsl : ∀ W, (Instr.sliceAt 157 (.pointer (some ⟨w.heap.size, 0, none⟩)) none (some (.int .i64 (Lib.nDigits u : Int))) none).run Tryd.prog W = .ok (.slice (some ⟨w.heap.size, 0, none⟩) (Lib.nDigits u) 24) W := fun W => by
    rw [run_sliceAt_array_h W 157 ⟨w.heap.size, 0, none⟩ (by simp [Program.arrayLen, Program.elem, Tryd.underlying157]) .i64 (Lib.nDigits u : Int) (by omega) (by rw [hal]; omega)]
    go_simp
  have hH0 := Lib.holds_zero0 w 157 (Lib.nDigits u) (by omega)
  have hfmt := Tryd.internal_strconv_formatBase10 w.heap.size 0 24 u (Array.replicate (Lib.nDigits u) 0) (w.alloc (.cells Lib.zeros24 157)) hH0 (by rw [Array.size_replicate]; exact Lib.lt_pow_nDigits u) hu64 (by rw [Array.size_replicate]; omega)
  rw [Array.size_replicate] at hfmt
  have HH0 := Lib.hid hH0
  have iu : (100 : Int) ≤ (u : Int) := by omega
  clear hH0 hal
  go_enter Tryd.func90, Tryd.ntmps90
  go_wp2_with (go_at_call 94; refine (Tryd.internal_strconv_numDigits u hu1 hu64 _ (Lib.tabIs_alloc htab _)).mono ?_; rintro e w2 ⟨rfl, rfl⟩)
  go_at_call 95
  refine hfmt.mono ?_
  rintro e w2 ⟨rfl, k, v2, dk, rfl, hF⟩
  have hcells : ∀ j u', (Lib.byteCells (Lib.decDigits u))[j]? = some u' → ((putRow (fun (b : UInt8) => Value.int .u8 (b.toNat : Int)) (w.alloc (.cells Lib.zeros24 157)) w.heap.size 0 dk).drewN k).cell? ((⟨w.heap.size, 0, none⟩ : Addr).add j) = some u' := by
    intro j u' hj
    have hjl : j < (Lib.decDigits u).length := by
      have h5 := (List.getElem?_eq_some_iff.1 hj).1
      rwa [Lib.byteCells_length] at h5
    have e5 : (Lib.byteCells (Lib.decDigits u))[j]? = some (Value.int .u8 ((Lib.decDigits u)[j].toNat : Int)) := by simp [Lib.byteCells, hjl]
    rw [e5] at hj
    cases hj
    rw [Lib.row_is_numeral hF j hjl, Lib.add_plain, World.cell?_drewN]
    exact cell?_putRow (fun (b : UInt8) => Value.int .u8 (b.toNat : Int)) _ w.heap.size 0 _ dk HH0.out (by rw [hF.size, Array.size_replicate]) j (by rw [hF.size]; rw [Lib.decDigits_length] at hjl; exact hjl)
  obtain ⟨os, eo⟩ := Lib.fin_at w (.cells Lib.zeros24 157) dk k 0
  have hown2 : ((putRow (fun (b : UInt8) => Value.int .u8 (b.toNat : Int)) (w.alloc (.cells Lib.zeros24 157)) w.heap.size 0 dk).drewN k).ownsRow 0 5 1 sv n xs := by rw [eo]; exact Lib.ownsRow_grow hown k os
  generalize (putRow (fun (b : UInt8) => Value.int .u8 (b.toNat : Int)) (w.alloc (.cells Lib.zeros24 157)) w.heap.size 0 dk).drewN k = W2 at hcells hown2 eo ⊢
  clear HH0 hfmt
  have EO := Lib.hid eo
  clear eo
  obtain ⟨v', w', hr, ho, hg, _, hat⟩ := run_append_own_at (P := Tryd.prog) W2 0 22 22 5 i0 (.int .u8 0) 1 1 Tryd.underlying22 hi hz0 hz1 hz2 rfl (by decide) sv n xs hown2 ⟨w.heap.size, 0, none⟩ (Lib.nDigits u) 24 (Lib.byteCells (Lib.decDigits u)) (by rw [Lib.byteCells_length, Lib.decDigits_length, Nat.mul_one]) hcells (by intro u' hu'; simp only [Lib.byteCells, List.mem_map] at hu'; obtain ⟨b, _, rfl⟩ := hu'; rfl) (by unfold maxLen; omega) (by omega) (Nat.zero_le _)
  go_wp2_with (at_builtin; refine em (v := sv) (y := .slice (some ⟨w.heap.size, 0, none⟩) (Lib.nDigits u) 24) rfl _ _ 22 22 rfl rfl rfl hr ?_)
  go_ret
  refine ⟨v', rfl, ?_, Apd.behind EO.out (Apd.of hg hat)⟩
  rw [Lib.decDigits_length]
  exact ho
set_option maxRecDepth 100000 in
theorem Tryd.appBool (n : Nat) (b : Bool) (sv : Value) (xs : List Value) (w : World) (hown : w.ownsRow 0 5 1 sv n xs) (hlim : n + 20 ≤ 140737488355328) :
    Calls Tryd.prog 89 #[sv, .bool b] w fun e w' => ∃ v', e = .returned v' ∧ w'.ownsRow 0 5 1 v' (n + (if b = true then [116, 114, 117, 101] else [102, 97, 108, 115, 101] : List UInt8).length) (xs ++ Lib.byteCells (if b = true then [116, 114, 117, 101] else [102, 97, 108, 115, 101])) ∧ Apd w w' sv v' := by
  obtain ⟨i, hi, hz0, hz1, hz2⟩ := Tryd.byteInfo
  cases b
  · obtain ⟨v', w', hr, ho, hg, hat⟩ := fl (P := Tryd.prog) w 0 22 9 22 5 i Tryd.underlying22 Tryd.underlying9 hi hz0 hz1 hz2 sv n xs hown ⟨#[102, 97, 108, 115, 101]⟩ (by show n + 5 ≤ _; unfold maxLen; omega) (by show n + 5 ≤ _; omega) (Nat.zero_le _)
    go_enter Tryd.func89, Tryd.ntmps89
    go_wp2_with (at_builtin; refine em rfl _ _ 22 9 rfl rfl rfl hr ?_)
    go_ret
    exact ⟨v', rfl, ho, Apd.of hg hat⟩
  · obtain ⟨v', w', hr, ho, hg, hat⟩ := fl (P := Tryd.prog) w 0 22 9 22 5 i Tryd.underlying22 Tryd.underlying9 hi hz0 hz1 hz2 sv n xs hown ⟨#[116, 114, 117, 101]⟩ (by show n + 4 ≤ _; unfold maxLen; omega) (by show n + 4 ≤ _; omega) (Nat.zero_le _)
    go_enter Tryd.func89, Tryd.ntmps89
    go_wp2_with (at_builtin; refine em rfl _ _ 22 9 rfl rfl rfl hr ?_)
    go_ret
    exact ⟨v', rfl, ho, Apd.of hg hat⟩
end Go.Proofs
namespace Go.Hx
open Go Go.Proofs
abbrev fa : Kp → Prop := TabOf Tryd.prog "internal/strconv.uint64pow10" .u64 Lib.pow10Tab
theorem ip {K : Kp} {G : List Ent} {s : SV} {rows : List (List Value)} {p0 l' : List Int} {u b : Int} (H : dL p0 u b = some l') (hr : RowR Ty.u8 K rows p0) (hT : fa K) :
    Fc Tryd.prog 90 #[sv s, .int .u64 u, .int .i64 b] K (.row (sv s) 5 1 rows.flatten :: G) (fun v K' G' => ∃ (u : SV) (rs : List (List Value)), v = sv u ∧ K = K' ∧ (.row (sv u) 5 1 rs.flatten :: G) = G' ∧ RowR Ty.u8 K' rs l') := by
  unfold dL at H
  split at H
  rotate_left
  · cases H
  rename_i h
  obtain ⟨h1, h2, rfl, h3⟩ := h
  cases H
  obtain ⟨v, rfl⟩ : ∃ v : Nat, u = (v : Int) := ⟨u.toNat, by omega⟩
  refine rp (rest := [.int .u64 v, .int .i64 10]) (Lib.decDigits v) hr fun w hsat hown => ?_
  by_cases hv : v < 100
  · exact Tryd.appUint_small _ v hv _ _ w hown (by omega)
  · exact Tryd.appUint_big _ v (by omega) (by omega) _ _ w hown (by omega) (hT w hsat.ko)
theorem oS {K : Kp} {G : List Ent} {s : SV} {rows : List (List Value)} {p0 l' : List Int} {b : Bool} (H : fJ p0 b = some l') (hr : RowR Ty.u8 K rows p0) :
    Fc Tryd.prog 89 #[sv s, .bool b] K (.row (sv s) 5 1 rows.flatten :: G) (fun v K' G' => ∃ (u : SV) (rs : List (List Value)), v = sv u ∧ K = K' ∧ (.row (sv u) 5 1 rs.flatten :: G) = G' ∧ RowR Ty.u8 K' rs l') := by
  unfold fJ at H
  split at H
  rotate_left
  · cases H
  rename_i h
  cases H
  have := rp (P := Tryd.prog) (f := 89) (G := G) (t := 5) (s := s) (rest := [.bool b]) (if b = true then [116, 114, 117, 101] else [102, 97, 108, 115, 101]) hr fun w hsat hown => Tryd.appBool _ b _ _ w hown (by omega)
  cases b <;> exact this
end Go.Hx
