
import Derived.Shelf.Strconv.Itoa0
import Derived.Shelf.Strconv.Itoa1
import Derived.Shelf.LaysM
import Derived.Shelf.Strconv.Itoa2
import Derived.Shelf.Strconv.AppendUint10
import Derived.Shelf.Strconv.AppendInt10
import Derived.Shelf.Strconv.AppendIntPublic10
import Derived.Ground.Names2Prog
import Derived.Shelf.Slices.Clone
import Derived.Ground.SlgnProg
import Derived.Shelf.SlicesE.Clone
import Derived.Test.YtphoeijgpmlbpaaGreatDoorProg
import Derived.Test.YtphoeijgpmlbpaaGreatDoorHxLoops
import Derived.Shelf.Strconv.Itoa3
import Derived.OwnWalk
import Derived.WalkKit
import Derived.BigCall
import Derived.BigGuard
set_option linter.unusedVariables false
namespace Go.Proofs
open Go.Shelf
def Tryz.lays283_ren : Go.Shelf.Ren := ⟨fun | 283 => 122 | n => n, fun | 3 => 3 | 9 => 9 | 4 => 4 | n => n, fun | n => n⟩
theorem Tryz.lays283 : Go.Proofs.Lays.n283 Tryz.prog Tryz.lays283_ren := {
 mixed := by kernel_rfl
 f283 := Tryz.func122.trans (congrArg some (by kernel_rfl))
 t3 := Tryz.underlying3
 a3 := Tryz.isAgg3
 z3 := Tryz.sizeOf3
 v3 := Tryz.zeroValue3
 t4 := Tryz.underlying4
 a4 := Tryz.isAgg4
 z4 := Tryz.sizeOf4
 v4 := Tryz.zeroValue4
 t9 := Tryz.underlying9
 a9 := Tryz.isAgg9
 z9 := Tryz.sizeOf9
 v9 := Tryz.zeroValue9 }
open Go.Lib in
theorem Tryz.internal_strconv_small (i : Nat) (h : i < 100) (w : World) :
  Calls Tryz.prog 122 #[.int .i64 i] w fun e w' => e = .returned (.string ⟨(Lib.decDigits i).toArray⟩) ∧ w' = w := Any.internal_strconv_small Tryz.lays283 i h w
def Tryz.laysM284_ren : Go.Shelf.Ren := ⟨fun | 284 => 123 | 129 => 127 | 317 => 126 | 318 => 128 | n => n, fun | 53 => 36 | 3 => 3 | 212 => 187 | 0 => 0 | 4 => 4 | 46 => 172 | 5 => 5 | 9 => 9 | n => n, fun | 17 => 0 | n => n⟩
theorem Tryz.laysM284 : Go.Proofs.LaysM.n284 Tryz.prog Tryz.laysM284_ren := {
 mixed := by kernel_rfl
 f129 := Tryz.func127.trans (congrArg some (by kernel_rfl))
 f284 := Tryz.func123.trans (congrArg some (by kernel_rfl))
 f317 := Tryz.func126.trans (congrArg some (by kernel_rfl))
 f318 := Tryz.func128.trans (congrArg some (by kernel_rfl))
 t0 := Tryz.underlying0
 a0 := Tryz.isAgg0
 z0 := Tryz.sizeOf0
 v0 := Tryz.zeroValue0
 t3 := Tryz.underlying3
 a3 := Tryz.isAgg3
 z3 := Tryz.sizeOf3
 v3 := Tryz.zeroValue3
 t4 := Tryz.underlying4
 a4 := Tryz.isAgg4
 z4 := Tryz.sizeOf4
 v4 := Tryz.zeroValue4
 t5 := Tryz.underlying5
 a5 := Tryz.isAgg5
 z5 := Tryz.sizeOf5
 v5 := Tryz.zeroValue5
 t9 := Tryz.underlying9
 a9 := Tryz.isAgg9
 z9 := Tryz.sizeOf9
 v9 := Tryz.zeroValue9
 t46 := Tryz.underlying172
 a46 := Tryz.isAgg172
 z46 := Tryz.sizeOf172
 v46 := Tryz.zeroValue172
 t53 := Tryz.underlying36
 a53 := Tryz.isAgg36
 z53 := Tryz.sizeOf36
 v53 := Tryz.zeroValue36
 t212 := Tryz.underlying187
 a212 := Tryz.isAgg187
 z212 := Tryz.sizeOf187
 v212 := Tryz.zeroValue187
 g17 := by kernel_rfl
 i0 := by kernel_rfl
 i3 := by kernel_rfl
 i4 := by kernel_rfl
 i5 := by kernel_rfl
 i9 := by kernel_rfl
 i46 := by kernel_rfl
 i53 := by kernel_rfl
 i212 := by kernel_rfl
 m17 := by kernel_rfl }
open Go.Lib in
theorem Tryz.internal_strconv_numDigits (u : Nat) (h1 : 1 ≤ u) (h2 : u < 18446744073709551616) (w : World) (htab : Lib.TabIs Tryz.prog w "internal/strconv.uint64pow10" .u64 Lib.pow10Tab) :
  Calls Tryz.prog 123 #[.int .u64 u] w fun e w' => e = .returned (.int .i64 (Lib.nDigits u)) ∧ w' = w := Any.internal_strconv_numDigits Tryz.laysM284 u h1 h2 w htab
def Tryz.lays285_ren : Go.Shelf.Ren := ⟨fun | 285 => 124 | n => n, fun | 37 => 22 | 53 => 36 | 3 => 3 | 4 => 4 | 51 => 188 | 9 => 9 | 5 => 5 | 0 => 0 | n => n, fun | n => n⟩
theorem Tryz.lays285 : Go.Proofs.Lays.n285 Tryz.prog Tryz.lays285_ren := {
 mixed := by kernel_rfl
 f285 := Tryz.func124.trans (congrArg some (by kernel_rfl))
 t0 := Tryz.underlying0
 a0 := Tryz.isAgg0
 z0 := Tryz.sizeOf0
 v0 := Tryz.zeroValue0
 t3 := Tryz.underlying3
 a3 := Tryz.isAgg3
 z3 := Tryz.sizeOf3
 v3 := Tryz.zeroValue3
 t4 := Tryz.underlying4
 a4 := Tryz.isAgg4
 z4 := Tryz.sizeOf4
 v4 := Tryz.zeroValue4
 t5 := Tryz.underlying5
 a5 := Tryz.isAgg5
 z5 := Tryz.sizeOf5
 v5 := Tryz.zeroValue5
 t9 := Tryz.underlying9
 a9 := Tryz.isAgg9
 z9 := Tryz.sizeOf9
 v9 := Tryz.zeroValue9
 t37 := Tryz.underlying22
 a37 := Tryz.isAgg22
 z37 := Tryz.sizeOf22
 v37 := Tryz.zeroValue22
 t51 := Tryz.underlying188
 a51 := Tryz.isAgg188
 z51 := Tryz.sizeOf188
 v51 := Tryz.zeroValue188
 t53 := Tryz.underlying36
 a53 := Tryz.isAgg36
 z53 := Tryz.sizeOf36
 v53 := Tryz.zeroValue36 }
open Go.RowKit Go.Sort Go.Lib in
theorem Tryz.internal_strconv_formatBase10 (blk off cap : Nat) (u : Nat) (d : Array UInt8) (w : World) (hH : Holds (fun (b : UInt8) => Value.int .u8 (b.toNat : Int)) w blk off d) (hu : u < 10 ^ d.size) (hu64 : u < 18446744073709551616) (hsz : d.size < 4611686018427387904) :
  Calls Tryz.prog 124 #[.slice (some ⟨blk, off, none⟩) d.size cap, .int .u64 u] w fun e w' =>
   e = .returned (.tuple #[]) ∧ ∃ (n v' : Nat) (dk : Array UInt8), w' = (putRow (fun (b : UInt8) => Value.int .u8 (b.toNat : Int)) w blk off dk).drewN n ∧ FmtInv d.size u 0 v' dk := Any.internal_strconv_formatBase10 Tryz.lays285 blk off cap u d w hH hu hu64 hsz
end Go.Proofs
namespace Go.Proofs
open Go.Shelf Go.RowKit Go.Sort Go.Lib Go.Hx
theorem Tryz.byteInfo : ∃ i, Tryz.prog.info? 5 = some i ∧ i.zero = some (.int .u8 0) ∧ i.size = 1 ∧ i.bytes = 1 := info_parts (by kernel_rfl)
set_option maxHeartbeats 6400000 in
set_option maxRecDepth 100000 in
theorem Tryz.appUint_small (n u : Nat) (hu : u < 100) (sv : Value) (xs : List Value) (w : World) (hown : w.ownsRow 0 5 1 sv n xs) (hlim : n + 20 ≤ 140737488355328) :
  Calls Tryz.prog 116 #[sv, .int .u64 u, .int .i64 10] w fun e w' => ∃ v', e = .returned v' ∧ w'.ownsRow 0 5 1 v' (n + (Lib.decDigits u).length) (xs ++ Lib.byteCells (Lib.decDigits u)) ∧ Apd w w' sv v' := by
 have hlen : (Lib.decDigits u).length ≤ 20 := by
  rw [Lib.decDigits_length]
  by_cases h10 : u < 10
  ·rw [Lib.nDigits_small h10]; omega
  ·rw [Lib.nDigits_big h10, Lib.nDigits_small (show u / 10 < 10 by omega)]; omega
 have hsz : (⟨(Lib.decDigits u).toArray⟩ : ByteArray).size = (Lib.decDigits u).length := by simp [ByteArray.size]
 have iu : (u : Int) < 100 := by omega
 have hw : IntKind.i64.wrap (u : Int) = (u : Int) := by rw [IntKind.wrap_i64]; omega
 obtain ⟨i, hi, hz0, hz1, hz2⟩ := Tryz.byteInfo
 obtain ⟨v', w', hr, ho, hg, hat⟩ := mP (P := Tryz.prog) w 0 22 9 22 5 i Tryz.underlying22 Tryz.underlying9 hi hz0 hz1 hz2 sv n xs hown ⟨(Lib.decDigits u).toArray⟩ (by rw [hsz]; unfold maxLen; omega) (by rw [hsz]; omega) (Nat.zero_le _)
 rw [hsz] at ho
 go_enter Tryz.func116, Tryz.ntmps116
 go_wp2_with (first
  | (go_at_call 122; refine (Tryz.internal_strconv_small u hu _).mono ?_; rintro e w2 ⟨rfl, rfl⟩)
  | (at_builtin; refine ly rfl _ _ 22 9 rfl rfl rfl hr ?_))
 go_ret
 refine ⟨v', rfl, ?_, Apd.of hg hat⟩
 exact ho
set_option maxHeartbeats 12800000 in
set_option maxRecDepth 100000 in
theorem Tryz.appUint_big (n u : Nat) (hu : 100 ≤ u) (hu64 : u < 18446744073709551616) (sv : Value) (xs : List Value) (w : World) (hown : w.ownsRow 0 5 1 sv n xs) (hlim : n + 20 ≤ 140737488355328) (htab : Lib.TabIs Tryz.prog w "internal/strconv.uint64pow10" .u64 Lib.pow10Tab) :
  Calls Tryz.prog 116 #[sv, .int .u64 u, .int .i64 10] w fun e w' => ∃ v', e = .returned v' ∧ w'.ownsRow 0 5 1 v' (n + (Lib.decDigits u).length) (xs ++ Lib.byteCells (Lib.decDigits u)) ∧ Apd w w' sv v' := by
 obtain ⟨i0, hi, hz0, hz1, hz2⟩ := Tryz.byteInfo
 have hu1 : 1 ≤ u := by omega
 have hnd20 : Lib.nDigits u ≤ 20 := by have := Lib.numDigits_eq u hu1 hu64; split at this <;> omega
 have hal : Tryz.prog.arrayLen 181 = 24 := by simp [Program.arrayLen, Tryz.underlying181]
 have hsl : ∀ W, (Instr.sliceAt 181 (.pointer (some ⟨w.heap.size, 0, none⟩)) none (some (.int .i64 (Lib.nDigits u : Int))) none).run Tryz.prog W = .ok (.slice (some ⟨w.heap.size, 0, none⟩) (Lib.nDigits u) 24) W := fun W => by
  rw [run_sliceAt_array_h W 181 ⟨w.heap.size, 0, none⟩ (by simp [Program.arrayLen, Program.elem, Tryz.underlying181]) .i64 (Lib.nDigits u : Int) (by omega) (by rw [hal]; omega)]
  go_simp
 have hH0 := Lib.holds_zero0 w 181 (Lib.nDigits u) (by omega)
 have hfmt := Tryz.internal_strconv_formatBase10 w.heap.size 0 24 u (Array.replicate (Lib.nDigits u) 0) (w.alloc (.cells Lib.zeros24 181)) hH0 (by rw [Array.size_replicate]; exact Lib.lt_pow_nDigits u) hu64 (by rw [Array.size_replicate]; omega)
 rw [Array.size_replicate] at hfmt
 have HH0 := Lib.hid hH0
 have iu : (100 : Int) ≤ (u : Int) := by omega
 clear hH0 hal
 go_enter Tryz.func116, Tryz.ntmps116
 go_wp2_with (go_at_call 123; refine (Tryz.internal_strconv_numDigits u hu1 hu64 _ (Lib.tabIs_alloc htab _)).mono ?_; rintro e w2 ⟨rfl, rfl⟩)
 go_at_call 124
 refine hfmt.mono ?_
 rintro e w2 ⟨rfl, k, v2, dk, rfl, hF⟩
 have hcells : ∀ j u', (Lib.byteCells (Lib.decDigits u))[j]? = some u' → ((putRow (fun (b : UInt8) => Value.int .u8 (b.toNat : Int)) (w.alloc (.cells Lib.zeros24 181)) w.heap.size 0 dk).drewN k).cell? ((⟨w.heap.size, 0, none⟩ : Addr).add j) = some u' := by
  intro j u' hj
  have hjl : j < (Lib.decDigits u).length := by
   have h5 := (List.getElem?_eq_some_iff.1 hj).1
   rwa [Lib.byteCells_length] at h5
  have e5 : (Lib.byteCells (Lib.decDigits u))[j]? = some (Value.int .u8 ((Lib.decDigits u)[j].toNat : Int)) := by simp [Lib.byteCells, hjl]
  rw [e5] at hj
  cases hj
  rw [Lib.row_is_numeral hF j hjl, Lib.add_plain, World.cell?_drewN]
  exact cell?_putRow (fun (b : UInt8) => Value.int .u8 (b.toNat : Int)) _ w.heap.size 0 _ dk HH0.out (by rw [hF.size, Array.size_replicate]) j (by rw [hF.size]; rw [Lib.decDigits_length] at hjl; exact hjl)
 obtain ⟨os, eo⟩ := Lib.fin_at w (.cells Lib.zeros24 181) dk k 0
 have hown2 : ((putRow (fun (b : UInt8) => Value.int .u8 (b.toNat : Int)) (w.alloc (.cells Lib.zeros24 181)) w.heap.size 0 dk).drewN k).ownsRow 0 5 1 sv n xs := by rw [eo]; exact Lib.ownsRow_grow hown k os
 generalize (putRow (fun (b : UInt8) => Value.int .u8 (b.toNat : Int)) (w.alloc (.cells Lib.zeros24 181)) w.heap.size 0 dk).drewN k = W2 at hcells hown2 eo ⊢
 clear HH0 hfmt
 have EO := Lib.hid eo
 clear eo
 obtain ⟨v', w', hr, ho, hg, _, hat⟩ := run_append_own_at (P := Tryz.prog) W2 0 22 22 5 i0 (.int .u8 0) 1 1 Tryz.underlying22 hi hz0 hz1 hz2 rfl (by decide) sv n xs hown2 ⟨w.heap.size, 0, none⟩ (Lib.nDigits u) 24 (Lib.byteCells (Lib.decDigits u)) (by rw [Lib.byteCells_length, Lib.decDigits_length, Nat.mul_one]) hcells (by intro u' hu'; simp only [Lib.byteCells, List.mem_map] at hu'; obtain ⟨b, _, rfl⟩ := hu'; rfl) (by unfold maxLen; omega) (by omega) (Nat.zero_le _)
 go_wp2_with (at_builtin; refine ly (v := sv) (y := .slice (some ⟨w.heap.size, 0, none⟩) (Lib.nDigits u) 24) rfl _ _ 22 22 rfl rfl rfl hr ?_)
 go_ret
 refine ⟨v', rfl, ?_, Apd.behind EO.out (Apd.of hg hat)⟩
 rw [Lib.decDigits_length]
 exact ho
set_option maxRecDepth 100000 in
theorem Tryz.appBool (n : Nat) (b : Bool) (sv : Value) (xs : List Value) (w : World) (hown : w.ownsRow 0 5 1 sv n xs) (hlim : n + 20 ≤ 140737488355328) :
  Calls Tryz.prog 115 #[sv, .bool b] w fun e w' => ∃ v', e = .returned v' ∧ w'.ownsRow 0 5 1 v' (n + (if b = true then [116, 114, 117, 101] else [102, 97, 108, 115, 101] : List UInt8).length) (xs ++ Lib.byteCells (if b = true then [116, 114, 117, 101] else [102, 97, 108, 115, 101])) ∧ Apd w w' sv v' := by
 obtain ⟨i, hi, hz0, hz1, hz2⟩ := Tryz.byteInfo
 cases b
 ·obtain ⟨v', w', hr, ho, hg, hat⟩ := mP (P := Tryz.prog) w 0 22 9 22 5 i Tryz.underlying22 Tryz.underlying9 hi hz0 hz1 hz2 sv n xs hown ⟨#[102, 97, 108, 115, 101]⟩ (by show n + 5 ≤ _; unfold maxLen; omega) (by show n + 5 ≤ _; omega) (Nat.zero_le _)
  go_enter Tryz.func115, Tryz.ntmps115
  go_wp2_with (at_builtin; refine ly rfl _ _ 22 9 rfl rfl rfl hr ?_)
  go_ret
  exact ⟨v', rfl, ho, Apd.of hg hat⟩
 ·obtain ⟨v', w', hr, ho, hg, hat⟩ := mP (P := Tryz.prog) w 0 22 9 22 5 i Tryz.underlying22 Tryz.underlying9 hi hz0 hz1 hz2 sv n xs hown ⟨#[116, 114, 117, 101]⟩ (by show n + 4 ≤ _; unfold maxLen; omega) (by show n + 4 ≤ _; omega) (Nat.zero_le _)
  go_enter Tryz.func115, Tryz.ntmps115
  go_wp2_with (at_builtin; refine ly rfl _ _ 22 9 rfl rfl rfl hr ?_)
  go_ret
  exact ⟨v', rfl, ho, Apd.of hg hat⟩
end Go.Proofs
namespace Go.Hx
open Go Go.Proofs
abbrev li : Kp → Prop := TabOf Tryz.prog "internal/strconv.uint64pow10" .u64 Lib.pow10Tab
theorem qI {K : Kp} {G : List Ent} {s : SV} {rows : List (List Value)} {p0 l' : List Int} {u b : Int} (H : kR p0 u b = some l') (hr : RowR Ty.u8 K rows p0) (hT : li K) :
  Fc Tryz.prog 116 #[sv s, .int .u64 u, .int .i64 b] K (.row (sv s) 5 1 rows.flatten :: G) (fun v K' G' => ∃ (u : SV) (rs : List (List Value)), v = sv u ∧ K = K' ∧ (.row (sv u) 5 1 rs.flatten :: G) = G' ∧ RowR Ty.u8 K' rs l') := by
 unfold kR at H
 split at H
 rotate_left
 ·cases H
 rename_i h
 obtain ⟨h1, h2, rfl, h3⟩ := h
 cases H
 obtain ⟨v, rfl⟩ : ∃ v : Nat, u = (v : Int) := ⟨u.toNat, by omega⟩
 refine Da (rest := [.int .u64 v, .int .i64 10]) (Lib.decDigits v) hr fun w hsat hown => ?_
 by_cases hv : v < 100
 ·exact Tryz.appUint_small _ v hv _ _ w hown (by omega)
 ·exact Tryz.appUint_big _ v (by omega) (by omega) _ _ w hown (by omega) (hT w hsat.ko)
theorem zI {K : Kp} {G : List Ent} {s : SV} {rows : List (List Value)} {p0 l' : List Int} {b : Bool} (H : nk p0 b = some l') (hr : RowR Ty.u8 K rows p0) :
  Fc Tryz.prog 115 #[sv s, .bool b] K (.row (sv s) 5 1 rows.flatten :: G) (fun v K' G' => ∃ (u : SV) (rs : List (List Value)), v = sv u ∧ K = K' ∧ (.row (sv u) 5 1 rs.flatten :: G) = G' ∧ RowR Ty.u8 K' rs l') := by
 unfold nk at H
 split at H
 rotate_left
 ·cases H
 rename_i h
 cases H
 have := Da (P := Tryz.prog) (f := 115) (G := G) (t := 5) (s := s) (rest := [.bool b]) (if b = true then [116, 114, 117, 101] else [102, 97, 108, 115, 101]) hr fun w hsat hown => Tryz.appBool _ b _ _ w hown (by omega)
 cases b <;> exact this
end Go.Hx
