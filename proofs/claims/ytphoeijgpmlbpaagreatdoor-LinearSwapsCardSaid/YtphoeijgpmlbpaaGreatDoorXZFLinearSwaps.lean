/- For every input the law returns true, and each argument reads behind the call as it read before. Condition: the tables of the library that the row lists read as the text lays them (the given tie). -/
import Derived.Test.YtphoeijgpmlbpaaGreatDoorXZWRef162
import Derived.Test.YtphoeijgpmlbpaaGreatDoorXZRRun
import Derived.Test.YtphoeijgpmlbpaaGreatDoorCards
import Derived.Test.YtphoeijgpmlbpaaGreatDoorTie
import Derived.Test.YtphoeijgpmlbpaaGreatDoorHxLaw
import Derived.ProofKit
import Derived.WalkKit
import Derived.OpenShut
import Derived.Deep.DeepHandedRow
import Derived.Lib.LaidTab
import Derived.Stop.LaidErr
import Derived.MakeChecks
namespace Go.Hx
open Go Go.ChangeShapes Go.WideShapes Go.RowKit Go.Proofs Go.Proofs.YtphoeijgpmlbpaaGreatDoor

end Go.Hx
namespace Go.Proofs.YtphoeijgpmlbpaaGreatDoor
open Go.ChangeShapes Go.WideShapes Go.ChangeAt Go.RowKit Go.Hx
theorem Tryz.own : ownKnob Tryz.prog.godebug = none := by kernel_rfl
theorem Tryz.laidOut : laidOutB Tryz.prog = true := by kernel_rfl
set_option maxRecDepth 100000
theorem gTab : Tryz.prog.globalNamed "internal/strconv.uint64pow10" = some 0 := by kernel_rfl
theorem CU : (Tryz.prog.globals[0]?).map (·.type) = some 187 := by kernel_rfl
theorem EY : Tryz.prog.cellsOf 187 = 20 := by kernel_rfl
theorem EX : Tryz.prog.cellsOf 36 = 1 := by kernel_rfl
theorem CS : (Rows.laid_internal_strconv_uint64pow10 : DataW Unit) = Lib.tabData .u64 Lib.pow10Tab := by kernel_rfl
theorem table {W : World} (h : laidMetH Tryz.prog Rows.linearSwapsRow.laid W) : Lib.TabIs Tryz.prog W "internal/strconv.uint64pow10" .u64 Lib.pow10Tab := by
 rw [Go.MakeChecks.laidMetH_plain Tryz.prog Rows.linearSwapsRow.laid W (by kernel_rfl)] at h
 have h2 : laidMet Tryz.prog [("internal/strconv.uint64pow10", Rows.laid_internal_strconv_uint64pow10)] W := laidMet.tail (laidMet.tail h)
 rw [CS] at h2
 exact Lib.tabIs_of_head (rest := []) gTab CU Tryz.underlying187 Tryz.underlying36 EX EY h2
theorem CO (H : Type) (enc : TypeId × Value → H) (W : World) (base : Nat) (args : Array Value) (ds gs : List (DataW H)) (before : List MemPlace)
  (hval0 : ∀ (j : Nat) t v, Tryz.f4.params[j]? = some t → args[j]? = some v → Value.okWide Tryz.prog W .any base t v)
  (hW : DataW.Whole enc Tryz.prog Tryz.f4.params.toList Rows.linearSwapsSpec.vars false W args.toList ds gs before) (hL : laidMetH Tryz.prog Rows.linearSwapsRow.laid W) :
  Calls Tryz.prog 4 args W fun e W' => ∃ v, e = .returned v ∧ Rows.linearSwapsSpec.post enc Tryz.prog Tryz.f4 false true false false W args v W' := by
 have hval : ∀ (j : Nat) t v, Tryz.f4.params[j]? = some t → args[j]? = some v → Value.okWide Tryz.prog W .any base t v := hval0
 have hW' := hW
 obtain ⟨p, q, hA0, hV, hps, hfz, hnd⟩ := hW
 have hA : DataW.TrodAll enc Tryz.prog W 0 (fun _ => true) true Tryz.f4.params.toList args.toList ds p := hA0
 rw [Tryz.params4] at hA hval
 clear hA0 hval0 hps hfz hnd
 obtain ⟨rfl, rfl⟩ := trodVars_none hV
 obtain ⟨al⟩ := args
 dsimp only [] at hA
 have hT : mq (s8 W) := TabOf.start (table hL) gTab fun _ => rfl
 obtain ⟨v0, vs0, d0, ds0, p0, q0, rfl, rfl, rfl, t0, h0⟩ := Go.ChangeShapes.trodAll_cons hA
 obtain ⟨v1, vs1, d1, ds1, p1, q1, rfl, rfl, rfl, t1, h1⟩ := Go.ChangeShapes.trodAll_cons h0
 obtain ⟨v2, vs2, d2, ds2, p2, q2, rfl, rfl, rfl, t2, h2⟩ := Go.ChangeShapes.trodAll_cons h1
 obtain ⟨v3, vs3, d3, ds3, p3, q3, rfl, rfl, rfl, t3, h3⟩ := Go.ChangeShapes.trodAll_cons h2
 obtain ⟨rfl, rfl, rfl⟩ := trodAll_nil h3
 obtain ⟨x0, s0, rfl, sl0, w0⟩ := Ah Tryz.underlying22 (Opens.sl Tryz.underlying22 (by kernel_rfl) (Opens.u8 Tryz.underlying5)) (hval 0 22 v0 rfl rfl) t0
 obtain ⟨x1, rfl, e1, z1, w1⟩ := open_int Tryz.underlying3 (hval 1 3 v1 rfl rfl) t1
 have w1 := zg w1
 obtain ⟨x2, rfl, e2, z2, w2⟩ := open_int Tryz.underlying3 (hval 2 3 v2 rfl rfl) t2
 have w2 := zg w2
 obtain ⟨x3, rfl, e3, z3, w3⟩ := open_int Tryz.underlying3 (hval 3 3 v3 rfl rfl) t3
 have w3 := zg w3
 have hlaw := pL x0 x1 x2 x3 w0.2
 exact CY (tb := 4) Tryz.laidOut (by kernel_rfl) Tryz.underlying4 (by kernel_rfl) hW' rfl rfl rfl rfl ((CE x0 s0 x1 x2 x3 true hlaw (s8 W) [] sl0 hT).mono fun _ _ _ _ h => h.1)
def iJ : List (DataW Unit) → List Value
 | .lit (.int k n) :: r => .int k n :: iJ r
 | _ => []
def tA : DataW Unit → Array Value
 | .agg l => (iJ l).toArray
 | _ => #[]
def y7 (cs : Array Value) : Obj → Obj
 | .cells _ t frozen => .cells cs t frozen
 | o => o
noncomputable def laidWorld (os : Os) : World :=
 {World.holding Tryz.prog os ⟨#[], #[], []⟩ with heap := ((((World.holding Tryz.prog os ⟨#[], #[], []⟩).heap.modify 0 (y7 (tA Rows.laid_internal_strconv_uint64pow10))).modify 1 (y7 (tA Rows.laid_math_bits_deBruijn32tab))).modify 2 (y7 (tA Rows.laid_math_bits_deBruijn64tab))) }
theorem laid_met (os : Os) : laidMet Tryz.prog Rows.linearSwapsRow.laid ((laidWorld os).forCall (fun _ _ => 0) ⟨#[], #[.slice none 0 0, .int .i64 0, .int .i64 0, .int .i64 0], []⟩).memory :=
 laidMet_of_run' 8 (by kernel_rfl) (by kernel_rfl)
theorem reads (os : Os) {H : Type} (enc : TypeId × Value → H) : ∃ places, DataW.whole enc Tryz.prog ((laidWorld os).forCall (fun _ _ => 0) ⟨#[], #[.slice none 0 0, .int .i64 0, .int .i64 0, .int .i64 0], []⟩).memory Tryz.f4.params.toList Rows.linearSwapsSpec.vars false (#[.slice none 0 0, .int .i64 0, .int .i64 0, .int .i64 0] : Array Value).toList 8 = some ([.nil, .lit (.int .i64 0), .lit (.int .i64 0), .lit (.int .i64 0)], [], places) :=
 ⟨[], by kernel_rfl⟩
theorem lifted (os : Os) (started : os.Started) (H : Type) (enc : TypeId × Value → H) (F : Stop.Interp) :
  ReturnsInHanded {} Tryz.checked os 4 .any ((OpenSpec.ofChange Rows.linearSwapsSpec).preRow enc Tryz.prog Tryz.f4 Rows.linearSwapsRow.domain false Rows.linearSwapsRow.laid) (((OpenSpec.ofChange Rows.linearSwapsSpec).at F).post enc Tryz.prog Tryz.f4 false true false false) := by
 obtain ⟨places, hx⟩ := reads os enc
 refine returnsInHanded_of_row (C := Tryz.checked) (s := OpenSpec.ofChange Rows.linearSwapsSpec) Tryz.own started (by kernel_rfl) Tryz.func4
  (witness_row_at (enc := enc) (C := Tryz.checked) false (laidWorld os) #[.slice none 0 0, .int .i64 0, .int .i64 0, .int .i64 0] rfl (by kernel_rfl) (by kernel_rfl) (by kernel_rfl)
   (OpenSpec.preRow_of_cond 8 hx (by kernel_rfl) (fun k hk => by cases hk) (by kernel_rfl) (laid_met os))) ?_
 intro W base args ds gs before hval hW _ _ _ hL _ _
 exact CO H enc W base args ds gs before hval hW hL
theorem oR : Rows.LinearSwapsSaid :=
 OpenClaim.holds_of_cond 4 Tryz.f4 rfl rfl rfl rfl rfl rfl rfl ⟨rfl, rfl, rfl, rfl, rfl⟩ rfl rfl rfl rfl rfl (by kernel_rfl) Tryz.func4 (by kernel_rfl)
  (of_decide_eq_true (by kernel_rfl)) (by unfold Func.isWrapper; first | (rw [if_pos (by decide +kernel)]; kernel_rfl) | (rw [if_neg (by decide +kernel)]; exact ⟨rfl, rfl⟩))
  (fun os started H enc _ F => by rw [OpenClaim.pre_eq_preRow]; exact lifted os started H enc F)
theorem plain (f : FuncId) (fn : Func) (hf : Tryz.pinned.checked.prog.funcNamed "chanfabric/chanfabriclaw17.LinearSwaps" = some f) (hfn : Tryz.pinned.checked.prog.funcs[f]? = some fn) :
  false = Tryz.pinned.checked.prog.looks [] ∧ ∀ (j : Nat) t, fn.params[j]? = some t → Tryz.pinned.checked.prog.wantsStandIn t = false := by
 obtain rfl : f = 4 := Option.some.inj ((show Tryz.prog.funcNamed "chanfabric/chanfabriclaw17.LinearSwaps" = some 4 by kernel_rfl).symm.trans hf) |>.symm
 obtain rfl : fn = Tryz.f4 := (Option.some.inj (Tryz.func4.symm.trans hfn)).symm
 refine ⟨by kernel_rfl, fun j t ht => ?_⟩
 rw [Tryz.params4] at ht
 have hm := Array.mem_of_getElem? ht
 simp only [List.mem_toArray, List.mem_cons, List.not_mem_nil, or_false] at hm
 rcases hm with rfl | rfl | rfl | rfl
 ·exact (show Tryz.prog.wantsStandIn 22 = false by kernel_rfl)
 ·exact (show Tryz.prog.wantsStandIn 3 = false by kernel_rfl)
 ·exact (show Tryz.prog.wantsStandIn 3 = false by kernel_rfl)
 ·exact (show Tryz.prog.wantsStandIn 3 = false by kernel_rfl)
theorem linearSwapsCard_holds : Rows.LinearSwapsCardSaid :=
 Claim7.holds_tied_plain_at .later [] _ _ _ _ oR (fun _ h => by cases h) (by kernel_rfl) (fun _ h => by cases h) linearSwaps_row_tie rfl ⟨rfl, rfl⟩ (by kernel_rfl) rfl plain (by kernel_rfl)
end Go.Proofs.YtphoeijgpmlbpaaGreatDoor
