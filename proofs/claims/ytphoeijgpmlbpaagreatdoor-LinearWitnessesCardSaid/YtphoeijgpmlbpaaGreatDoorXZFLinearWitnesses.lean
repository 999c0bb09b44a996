/- For every input the law returns true, and each argument reads behind the call as it read before. Condition: the tables of the library that the row lists read as the text lays them (the given tie). -/
import Derived.Test.YtphoeijgpmlbpaaGreatDoorXZWLaw172
import Derived.Test.YtphoeijgpmlbpaaGreatDoorXZRRun
import Derived.Test.YtphoeijgpmlbpaaGreatDoorCards
import Derived.Test.YtphoeijgpmlbpaaGreatDoorTie
import Derived.Test.YtphoeijgpmlbpaaGreatDoorHxLaw
import Derived.ProofKit
import Derived.WalkKit
import Derived.OpenShut
import Derived.Deep.DeepHandedRow
import Derived.Lib.LaidTab
import Derived.Stop.LaidErr
import Derived.MakeChecks
namespace Go.Hx
open Go Go.ChangeShapes Go.WideShapes Go.RowKit Go.Proofs Go.Proofs.YtphoeijgpmlbpaaGreatDoor

end Go.Hx
namespace Go.Proofs.YtphoeijgpmlbpaaGreatDoor
open Go.ChangeShapes Go.WideShapes Go.ChangeAt Go.RowKit Go.Hx
theorem Tryz.own : ownKnob Tryz.prog.godebug = none := by kernel_rfl
theorem Tryz.laidOut : laidOutB Tryz.prog = true := by kernel_rfl
set_option maxRecDepth 100000
theorem gTab : Tryz.prog.globalNamed "internal/strconv.uint64pow10" = some 0 := by kernel_rfl
theorem DJ : (Tryz.prog.globals[0]?).map (·.type) = some 187 := by kernel_rfl
theorem FU : Tryz.prog.cellsOf 187 = 20 := by kernel_rfl
theorem FT : Tryz.prog.cellsOf 36 = 1 := by kernel_rfl
theorem DI : (Rows.laid_internal_strconv_uint64pow10 : DataW Unit) = Lib.tabData .u64 Lib.pow10Tab := by kernel_rfl
theorem table {W : World} (h : laidMetH Tryz.prog Rows.linearWitnessesRow.laid W) : Lib.TabIs Tryz.prog W "internal/strconv.uint64pow10" .u64 Lib.pow10Tab := by
 rw [Go.MakeChecks.laidMetH_plain Tryz.prog Rows.linearWitnessesRow.laid W (by kernel_rfl)] at h
 have h2 : laidMet Tryz.prog [("internal/strconv.uint64pow10", Rows.laid_internal_strconv_uint64pow10)] W := laidMet.tail (laidMet.tail h)
 rw [DI] at h2
 exact Lib.tabIs_of_head (rest := []) gTab DJ Tryz.underlying187 Tryz.underlying36 FT FU h2
theorem DC (H : Type) (enc : TypeId × Value → H) (W : World) (base : Nat) (args : Array Value) (ds gs : List (DataW H)) (before : List MemPlace)
  (hval0 : ∀ (j : Nat) t v, Tryz.f5.params[j]? = some t → args[j]? = some v → Value.okWide Tryz.prog W .any base t v)
  (hW : DataW.Whole enc Tryz.prog Tryz.f5.params.toList Rows.linearWitnessesSpec.vars false W args.toList ds gs before) (hL : laidMetH Tryz.prog Rows.linearWitnessesRow.laid W) :
  Calls Tryz.prog 5 args W fun e W' => ∃ v, e = .returned v ∧ Rows.linearWitnessesSpec.post enc Tryz.prog Tryz.f5 false true false false W args v W' := by
 have hval : ∀ (j : Nat) t v, Tryz.f5.params[j]? = some t → args[j]? = some v → Value.okWide Tryz.prog W .any base t v := hval0
 have hW' := hW
 obtain ⟨p, q, hA0, hV, hps, hfz, hnd⟩ := hW
 have hA : DataW.TrodAll enc Tryz.prog W 0 (fun _ => true) true Tryz.f5.params.toList args.toList ds p := hA0
 rw [Tryz.params5] at hA hval
 clear hA0 hval0 hps hfz hnd
 obtain ⟨rfl, rfl⟩ := trodVars_none hV
 obtain ⟨al⟩ := args
 dsimp only [] at hA
 have hT : mO (tK W) := TabOf.start (table hL) gTab fun _ => rfl
 obtain ⟨v0, vs0, d0, ds0, p0, q0, rfl, rfl, rfl, t0, h0⟩ := Go.ChangeShapes.trodAll_cons hA
 obtain ⟨v1, vs1, d1, ds1, p1, q1, rfl, rfl, rfl, t1, h1⟩ := Go.ChangeShapes.trodAll_cons h0
 obtain ⟨v2, vs2, d2, ds2, p2, q2, rfl, rfl, rfl, t2, h2⟩ := Go.ChangeShapes.trodAll_cons h1
 obtain ⟨v3, vs3, d3, ds3, p3, q3, rfl, rfl, rfl, t3, h3⟩ := Go.ChangeShapes.trodAll_cons h2
 obtain ⟨rfl, rfl, rfl⟩ := trodAll_nil h3
 obtain ⟨x0, s0, rfl, sl0, w0⟩ := AZ Tryz.underlying22 (Opens.sl Tryz.underlying22 (by kernel_rfl) (Opens.u8 Tryz.underlying5)) (hval 0 22 v0 rfl rfl) t0
 obtain ⟨x1, rfl, e1, z1, w1⟩ := open_int Tryz.underlying3 (hval 1 3 v1 rfl rfl) t1
 have w1 := Ge w1
 obtain ⟨x2, rfl, e2, z2, w2⟩ := open_int Tryz.underlying5 (hval 2 5 v2 rfl rfl) t2
 have w2 := Es w2
 obtain ⟨x3, rfl, e3, z3, w3⟩ := open_int Tryz.underlying5 (hval 3 5 v3 rfl rfl) t3
 have w3 := Es w3
 have hlaw := my x0 x1 x2 x3 w0.2
 exact DO (tb := 4) Tryz.laidOut (by kernel_rfl) Tryz.underlying4 (by kernel_rfl) hW' rfl rfl rfl rfl ((Dt x0 s0 x1 x2 x3 true hlaw (tK W) [] sl0 hT).mono fun _ _ _ _ h => h.1)
def iL : List (DataW Unit) → List Value
 | .lit (.int k n) :: r => .int k n :: iL r
 | _ => []
def uf : DataW Unit → Array Value
 | .agg l => (iL l).toArray
 | _ => #[]
def zJ (cs : Array Value) : Obj → Obj
 | .cells _ t frozen => .cells cs t frozen
 | o => o
noncomputable def laidWorld (os : Os) : World :=
 {World.holding Tryz.prog os ⟨#[], #[], []⟩ with heap := ((((World.holding Tryz.prog os ⟨#[], #[], []⟩).heap.modify 0 (zJ (uf Rows.laid_internal_strconv_uint64pow10))).modify 1 (zJ (uf Rows.laid_math_bits_deBruijn32tab))).modify 2 (zJ (uf Rows.laid_math_bits_deBruijn64tab))) }
theorem laid_met (os : Os) : laidMet Tryz.prog Rows.linearWitnessesRow.laid ((laidWorld os).forCall (fun _ _ => 0) ⟨#[], #[.slice none 0 0, .int .i64 0, .int .u8 0, .int .u8 0], []⟩).memory :=
 laidMet_of_run' 8 (by kernel_rfl) (by kernel_rfl)
theorem reads (os : Os) {H : Type} (enc : TypeId × Value → H) : ∃ places, DataW.whole enc Tryz.prog ((laidWorld os).forCall (fun _ _ => 0) ⟨#[], #[.slice none 0 0, .int .i64 0, .int .u8 0, .int .u8 0], []⟩).memory Tryz.f5.params.toList Rows.linearWitnessesSpec.vars false (#[.slice none 0 0, .int .i64 0, .int .u8 0, .int .u8 0] : Array Value).toList 8 = some ([.nil, .lit (.int .i64 0), .lit (.int .u8 0), .lit (.int .u8 0)], [], places) :=
 ⟨[], by kernel_rfl⟩
theorem lifted (os : Os) (started : os.Started) (H : Type) (enc : TypeId × Value → H) (F : Stop.Interp) :
  ReturnsInHanded {} Tryz.checked os 5 .any ((OpenSpec.ofChange Rows.linearWitnessesSpec).preRow enc Tryz.prog Tryz.f5 Rows.linearWitnessesRow.domain false Rows.linearWitnessesRow.laid) (((OpenSpec.ofChange Rows.linearWitnessesSpec).at F).post enc Tryz.prog Tryz.f5 false true false false) := by
 obtain ⟨places, hx⟩ := reads os enc
 refine returnsInHanded_of_row (C := Tryz.checked) (s := OpenSpec.ofChange Rows.linearWitnessesSpec) Tryz.own started (by kernel_rfl) Tryz.func5
  (witness_row_at (enc := enc) (C := Tryz.checked) false (laidWorld os) #[.slice none 0 0, .int .i64 0, .int .u8 0, .int .u8 0] rfl (by kernel_rfl) (by kernel_rfl) (by kernel_rfl)
   (OpenSpec.preRow_of_cond 8 hx (by kernel_rfl) (fun k hk => by cases hk) (by kernel_rfl) (laid_met os))) ?_
 intro W base args ds gs before hval hW _ _ _ hL _ _
 exact DC H enc W base args ds gs before hval hW hL
theorem l6 : Rows.LinearWitnessesSaid :=
 OpenClaim.holds_of_cond 5 Tryz.f5 rfl rfl rfl rfl rfl rfl rfl ⟨rfl, rfl, rfl, rfl, rfl⟩ rfl rfl rfl rfl rfl (by kernel_rfl) Tryz.func5 (by kernel_rfl)
  (of_decide_eq_true (by kernel_rfl)) (by unfold Func.isWrapper; first | (rw [if_pos (by decide +kernel)]; kernel_rfl) | (rw [if_neg (by decide +kernel)]; exact ⟨rfl, rfl⟩))
  (fun os started H enc _ F => by rw [OpenClaim.pre_eq_preRow]; exact lifted os started H enc F)
theorem plain (f : FuncId) (fn : Func) (hf : Tryz.pinned.checked.prog.funcNamed "chanfabric/chanfabriclaw17.LinearWitnesses" = some f) (hfn : Tryz.pinned.checked.prog.funcs[f]? = some fn) :
  false = Tryz.pinned.checked.prog.looks [] ∧ ∀ (j : Nat) t, fn.params[j]? = some t → Tryz.pinned.checked.prog.wantsStandIn t = false := by
 obtain rfl : f = 5 := Option.some.inj ((show Tryz.prog.funcNamed "chanfabric/chanfabriclaw17.LinearWitnesses" = some 5 by kernel_rfl).symm.trans hf) |>.symm
 obtain rfl : fn = Tryz.f5 := (Option.some.inj (Tryz.func5.symm.trans hfn)).symm
 refine ⟨by kernel_rfl, fun j t ht => ?_⟩
 rw [Tryz.params5] at ht
 have hm := Array.mem_of_getElem? ht
 simp only [List.mem_toArray, List.mem_cons, List.not_mem_nil, or_false] at hm
 rcases hm with rfl | rfl | rfl | rfl
 ·exact (show Tryz.prog.wantsStandIn 22 = false by kernel_rfl)
 ·exact (show Tryz.prog.wantsStandIn 3 = false by kernel_rfl)
 ·exact (show Tryz.prog.wantsStandIn 5 = false by kernel_rfl)
 ·exact (show Tryz.prog.wantsStandIn 5 = false by kernel_rfl)
theorem linearWitnessesCard_holds : Rows.LinearWitnessesCardSaid :=
 Claim7.holds_tied_plain_at .later [] _ _ _ _ l6 (fun _ h => by cases h) (by kernel_rfl) (fun _ h => by cases h) linearWitnesses_row_tie rfl ⟨rfl, rfl⟩ (by kernel_rfl) rfl plain (by kernel_rfl)
end Go.Proofs.YtphoeijgpmlbpaaGreatDoor
