/- For every input the law returns true, and each argument reads behind the call as it read before. Condition: the package-level variables that the row lists read as the text lays them (the given tie). -/
import Derived.Test.YtcopfjjpiobclaaGreatDoorXSWRef3
import Derived.Test.YtcopfjjpiobclaaGreatDoorXSScDraw
import Derived.Test.YtcopfjjpiobclaaGreatDoorXSTab
import Derived.Test.YtcopfjjpiobclaaGreatDoorCards
import Derived.Test.YtcopfjjpiobclaaGreatDoorTie
import Derived.Test.YtcopfjjpiobclaaGreatDoorHxLaw
import Derived.ProofKit
import Derived.WalkKit
import Derived.OpenShut
import Derived.Deep.DeepHandedRow
import Derived.Lib.LaidTab
import Derived.Stop.LaidErr
import Derived.MakeChecks
namespace Go.Hx
open Go Go.ChangeShapes Go.WideShapes Go.RowKit Go.Proofs Go.Proofs.YtcopfjjpiobclaaGreatDoor

end Go.Hx
namespace Go.Proofs.YtcopfjjpiobclaaGreatDoor
open Go.ChangeShapes Go.WideShapes Go.ChangeAt Go.RowKit Go.Hx
theorem Tryz.own : ownKnob Tryz.prog.godebug = none := by kernel_rfl
theorem Tryz.laidOut : laidOutB Tryz.prog = true := by kernel_rfl
set_option maxRecDepth 100000
theorem alb (H : Type) (enc : TypeId × Value → H) (W : World) (base : Nat) (args : Array Value) (ds gs : List (DataW H)) (before : List MemPlace)
  (hval0 : ∀ (j : Nat) t v, Tryz.f3.params[j]? = some t → args[j]? = some v → Value.okWide Tryz.prog W .any base t v)
  (hW : DataW.Whole enc Tryz.prog Tryz.f3.params.toList Rows.scriptParsesSpec.vars false W args.toList ds gs before) (hL : laidMetH Tryz.prog Rows.scriptParsesRow.laid W) (hSh : W.ShapedOpen Tryz.prog) :
  Calls Tryz.prog 3 args W fun e W' => ∃ v, e = .returned v ∧ Rows.scriptParsesSpec.post enc Tryz.prog Tryz.f3 false true false false W args v W' := by
 have hval : ∀ (j : Nat) t v, Tryz.f3.params[j]? = some t → args[j]? = some v → Value.okWide Tryz.prog W .any base t v := hval0
 have hW' := hW
 obtain ⟨p, q, hA0, hV, hps, hfz, hnd⟩ := hW
 have hA : DataW.TrodAll enc Tryz.prog W 0 (fun _ => true) true Tryz.f3.params.toList args.toList ds p := hA0
 rw [Tryz.params3] at hA hval
 clear hA0 hval0 hps hfz hnd
 obtain ⟨rfl, rfl⟩ := trodVars_none hV
 obtain ⟨al⟩ := args
 dsimp only [] at hA
 have hT : TabK (IR W) := tabK hL hSh
 obtain ⟨v0, vs0, d0, ds0, p0, q0, rfl, rfl, rfl, t0, h0⟩ := Go.ChangeShapes.trodAll_cons hA
 obtain ⟨v1, vs1, d1, ds1, p1, q1, rfl, rfl, rfl, t1, h1⟩ := Go.ChangeShapes.trodAll_cons h0
 obtain ⟨v2, vs2, d2, ds2, p2, q2, rfl, rfl, rfl, t2, h2⟩ := Go.ChangeShapes.trodAll_cons h1
 obtain ⟨v3, vs3, d3, ds3, p3, q3, rfl, rfl, rfl, t3, h3⟩ := Go.ChangeShapes.trodAll_cons h2
 obtain ⟨v4, vs4, d4, ds4, p4, q4, rfl, rfl, rfl, t4, h4⟩ := Go.ChangeShapes.trodAll_cons h3
 obtain ⟨v5, vs5, d5, ds5, p5, q5, rfl, rfl, rfl, t5, h5⟩ := Go.ChangeShapes.trodAll_cons h4
 obtain ⟨rfl, rfl, rfl⟩ := trodAll_nil h5
 obtain ⟨x0, s0, rfl, sl0, w0⟩ := ajG Tryz.underlying22 (Opens.sl Tryz.underlying22 (by kernel_rfl) (Opens.u8 Tryz.underlying5)) (hval 0 22 v0 rfl rfl) t0
 obtain ⟨x1, rfl, e1, z1, w1⟩ := Go.ChangeMaps.open_string Tryz.underlying9 (hval 1 9 v1 rfl rfl) t1
 obtain ⟨x2, rfl, e2, z2, w2⟩ := Go.ChangeMaps.open_string Tryz.underlying9 (hval 2 9 v2 rfl rfl) t2
 obtain ⟨x3, rfl, e3, z3, w3⟩ := open_int Tryz.underlying3 (hval 3 3 v3 rfl rfl) t3
 have w3 := alU w3
 obtain ⟨x4, rfl, e4, z4, w4⟩ := open_int Tryz.underlying3 (hval 4 3 v4 rfl rfl) t4
 have w4 := alU w4
 obtain ⟨x5, rfl, e5, z5, w5⟩ := open_int Tryz.underlying5 (hval 5 5 v5 rfl rfl) t5
 have w5 := anC w5
 have hlaw := Kv x0 x1 x2 x3 x4 x5 w0.2 w5
 exact aln (tb := 4) Tryz.laidOut (by kernel_rfl) Tryz.underlying4 (by kernel_rfl) hW' rfl rfl rfl rfl ((ak9 x0 s0 x1 x2 x3 x4 x5 true hlaw (IR W) [] sl0 hT).mono fun _ _ _ _ h => h.1)
theorem laid_met (os : Os) : laidMet Tryz.prog Rows.scriptParsesRow.laid ((laidWorld os).forCall (fun _ _ => 0) ⟨#[], #[.slice none 0 0, .string ⟨#[]⟩, .string ⟨#[]⟩, .int .i64 0, .int .i64 0, .int .u8 0], []⟩).memory :=
 laidMet_of_run' 8 (by kernel_rfl) (by kernel_rfl)
theorem reads (os : Os) {H : Type} (enc : TypeId × Value → H) : ∃ places, DataW.whole enc Tryz.prog ((laidWorld os).forCall (fun _ _ => 0) ⟨#[], #[.slice none 0 0, .string ⟨#[]⟩, .string ⟨#[]⟩, .int .i64 0, .int .i64 0, .int .u8 0], []⟩).memory Tryz.f3.params.toList Rows.scriptParsesSpec.vars false (#[.slice none 0 0, .string ⟨#[]⟩, .string ⟨#[]⟩, .int .i64 0, .int .i64 0, .int .u8 0] : Array Value).toList 8 = some ([.nil, .lit (.string []), .lit (.string []), .lit (.int .i64 0), .lit (.int .i64 0), .lit (.int .u8 0)], [], places) :=
 ⟨[], by kernel_rfl⟩
theorem lifted (os : Os) (started : os.Started) (H : Type) (enc : TypeId × Value → H) (F : Stop.Interp) :
  ReturnsInHanded {} Tryz.checked os 3 .any ((OpenSpec.ofChange Rows.scriptParsesSpec).preRow enc Tryz.prog Tryz.f3 Rows.scriptParsesRow.domain false Rows.scriptParsesRow.laid) (((OpenSpec.ofChange Rows.scriptParsesSpec).at F).post enc Tryz.prog Tryz.f3 false true false false) := by
 obtain ⟨places, hx⟩ := reads os enc
 refine returnsInHanded_of_row (C := Tryz.checked) (s := OpenSpec.ofChange Rows.scriptParsesSpec) Tryz.own started (by kernel_rfl) Tryz.func3
  (witness_row_atRef (enc := enc) (C := Tryz.checked) false (laidWorld os) #[.slice none 0 0, .string ⟨#[]⟩, .string ⟨#[]⟩, .int .i64 0, .int .i64 0, .int .u8 0] rfl (by kernel_rfl) (by kernel_rfl) (by kernel_rfl)
   (OpenSpec.preRow_of_cond 8 hx (by kernel_rfl) (fun k hk => by cases hk) (by kernel_rfl) (laid_met os))) ?_
 intro W base args ds gs before hval hW _ _ _ hL hSh _
 exact alb H enc W base args ds gs before hval hW hL hSh
theorem JJ : Rows.ScriptParsesSaid :=
 OpenClaim.holds_of_cond 3 Tryz.f3 rfl rfl rfl rfl rfl rfl rfl ⟨rfl, rfl, rfl, rfl, rfl⟩ rfl rfl rfl rfl rfl (by kernel_rfl) Tryz.func3 (by kernel_rfl)
  (of_decide_eq_true (by kernel_rfl)) (by unfold Func.isWrapper; first | (rw [if_pos (by decide +kernel)]; kernel_rfl) | (rw [if_neg (by decide +kernel)]; exact ⟨rfl, rfl⟩))
  (fun os started H enc _ F => by rw [OpenClaim.pre_eq_preRow]; exact lifted os started H enc F)
theorem plain (f : FuncId) (fn : Func) (hf : Tryz.pinned.checked.prog.funcNamed "chanfabric/chanfabriclaw20.ScriptParses" = some f) (hfn : Tryz.pinned.checked.prog.funcs[f]? = some fn) :
  true = Tryz.pinned.checked.prog.looks [] ∧ ∀ (j : Nat) t, fn.params[j]? = some t → Tryz.pinned.checked.prog.wantsStandIn t = false := by
 obtain rfl : f = 3 := Option.some.inj ((show Tryz.prog.funcNamed "chanfabric/chanfabriclaw20.ScriptParses" = some 3 by kernel_rfl).symm.trans hf) |>.symm
 obtain rfl : fn = Tryz.f3 := (Option.some.inj (Tryz.func3.symm.trans hfn)).symm
 refine ⟨by kernel_rfl, fun j t ht => ?_⟩
 rw [Tryz.params3] at ht
 have hm := Array.mem_of_getElem? ht
 simp only [List.mem_toArray, List.mem_cons, List.not_mem_nil, or_false] at hm
 rcases hm with rfl | rfl | rfl | rfl | rfl | rfl
 ·exact (show Tryz.prog.wantsStandIn 22 = false by kernel_rfl)
 ·exact (show Tryz.prog.wantsStandIn 9 = false by kernel_rfl)
 ·exact (show Tryz.prog.wantsStandIn 9 = false by kernel_rfl)
 ·exact (show Tryz.prog.wantsStandIn 3 = false by kernel_rfl)
 ·exact (show Tryz.prog.wantsStandIn 3 = false by kernel_rfl)
 ·exact (show Tryz.prog.wantsStandIn 5 = false by kernel_rfl)
theorem scriptParsesCard_holds : Rows.ScriptParsesCardSaid :=
 Claim7.holds_tied_plain_at .later [] _ _ _ _ JJ (fun _ h => by cases h) (by kernel_rfl) (fun _ h => by cases h) scriptParses_row_tie rfl ⟨rfl, rfl⟩ (by kernel_rfl) rfl plain (by kernel_rfl)
end Go.Proofs.YtcopfjjpiobclaaGreatDoor
