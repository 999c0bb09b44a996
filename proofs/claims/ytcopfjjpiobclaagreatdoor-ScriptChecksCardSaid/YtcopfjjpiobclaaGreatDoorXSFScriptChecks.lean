/- For every input the law returns true, and each argument reads behind the call as it read before. Condition: the package-level variables that the row lists read as the text lays them (the given tie). -/
import Derived.Test.YtcopfjjpiobclaaGreatDoorXSWRef3
import Derived.Test.YtcopfjjpiobclaaGreatDoorXSCasesCk
import Derived.Test.YtcopfjjpiobclaaGreatDoorXSTab
import Derived.Test.YtcopfjjpiobclaaGreatDoorCards
import Derived.Test.YtcopfjjpiobclaaGreatDoorTie
import Derived.Test.YtcopfjjpiobclaaGreatDoorHxLaw
import Derived.ProofKit
import Derived.WalkKit
import Derived.OpenShut
import Derived.Deep.DeepHandedRow
import Derived.Lib.LaidTab
import Derived.Stop.LaidErr
import Derived.MakeChecks
namespace Go.Hx
open Go Go.ChangeShapes Go.WideShapes Go.RowKit Go.Proofs Go.Proofs.YtcopfjjpiobclaaGreatDoor
def Config.wf (x : Config) : Prop := (inL inI) x.capacities ∧ (inL inU) x.starts ∧ inI x.threads
theorem afX {H : Type} (enc : TypeId × Value → H) (w : World) (base : Nat) (spare : Nat → Bool) (held : Bool) : Opens enc Tryz.prog w base spare held 30 aiN Config.wf := fun fuel cs x h => by
 obtain ⟨hlen, n0, y0, g0⟩ := X3 (i := 0) (off := 0) (m := 1) Tryz.underlying30 rfl rfl rfl (by kernel_rfl) h
 obtain ⟨x0, r0, w0⟩ := (Opens.sl Tryz.underlying27 (by kernel_rfl) (Opens.i64 Tryz.underlying3)) _ _ _ g0
 obtain ⟨v0, q0, h0⟩ := r0
 obtain ⟨_, n1, y1, g1⟩ := X3 (i := 1) (off := 1) (m := 1) Tryz.underlying30 rfl rfl rfl (by kernel_rfl) h
 obtain ⟨x1, r1, w1⟩ := (Opens.sl Tryz.underlying28 (by kernel_rfl) (Opens.u64 Tryz.underlying53)) _ _ _ g1
 obtain ⟨v1, q1, h1⟩ := r1
 obtain ⟨_, n2, y2, g2⟩ := X3 (i := 2) (off := 2) (m := 1) Tryz.underlying30 rfl rfl rfl (by kernel_rfl) h
 obtain ⟨x2, r2, w2⟩ := (Opens.i64 Tryz.underlying3) _ _ _ g2
 have q2 := r2
 have hl : cs.length = 3 := by rw [hlen]; kernel_rfl
 refine ⟨(Config.mk x0 x1 x2), ⟨v0, v1, ?_, h0, h1⟩, ⟨w0, w1, w2⟩⟩
 refine Zd (by rw [hl]; rfl) fun i hi => ?_
 simp only [Xl, List.length_cons, List.length_nil] at hi
 match i, hi with
 | 0, _ => exact Yk q0 (i := 0) rfl
 | 1, _ => exact Yk q1 (i := 0) rfl
 | 2, _ => exact Yk q2 (i := 0) rfl
def Case.wf (x : Case) : Prop := inT x.send ∧ inI x.channel ∧ inU x.value
theorem ahd {H : Type} (enc : TypeId × Value → H) (w : World) (base : Nat) (spare : Nat → Bool) (held : Bool) : Opens enc Tryz.prog w base spare held 101 XC Case.wf := fun fuel cs x h => by
 obtain ⟨hlen, n0, y0, g0⟩ := X3 (i := 0) (off := 0) (m := 1) Tryz.underlying101 rfl rfl rfl (by kernel_rfl) h
 obtain ⟨x0, r0, w0⟩ := (Opens.bool Tryz.underlying4) _ _ _ g0
 have q0 := r0
 obtain ⟨_, n1, y1, g1⟩ := X3 (i := 1) (off := 1) (m := 1) Tryz.underlying101 rfl rfl rfl (by kernel_rfl) h
 obtain ⟨x1, r1, w1⟩ := (Opens.i64 Tryz.underlying3) _ _ _ g1
 have q1 := r1
 obtain ⟨_, n2, y2, g2⟩ := X3 (i := 2) (off := 2) (m := 1) Tryz.underlying101 rfl rfl rfl (by kernel_rfl) h
 obtain ⟨x2, r2, w2⟩ := (Opens.u64 Tryz.underlying53) _ _ _ g2
 have q2 := r2
 have hl : cs.length = 3 := by rw [hlen]; kernel_rfl
 refine ⟨(Case.mk x0 x1 x2), ?_, ⟨w0, w1, w2⟩⟩
 refine Zd (by rw [hl]; rfl) fun i hi => ?_
 simp only [Xw, List.length_cons, List.length_nil] at hi
 match i, hi with
 | 0, _ => exact Yk q0 (i := 0) rfl
 | 1, _ => exact Yk q1 (i := 0) rfl
 | 2, _ => exact Yk q2 (i := 0) rfl
def Op.wf (x : Op) : Prop := inI x.kind ∧ inI x.mode ∧ inI x.channel ∧ inU x.value ∧ inI x.deadline ∧ (inL Case.wf) x.cases ∧ (inL inI) x.draws
theorem ajC {H : Type} (enc : TypeId × Value → H) (w : World) (base : Nat) (spare : Nat → Bool) (held : Bool) : Opens enc Tryz.prog w base spare held 70 Xf Op.wf := fun fuel cs x h => by
 obtain ⟨hlen, n0, y0, g0⟩ := X3 (i := 0) (off := 0) (m := 1) Tryz.underlying70 rfl rfl rfl (by kernel_rfl) h
 obtain ⟨x0, r0, w0⟩ := (Opens.i64 Tryz.underlying3) _ _ _ g0
 have q0 := r0
 obtain ⟨_, n1, y1, g1⟩ := X3 (i := 1) (off := 1) (m := 1) Tryz.underlying70 rfl rfl rfl (by kernel_rfl) h
 obtain ⟨x1, r1, w1⟩ := (Opens.i64 Tryz.underlying3) _ _ _ g1
 have q1 := r1
 obtain ⟨_, n2, y2, g2⟩ := X3 (i := 2) (off := 2) (m := 1) Tryz.underlying70 rfl rfl rfl (by kernel_rfl) h
 obtain ⟨x2, r2, w2⟩ := (Opens.i64 Tryz.underlying3) _ _ _ g2
 have q2 := r2
 obtain ⟨_, n3, y3, g3⟩ := X3 (i := 3) (off := 3) (m := 1) Tryz.underlying70 rfl rfl rfl (by kernel_rfl) h
 obtain ⟨x3, r3, w3⟩ := (Opens.u64 Tryz.underlying53) _ _ _ g3
 have q3 := r3
 obtain ⟨_, n4, y4, g4⟩ := X3 (i := 4) (off := 4) (m := 1) Tryz.underlying70 rfl rfl rfl (by kernel_rfl) h
 obtain ⟨x4, r4, w4⟩ := (Opens.i64 Tryz.underlying3) _ _ _ g4
 have q4 := r4
 obtain ⟨_, n5, y5, g5⟩ := X3 (i := 5) (off := 5) (m := 1) Tryz.underlying70 rfl rfl rfl (by kernel_rfl) h
 obtain ⟨x5, r5, w5⟩ := (Opens.sl Tryz.underlying68 (by kernel_rfl) (ahd enc w base spare held)) _ _ _ g5
 obtain ⟨v5, q5, h5⟩ := r5
 obtain ⟨_, n6, y6, g6⟩ := X3 (i := 6) (off := 6) (m := 1) Tryz.underlying70 rfl rfl rfl (by kernel_rfl) h
 obtain ⟨x6, r6, w6⟩ := (Opens.sl Tryz.underlying27 (by kernel_rfl) (Opens.i64 Tryz.underlying3)) _ _ _ g6
 obtain ⟨v6, q6, h6⟩ := r6
 have hl : cs.length = 7 := by rw [hlen]; kernel_rfl
 refine ⟨(Op.mk x0 x1 x2 x3 x4 x5 x6), ⟨v5, v6, ?_, h5, h6⟩, ⟨w0, w1, w2, w3, w4, w5, w6⟩⟩
 refine Zd (by rw [hl]; rfl) fun i hi => ?_
 simp only [Xb, List.length_cons, List.length_nil] at hi
 match i, hi with
 | 0, _ => exact Yk q0 (i := 0) rfl
 | 1, _ => exact Yk q1 (i := 0) rfl
 | 2, _ => exact Yk q2 (i := 0) rfl
 | 3, _ => exact Yk q3 (i := 0) rfl
 | 4, _ => exact Yk q4 (i := 0) rfl
 | 5, _ => exact Yk q5 (i := 0) rfl
 | 6, _ => exact Yk q6 (i := 0) rfl
def Script.wf (x : Script) : Prop := Config.wf x.cnfg ∧ (inL (inL Op.wf)) x.ops ∧ (inL inI) x.picks
theorem afY {H : Type} (enc : TypeId × Value → H) (w : World) (base : Nat) (spare : Nat → Bool) (held : Bool) : Opens enc Tryz.prog w base spare held 33 aiO Script.wf := fun fuel cs x h => by
 obtain ⟨hlen, n0, y0, g0⟩ := X3 (i := 0) (off := 0) (m := 3) Tryz.underlying33 rfl rfl rfl (by kernel_rfl) h
 obtain ⟨x0, r0, w0⟩ := (afX enc w base spare held) _ _ _ g0
 obtain ⟨v0_0, v0_1, q0, h0_0, h0_1⟩ := r0
 obtain ⟨_, n1, y1, g1⟩ := X3 (i := 1) (off := 3) (m := 1) Tryz.underlying33 rfl rfl rfl (by kernel_rfl) h
 obtain ⟨x1, r1, w1⟩ := (Opens.sl Tryz.underlying31 (by kernel_rfl) (Opens.sl Tryz.underlying51 (by kernel_rfl) (ajC enc w base spare held))) _ _ _ g1
 obtain ⟨v1, q1, h1⟩ := r1
 obtain ⟨_, n2, y2, g2⟩ := X3 (i := 2) (off := 4) (m := 1) Tryz.underlying33 rfl rfl rfl (by kernel_rfl) h
 obtain ⟨x2, r2, w2⟩ := (Opens.sl Tryz.underlying27 (by kernel_rfl) (Opens.i64 Tryz.underlying3)) _ _ _ g2
 obtain ⟨v2, q2, h2⟩ := r2
 have hl : cs.length = 5 := by rw [hlen]; kernel_rfl
 refine ⟨(Script.mk x0 x1 x2), ⟨v0_0, v0_1, v1, v2, ?_, h0_0, h0_1, h1, h2⟩, ⟨w0, w1, w2⟩⟩
 refine Zd (by rw [hl]; rfl) fun i hi => ?_
 simp only [Xc, List.length_cons, List.length_nil] at hi
 match i, hi with
 | 0, _ => exact Yk q0 (i := 0) rfl
 | 1, _ => exact Yk q0 (i := 1) rfl
 | 2, _ => exact Yk q0 (i := 2) rfl
 | 3, _ => exact Yk q1 (i := 0) rfl
 | 4, _ => exact Yk q2 (i := 0) rfl
end Go.Hx
namespace Go.Proofs.YtcopfjjpiobclaaGreatDoor
open Go.ChangeShapes Go.WideShapes Go.ChangeAt Go.RowKit Go.Hx
theorem Tryz.own : ownKnob Tryz.prog.godebug = none := by kernel_rfl
theorem Tryz.laidOut : laidOutB Tryz.prog = true := by kernel_rfl
set_option maxRecDepth 100000
theorem ajj (H : Type) (enc : TypeId × Value → H) (W : World) (base : Nat) (args : Array Value) (ds gs : List (DataW H)) (before : List MemPlace)
  (hval0 : ∀ (j : Nat) t v, Tryz.f5.params[j]? = some t → args[j]? = some v → Value.okWide Tryz.prog W .any base t v)
  (hW : DataW.Whole enc Tryz.prog Tryz.f5.params.toList Rows.scriptChecksSpec.vars false W args.toList ds gs before) (hL : laidMetH Tryz.prog Rows.scriptChecksRow.laid W) (hSh : W.ShapedOpen Tryz.prog) :
  Calls Tryz.prog 5 args W fun e W' => ∃ v, e = .returned v ∧ Rows.scriptChecksSpec.post enc Tryz.prog Tryz.f5 false true false false W args v W' := by
 have hval : ∀ (j : Nat) t v, Tryz.f5.params[j]? = some t → args[j]? = some v → Value.okWide Tryz.prog W .any base t v := hval0
 have hW' := hW
 obtain ⟨p, q, hA0, hV, hps, hfz, hnd⟩ := hW
 have hA : DataW.TrodAll enc Tryz.prog W 0 (fun _ => true) true Tryz.f5.params.toList args.toList ds p := hA0
 rw [Tryz.params5] at hA hval
 clear hA0 hval0 hps hfz hnd
 obtain ⟨rfl, rfl⟩ := trodVars_none hV
 obtain ⟨al⟩ := args
 dsimp only [] at hA
 have hT : TabK (Z8 W) := tabK hL hSh
 obtain ⟨v0, vs0, d0, ds0, p0, q0, rfl, rfl, rfl, t0, h0⟩ := Go.ChangeShapes.trodAll_cons hA
 obtain ⟨v1, vs1, d1, ds1, p1, q1, rfl, rfl, rfl, t1, h1⟩ := Go.ChangeShapes.trodAll_cons h0
 obtain ⟨rfl, rfl, rfl⟩ := trodAll_nil h1
 obtain ⟨x0, cs0, rfl, r0, w0⟩ := ag0 Tryz.underlying33 (afY enc W 0 (fun _ => true) true) (hval 0 33 v0 rfl rfl) t0
 obtain ⟨s0_0, s0_1, s0_2, s0_3, rfl, sl0_0, sl0_1, sl0_2, sl0_3⟩ := r0
 obtain ⟨x1, s1, rfl, sl1, w1⟩ := ah9 Tryz.underlying22 (Opens.sl Tryz.underlying22 (by kernel_rfl) (Opens.u8 Tryz.underlying5)) (hval 1 22 v1 rfl rfl) t1
 have hlaw := abk x0 x1 w1.2
 exact ajw (tb := 4) Tryz.laidOut (by kernel_rfl) Tryz.underlying4 (by kernel_rfl) hW' rfl rfl rfl rfl ((ajh x0 s0_0 s0_1 s0_2 s0_3 x1 s1 true hlaw (Z8 W) [] sl0_0 sl0_1 sl0_2 sl0_3 sl1 hT).mono fun _ _ _ _ h => h.1)
theorem laid_met (os : Os) : laidMet Tryz.prog Rows.scriptChecksRow.laid ((laidWorld os).forCall (fun _ _ => 0) ⟨#[], #[.agg #[.slice none 0 0, .slice none 0 0, .int .i64 0, .slice none 0 0, .slice none 0 0], .slice none 0 0], []⟩).memory :=
 laidMet_of_run' 8 (by kernel_rfl) (by kernel_rfl)
theorem reads (os : Os) {H : Type} (enc : TypeId × Value → H) : ∃ places, DataW.whole enc Tryz.prog ((laidWorld os).forCall (fun _ _ => 0) ⟨#[], #[.agg #[.slice none 0 0, .slice none 0 0, .int .i64 0, .slice none 0 0, .slice none 0 0], .slice none 0 0], []⟩).memory Tryz.f5.params.toList Rows.scriptChecksSpec.vars false (#[.agg #[.slice none 0 0, .slice none 0 0, .int .i64 0, .slice none 0 0, .slice none 0 0], .slice none 0 0] : Array Value).toList 8 = some ([.agg [.agg [.nil, .nil, .lit (.int .i64 0)], .nil, .nil], .nil], [], places) :=
 ⟨[], by kernel_rfl⟩
theorem lifted (os : Os) (started : os.Started) (H : Type) (enc : TypeId × Value → H) (F : Stop.Interp) :
  ReturnsInHanded {} Tryz.checked os 5 .any ((OpenSpec.ofChange Rows.scriptChecksSpec).preRow enc Tryz.prog Tryz.f5 Rows.scriptChecksRow.domain false Rows.scriptChecksRow.laid) (((OpenSpec.ofChange Rows.scriptChecksSpec).at F).post enc Tryz.prog Tryz.f5 false true false false) := by
 obtain ⟨places, hx⟩ := reads os enc
 refine returnsInHanded_of_row (C := Tryz.checked) (s := OpenSpec.ofChange Rows.scriptChecksSpec) Tryz.own started (by kernel_rfl) Tryz.func5
  (witness_row_atRef (enc := enc) (C := Tryz.checked) false (laidWorld os) #[.agg #[.slice none 0 0, .slice none 0 0, .int .i64 0, .slice none 0 0, .slice none 0 0], .slice none 0 0] rfl (by kernel_rfl) (by kernel_rfl) (by kernel_rfl)
   (OpenSpec.preRow_of_cond 8 hx (by kernel_rfl) (fun k hk => by cases hk) (by kernel_rfl) (laid_met os))) ?_
 intro W base args ds gs before hval hW _ _ _ hL hSh _
 exact ajj H enc W base args ds gs before hval hW hL hSh
theorem aaV : Rows.ScriptChecksSaid :=
 OpenClaim.holds_of_cond 5 Tryz.f5 rfl rfl rfl rfl rfl rfl rfl ⟨rfl, rfl, rfl, rfl, rfl⟩ rfl rfl rfl rfl rfl (by kernel_rfl) Tryz.func5 (by kernel_rfl)
  (of_decide_eq_true (by kernel_rfl)) (by unfold Func.isWrapper; first | (rw [if_pos (by decide +kernel)]; kernel_rfl) | (rw [if_neg (by decide +kernel)]; exact ⟨rfl, rfl⟩))
  (fun os started H enc _ F => by rw [OpenClaim.pre_eq_preRow]; exact lifted os started H enc F)
theorem plain (f : FuncId) (fn : Func) (hf : Tryz.pinned.checked.prog.funcNamed "chanfabric/chanfabriclaw20.ScriptChecks" = some f) (hfn : Tryz.pinned.checked.prog.funcs[f]? = some fn) :
  true = Tryz.pinned.checked.prog.looks [] ∧ ∀ (j : Nat) t, fn.params[j]? = some t → Tryz.pinned.checked.prog.wantsStandIn t = false := by
 obtain rfl : f = 5 := Option.some.inj ((show Tryz.prog.funcNamed "chanfabric/chanfabriclaw20.ScriptChecks" = some 5 by kernel_rfl).symm.trans hf) |>.symm
 obtain rfl : fn = Tryz.f5 := (Option.some.inj (Tryz.func5.symm.trans hfn)).symm
 refine ⟨by kernel_rfl, fun j t ht => ?_⟩
 rw [Tryz.params5] at ht
 have hm := Array.mem_of_getElem? ht
 simp only [List.mem_toArray, List.mem_cons, List.not_mem_nil, or_false] at hm
 rcases hm with rfl | rfl
 ·exact (show Tryz.prog.wantsStandIn 33 = false by kernel_rfl)
 ·exact (show Tryz.prog.wantsStandIn 22 = false by kernel_rfl)
theorem scriptChecksCard_holds : Rows.ScriptChecksCardSaid :=
 Claim7.holds_tied_plain_at .later [] _ _ _ _ aaV (fun _ h => by cases h) (by kernel_rfl) (fun _ h => by cases h) scriptChecks_row_tie rfl ⟨rfl, rfl⟩ (by kernel_rfl) rfl plain (by kernel_rfl)
end Go.Proofs.YtcopfjjpiobclaaGreatDoor
