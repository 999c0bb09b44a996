/- For every input the law returns true, and each argument reads behind the call as it read before. Condition: the tables of the library that the row lists read as the text lays them (the given tie). -/
import Derived.Test.YtphoeijgpmlbpaaDoorXEWRef143
import Derived.Test.YtphoeijgpmlbpaaDoorXEDesk
import Derived.Test.YtphoeijgpmlbpaaDoorCards
import Derived.Test.YtphoeijgpmlbpaaDoorTie
import Derived.Test.YtphoeijgpmlbpaaDoorHxLaw
import Derived.ProofKit
import Derived.WalkKit
import Derived.OpenShut
import Derived.Deep.DeepHandedRow
import Derived.Lib.LaidTab
import Derived.Stop.LaidErr
import Derived.MakeChecks
namespace Go.Hx
open Go Go.ChangeShapes Go.WideShapes Go.RowKit Go.Proofs Go.Proofs.YtphoeijgpmlbpaaDoor
def Result.wf (x : Result) : Prop := inI x.kind ∧ inI x.case_ ∧ inU x.value ∧ inT x.ok ∧ inI x.number
theorem kj {H : Type} (enc : TypeId × Value → H) (w : World) (base : Nat) (spare : Nat → Bool) (held : Bool) : Opens enc Tryd.prog w base spare held 36 bh Result.wf := fun fuel cs x h => by
  obtain ⟨hlen, n0, y0, g0⟩ := cn (i := 0) (off := 0) (m := 1) Tryd.underlying36 rfl rfl rfl (by kernel_rfl) h
  obtain ⟨x0, r0, w0⟩ := (Opens.i64 Tryd.underlying3) _ _ _ g0
  have q0 := r0
  obtain ⟨_, n1, y1, g1⟩ := cn (i := 1) (off := 1) (m := 1) Tryd.underlying36 rfl rfl rfl (by kernel_rfl) h
  obtain ⟨x1, r1, w1⟩ := (Opens.i64 Tryd.underlying3) _ _ _ g1
  have q1 := r1
  obtain ⟨_, n2, y2, g2⟩ := cn (i := 2) (off := 2) (m := 1) Tryd.underlying36 rfl rfl rfl (by kernel_rfl) h
  obtain ⟨x2, r2, w2⟩ := (Opens.u64 Tryd.underlying34) _ _ _ g2
  have q2 := r2
  obtain ⟨_, n3, y3, g3⟩ := cn (i := 3) (off := 3) (m := 1) Tryd.underlying36 rfl rfl rfl (by kernel_rfl) h
  obtain ⟨x3, r3, w3⟩ := (Opens.bool Tryd.underlying4) _ _ _ g3
  have q3 := r3
  obtain ⟨_, n4, y4, g4⟩ := cn (i := 4) (off := 4) (m := 1) Tryd.underlying36 rfl rfl rfl (by kernel_rfl) h
  obtain ⟨x4, r4, w4⟩ := (Opens.i64 Tryd.underlying3) _ _ _ g4
  have q4 := r4
  have hl : cs.length = 5 := by rw [hlen]; kernel_rfl
  refine ⟨(Result.mk x0 x1 x2 x3 x4), ?_, ⟨w0, w1, w2, w3, w4⟩⟩
  refine dZ (by rw [hl]; rfl) fun i hi => ?_
  simp only [Result.cells, List.length_cons, List.length_nil] at hi
  match i, hi with
  | 0, _ => exact cr q0 (i := 0) rfl
  | 1, _ => exact cr q1 (i := 0) rfl
  | 2, _ => exact cr q2 (i := 0) rfl
  | 3, _ => exact cr q3 (i := 0) rfl
  | 4, _ => exact cr q4 (i := 0) rfl
def Done.wf (x : Done) : Prop := inI x.thread ∧ Result.wf x.result
theorem mP {H : Type} (enc : TypeId × Value → H) (w : World) (base : Nat) (spare : Nat → Bool) (held : Bool) : Opens enc Tryd.prog w base spare held 47 aw Done.wf := fun fuel cs x h => by
  obtain ⟨hlen, n0, y0, g0⟩ := cn (i := 0) (off := 0) (m := 1) Tryd.underlying47 rfl rfl rfl (by kernel_rfl) h
  obtain ⟨x0, r0, w0⟩ := (Opens.i64 Tryd.underlying3) _ _ _ g0
  have q0 := r0
  obtain ⟨_, n1, y1, g1⟩ := cn (i := 1) (off := 1) (m := 5) Tryd.underlying47 rfl rfl rfl (by kernel_rfl) h
  obtain ⟨x1, r1, w1⟩ := (kj enc w base spare held) _ _ _ g1
  have q1 := r1
  have hl : cs.length = 6 := by rw [hlen]; kernel_rfl
  refine ⟨(Done.mk x0 x1), ?_, ⟨w0, w1⟩⟩
  refine dZ (by rw [hl]; rfl) fun i hi => ?_
  simp only [Done.cells, List.length_cons, List.length_nil] at hi
  match i, hi with
  | 0, _ => exact cr q0 (i := 0) rfl
  | 1, _ => exact cr q1 (i := 0) rfl
  | 2, _ => exact cr q1 (i := 1) rfl
  | 3, _ => exact cr q1 (i := 2) rfl
  | 4, _ => exact cr q1 (i := 3) rfl
  | 5, _ => exact cr q1 (i := 4) rfl
end Go.Hx
namespace Go.Proofs.YtphoeijgpmlbpaaDoor
open Go.ChangeShapes Go.WideShapes Go.ChangeAt Go.RowKit Go.Hx
theorem Tryd.own : ownKnob Tryd.prog.godebug = none := by kernel_rfl
theorem Tryd.laidOut : laidOutB Tryd.prog = true := by kernel_rfl
set_option maxRecDepth 100000
theorem gTab : Tryd.prog.globalNamed "internal/strconv.uint64pow10" = some 0 := by kernel_rfl
theorem oH : (Tryd.prog.globals[0]?).map (·.type) = some 163 := by kernel_rfl
theorem ql : Tryd.prog.cellsOf 163 = 20 := by kernel_rfl
theorem qr : Tryd.prog.cellsOf 34 = 1 := by kernel_rfl
theorem pE : (Rows.laid_internal_strconv_uint64pow10 : DataW Unit) = Lib.tabData .u64 Lib.pow10Tab := by kernel_rfl
theorem table {W : World} (h : laidMetH Tryd.prog Rows.linearStepsRow.laid W) : Lib.TabIs Tryd.prog W "internal/strconv.uint64pow10" .u64 Lib.pow10Tab := by
  rw [Go.MakeChecks.laidMetH_plain Tryd.prog Rows.linearStepsRow.laid W (by kernel_rfl)] at h
  have h2 : laidMet Tryd.prog [("internal/strconv.uint64pow10", Rows.laid_internal_strconv_uint64pow10)] W := laidMet.tail (laidMet.tail h)
  rw [pE] at h2
  exact Lib.tabIs_of_head (rest := []) gTab oH Tryd.underlying163 Tryd.underlying34 qr ql h2
theorem oI (H : Type) (enc : TypeId × Value → H) (W : World) (base : Nat) (args : Array Value) (ds gs : List (DataW H)) (before : List MemPlace)
    (hval0 : ∀ (j : Nat) t v, Tryd.f5.params[j]? = some t → args[j]? = some v → Value.okWide Tryd.prog W .any base t v)
    (hW : DataW.Whole enc Tryd.prog Tryd.f5.params.toList Rows.linearStepsSpec.vars false W args.toList ds gs before) (hL : laidMetH Tryd.prog Rows.linearStepsRow.laid W) :
    Calls Tryd.prog 5 args W fun e W' => ∃ v, e = .returned v ∧ Rows.linearStepsSpec.post enc Tryd.prog Tryd.f5 false true false false W args v W' := by
  have hval : ∀ (j : Nat) t v, Tryd.f5.params[j]? = some t → args[j]? = some v → Value.okWide Tryd.prog W .any base t v := hval0
  have hW' := hW
  obtain ⟨p, q, hA0, hV, hps, hfz, hnd⟩ := hW
  have hA : DataW.TrodAll enc Tryd.prog W 0 (fun _ => true) true Tryd.f5.params.toList args.toList ds p := hA0
  rw [Tryd.params5] at hA hval
  clear hA0 hval0 hps hfz hnd
  obtain ⟨rfl, rfl⟩ := trodVars_none hV
  obtain ⟨al⟩ := args
  dsimp only [] at hA
  have hT : dK (gO W) := TabOf.start (table hL) gTab fun _ => rfl
  obtain ⟨v0, vs0, d0, ds0, p0, q0, rfl, rfl, rfl, t0, h0⟩ := Go.ChangeShapes.trodAll_cons hA
  obtain ⟨v1, vs1, d1, ds1, p1, q1, rfl, rfl, rfl, t1, h1⟩ := Go.ChangeShapes.trodAll_cons h0
  obtain ⟨v2, vs2, d2, ds2, p2, q2, rfl, rfl, rfl, t2, h2⟩ := Go.ChangeShapes.trodAll_cons h1
  obtain ⟨v3, vs3, d3, ds3, p3, q3, rfl, rfl, rfl, t3, h3⟩ := Go.ChangeShapes.trodAll_cons h2
  obtain ⟨v4, vs4, d4, ds4, p4, q4, rfl, rfl, rfl, t4, h4⟩ := Go.ChangeShapes.trodAll_cons h3
  obtain ⟨rfl, rfl, rfl⟩ := trodAll_nil h4
  obtain ⟨x0, s0, rfl, sl0, w0⟩ := jc Tryd.underlying22 (Opens.sl Tryd.underlying22 (by kernel_rfl) (Opens.u8 Tryd.underlying5)) (hval 0 22 v0 rfl rfl) t0
  obtain ⟨x1, s1, rfl, sl1, w1⟩ := jc Tryd.underlying45 (Opens.sl Tryd.underlying45 (by kernel_rfl) (mP enc W 0 (fun _ => true) true)) (hval 1 45 v1 rfl rfl) t1
  obtain ⟨x2, rfl, e2, z2, w2⟩ := open_int Tryd.underlying3 (hval 2 3 v2 rfl rfl) t2
  have w2 := qh w2
  obtain ⟨x3, rfl, e3, z3, w3⟩ := open_int Tryd.underlying5 (hval 3 5 v3 rfl rfl) t3
  have w3 := oR w3
  obtain ⟨x4, rfl, e4, z4, w4⟩ := open_int Tryd.underlying5 (hval 4 5 v4 rfl rfl) t4
  have w4 := oR w4
  have hlaw := fh x0 x1 x2 x3 x4 w0.2
  exact o0 (tb := 4) Tryd.laidOut (by kernel_rfl) Tryd.underlying4 (by kernel_rfl) hW' rfl rfl rfl rfl ((o9 x0 s0 x1 s1 x2 x3 x4 true hlaw (gO W) [] sl0 sl1 hT).mono fun _ _ _ _ h => h.1)
def bL : List (DataW Unit) → List Value
  | .lit (.int k n) :: r => .int k n :: bL r
  | _ => []
def gu : DataW Unit → Array Value
  | .agg l => (bL l).toArray
  | _ => #[]
def mQ (cs : Array Value) : Obj → Obj
  | .cells _ t frozen => .cells cs t frozen
  | o => o
noncomputable def eA (os : Os) : World :=
  { World.holding Tryd.prog os ⟨#[], #[], []⟩ with heap := ((((World.holding Tryd.prog os ⟨#[], #[], []⟩).heap.modify 0 (mQ (gu Rows.laid_internal_strconv_uint64pow10))).modify 1 (mQ (gu Rows.laid_math_bits_deBruijn32tab))).modify 2 (mQ (gu Rows.laid_math_bits_deBruijn64tab))) }
theorem pb (os : Os) : laidMet Tryd.prog Rows.linearStepsRow.laid ((eA os).forCall (fun _ _ => 0) ⟨#[], #[.slice none 0 0, .slice none 0 0, .int .i64 0, .int .u8 0, .int .u8 0], []⟩).memory :=
  laidMet_of_run' 8 (by kernel_rfl) (by kernel_rfl)
theorem reads (os : Os) {H : Type} (enc : TypeId × Value → H) : ∃ places, DataW.whole enc Tryd.prog ((eA os).forCall (fun _ _ => 0) ⟨#[], #[.slice none 0 0, .slice none 0 0, .int .i64 0, .int .u8 0, .int .u8 0], []⟩).memory Tryd.f5.params.toList Rows.linearStepsSpec.vars false (#[.slice none 0 0, .slice none 0 0, .int .i64 0, .int .u8 0, .int .u8 0] : Array Value).toList 8 = some ([.nil, .nil, .lit (.int .i64 0), .lit (.int .u8 0), .lit (.int .u8 0)], [], places) :=
  ⟨[], by kernel_rfl⟩
theorem qA (os : Os) (started : os.Started) (H : Type) (enc : TypeId × Value → H) (F : Stop.Interp) :
    ReturnsInHanded {} Tryd.checked os 5 .any ((OpenSpec.ofChange Rows.linearStepsSpec).preRow enc Tryd.prog Tryd.f5 Rows.linearStepsRow.domain false Rows.linearStepsRow.laid) (((OpenSpec.ofChange Rows.linearStepsSpec).at F).post enc Tryd.prog Tryd.f5 false true false false) := by
  obtain ⟨places, hx⟩ := reads os enc
  refine returnsInHanded_of_row (C := Tryd.checked) (s := OpenSpec.ofChange Rows.linearStepsSpec) Tryd.own started (by kernel_rfl) Tryd.func5
    (witness_row_at (enc := enc) (C := Tryd.checked) false (eA os) #[.slice none 0 0, .slice none 0 0, .int .i64 0, .int .u8 0, .int .u8 0] rfl (by kernel_rfl) (by kernel_rfl) (by kernel_rfl)
      (OpenSpec.preRow_of_cond 8 hx (by kernel_rfl) (fun k hk => by cases hk) (by kernel_rfl) (pb os))) ?_
  intro W base args ds gs before hval hW _ _ _ hL _ _
  exact oI H enc W base args ds gs before hval hW hL
theorem eC : Rows.LinearStepsSaid :=
  OpenClaim.holds_of_cond 5 Tryd.f5 rfl rfl rfl rfl rfl rfl rfl ⟨rfl, rfl, rfl, rfl, rfl⟩ rfl rfl rfl rfl rfl (by kernel_rfl) Tryd.func5 (by kernel_rfl)
    (of_decide_eq_true (by kernel_rfl)) (by unfold Func.isWrapper; first | (rw [if_pos (by decide +kernel)]; kernel_rfl) | (rw [if_neg (by decide +kernel)]; exact ⟨rfl, rfl⟩))
    (fun os started H enc _ F => by rw [OpenClaim.pre_eq_preRow]; exact qA os started H enc F)
theorem plain (f : FuncId) (fn : Func) (hf : Tryd.pinned.checked.prog.funcNamed "chanfabric/chanfabriclaw17.LinearSteps" = some f) (hfn : Tryd.pinned.checked.prog.funcs[f]? = some fn) :
    false = Tryd.pinned.checked.prog.looks [] ∧ ∀ (j : Nat) t, fn.params[j]? = some t → Tryd.pinned.checked.prog.wantsStandIn t = false := by
  obtain rfl : f = 5 := Option.some.inj ((show Tryd.prog.funcNamed "chanfabric/chanfabriclaw17.LinearSteps" = some 5 by kernel_rfl).symm.trans hf) |>.symm
  obtain rfl : fn = Tryd.f5 := (Option.some.inj (Tryd.func5.symm.trans hfn)).symm
  refine ⟨by kernel_rfl, fun j t ht => ?_⟩
  rw [Tryd.params5] at ht
  have hm := Array.mem_of_getElem? ht
  simp only [List.mem_toArray, List.mem_cons, List.not_mem_nil, or_false] at hm
  rcases hm with rfl | rfl | rfl | rfl | rfl
  · exact (show Tryd.prog.wantsStandIn 22 = false by kernel_rfl)
  · exact (show Tryd.prog.wantsStandIn 45 = false by kernel_rfl)
  · exact (show Tryd.prog.wantsStandIn 3 = false by kernel_rfl)
  · exact (show Tryd.prog.wantsStandIn 5 = false by kernel_rfl)
  · exact (show Tryd.prog.wantsStandIn 5 = false by kernel_rfl)
theorem linearStepsCard_holds : Rows.LinearStepsCardSaid :=
  Claim7.holds_tied_plain_at .later [] _ _ _ _ eC (fun _ h => by cases h) (by kernel_rfl) (fun _ h => by cases h) linearSteps_row_tie rfl ⟨rfl, rfl⟩ (by kernel_rfl) rfl plain (by kernel_rfl)
end Go.Proofs.YtphoeijgpmlbpaaDoor
