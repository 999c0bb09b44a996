/- For every input the law returns true, and each argument reads behind the call as it read before. Condition: the tables of the library that the row lists read as the text lays them (the given tie). -/
import Derived.Test.YtphoeijgpmlbpaaDoorXEWRef153
import Derived.Test.YtphoeijgpmlbpaaDoorXELinRun
import Derived.Test.YtphoeijgpmlbpaaDoorCards
import Derived.Test.YtphoeijgpmlbpaaDoorTie
import Derived.Test.YtphoeijgpmlbpaaDoorHxLaw
import Derived.ProofKit
import Derived.WalkKit
import Derived.OpenShut
import Derived.Deep.DeepHandedRow
import Derived.Lib.LaidTab
import Derived.Stop.LaidErr
import Derived.MakeChecks
namespace Go.Hx
open Go Go.ChangeShapes Go.WideShapes Go.RowKit Go.Proofs Go.Proofs.YtphoeijgpmlbpaaDoor

end Go.Hx
namespace Go.Proofs.YtphoeijgpmlbpaaDoor
open Go.ChangeShapes Go.WideShapes Go.ChangeAt Go.RowKit Go.Hx
theorem Tryd.own : ownKnob Tryd.prog.godebug = none := by kernel_rfl
theorem Tryd.laidOut : laidOutB Tryd.prog = true := by kernel_rfl
set_option maxRecDepth 100000
theorem gTab : Tryd.prog.globalNamed "internal/strconv.uint64pow10" = some 0 := by kernel_rfl
theorem sr : (Tryd.prog.globals[0]?).map (·.type) = some 163 := by kernel_rfl
theorem uj : Tryd.prog.cellsOf 163 = 20 := by kernel_rfl
theorem ui : Tryd.prog.cellsOf 34 = 1 := by kernel_rfl
theorem sq : (Rows.laid_internal_strconv_uint64pow10 : DataW Unit) = Lib.tabData .u64 Lib.pow10Tab := by kernel_rfl
theorem table {W : World} (h : laidMetH Tryd.prog Rows.linearPrefixesRow.laid W) : Lib.TabIs Tryd.prog W "internal/strconv.uint64pow10" .u64 Lib.pow10Tab := by
  rw [Go.MakeChecks.laidMetH_plain Tryd.prog Rows.linearPrefixesRow.laid W (by kernel_rfl)] at h
  have h2 : laidMet Tryd.prog [("internal/strconv.uint64pow10", Rows.laid_internal_strconv_uint64pow10)] W := laidMet.tail (laidMet.tail h)
  rw [sq] at h2
  exact Lib.tabIs_of_head (rest := []) gTab sr Tryd.underlying163 Tryd.underlying34 ui uj h2
theorem sn (H : Type) (enc : TypeId × Value → H) (W : World) (base : Nat) (args : Array Value) (ds gs : List (DataW H)) (before : List MemPlace)
    (hval0 : ∀ (j : Nat) t v, Tryd.f3.params[j]? = some t → args[j]? = some v → Value.okWide Tryd.prog W .any base t v)
    (hW : DataW.Whole enc Tryd.prog Tryd.f3.params.toList Rows.linearPrefixesSpec.vars false W args.toList ds gs before) (hL : laidMetH Tryd.prog Rows.linearPrefixesRow.laid W) :
    Calls Tryd.prog 3 args W fun e W' => ∃ v, e = .returned v ∧ Rows.linearPrefixesSpec.post enc Tryd.prog Tryd.f3 false true false false W args v W' := by
  have hval : ∀ (j : Nat) t v, Tryd.f3.params[j]? = some t → args[j]? = some v → Value.okWide Tryd.prog W .any base t v := hval0
  have hW' := hW
  obtain ⟨p, q, hA0, hV, hps, hfz, hnd⟩ := hW
  have hA : DataW.TrodAll enc Tryd.prog W 0 (fun _ => true) true Tryd.f3.params.toList args.toList ds p := hA0
  rw [Tryd.params3] at hA hval
  clear hA0 hval0 hps hfz hnd
  obtain ⟨rfl, rfl⟩ := trodVars_none hV
  obtain ⟨al⟩ := args
  dsimp only [] at hA
  have hT : fa (kh W) := TabOf.start (table hL) gTab fun _ => rfl
  obtain ⟨v0, vs0, d0, ds0, p0, q0, rfl, rfl, rfl, t0, h0⟩ := Go.ChangeShapes.trodAll_cons hA
  obtain ⟨v1, vs1, d1, ds1, p1, q1, rfl, rfl, rfl, t1, h1⟩ := Go.ChangeShapes.trodAll_cons h0
  obtain ⟨v2, vs2, d2, ds2, p2, q2, rfl, rfl, rfl, t2, h2⟩ := Go.ChangeShapes.trodAll_cons h1
  obtain ⟨rfl, rfl, rfl⟩ := trodAll_nil h2
  obtain ⟨x0, s0, rfl, sl0, w0⟩ := qJ Tryd.underlying22 (Opens.sl Tryd.underlying22 (by kernel_rfl) (Opens.u8 Tryd.underlying5)) (hval 0 22 v0 rfl rfl) t0
  obtain ⟨x1, rfl, e1, z1, w1⟩ := open_int Tryd.underlying3 (hval 1 3 v1 rfl rfl) t1
  have w1 := s3 w1
  obtain ⟨x2, rfl, e2, z2, w2⟩ := open_int Tryd.underlying3 (hval 2 3 v2 rfl rfl) t2
  have w2 := s3 w2
  have hlaw := fg x0 x1 x2 w0.2
  exact sB (tb := 4) Tryd.laidOut (by kernel_rfl) Tryd.underlying4 (by kernel_rfl) hW' rfl rfl rfl rfl ((sf x0 s0 x1 x2 true hlaw (kh W) [] sl0 hT).mono fun _ _ _ _ h => h.1)
def bQ : List (DataW Unit) → List Value
  | .lit (.int k n) :: r => .int k n :: bQ r
  | _ => []
def kD : DataW Unit → Array Value
  | .agg l => (bQ l).toArray
  | _ => #[]
def pu (cs : Array Value) : Obj → Obj
  | .cells _ t frozen => .cells cs t frozen
  | o => o
noncomputable def laidWorld (os : Os) : World :=
  { World.holding Tryd.prog os ⟨#[], #[], []⟩ with heap := ((((World.holding Tryd.prog os ⟨#[], #[], []⟩).heap.modify 0 (pu (kD Rows.laid_internal_strconv_uint64pow10))).modify 1 (pu (kD Rows.laid_math_bits_deBruijn32tab))).modify 2 (pu (kD Rows.laid_math_bits_deBruijn64tab))) }
theorem laid_met (os : Os) : laidMet Tryd.prog Rows.linearPrefixesRow.laid ((laidWorld os).forCall (fun _ _ => 0) ⟨#[], #[.slice none 0 0, .int .i64 0, .int .i64 0], []⟩).memory :=
  laidMet_of_run' 8 (by kernel_rfl) (by kernel_rfl)
theorem reads (os : Os) {H : Type} (enc : TypeId × Value → H) : ∃ places, DataW.whole enc Tryd.prog ((laidWorld os).forCall (fun _ _ => 0) ⟨#[], #[.slice none 0 0, .int .i64 0, .int .i64 0], []⟩).memory Tryd.f3.params.toList Rows.linearPrefixesSpec.vars false (#[.slice none 0 0, .int .i64 0, .int .i64 0] : Array Value).toList 8 = some ([.nil, .lit (.int .i64 0), .lit (.int .i64 0)], [], places) :=
  ⟨[], by kernel_rfl⟩
theorem lifted (os : Os) (started : os.Started) (H : Type) (enc : TypeId × Value → H) (F : Stop.Interp) :
    ReturnsInHanded {} Tryd.checked os 3 .any ((OpenSpec.ofChange Rows.linearPrefixesSpec).preRow enc Tryd.prog Tryd.f3 Rows.linearPrefixesRow.domain false Rows.linearPrefixesRow.laid) (((OpenSpec.ofChange Rows.linearPrefixesSpec).at F).post enc Tryd.prog Tryd.f3 false true false false) := by
  obtain ⟨places, hx⟩ := reads os enc
  refine returnsInHanded_of_row (C := Tryd.checked) (s := OpenSpec.ofChange Rows.linearPrefixesSpec) Tryd.own started (by kernel_rfl) Tryd.func3
    (witness_row_at (enc := enc) (C := Tryd.checked) false (laidWorld os) #[.slice none 0 0, .int .i64 0, .int .i64 0] rfl (by kernel_rfl) (by kernel_rfl) (by kernel_rfl)
      (OpenSpec.preRow_of_cond 8 hx (by kernel_rfl) (fun k hk => by cases hk) (by kernel_rfl) (laid_met os))) ?_
  intro W base args ds gs before hval hW _ _ _ hL _ _
  exact sn H enc W base args ds gs before hval hW hL
theorem eN : Rows.LinearPrefixesSaid :=
  OpenClaim.holds_of_cond 3 Tryd.f3 rfl rfl rfl rfl rfl rfl rfl ⟨rfl, rfl, rfl, rfl, rfl⟩ rfl rfl rfl rfl rfl (by kernel_rfl) Tryd.func3 (by kernel_rfl)
    (of_decide_eq_true (by kernel_rfl)) (by unfold Func.isWrapper; first | (rw [if_pos (by decide +kernel)]; kernel_rfl) | (rw [if_neg (by decide +kernel)]; exact ⟨rfl, rfl⟩))
    (fun os started H enc _ F => by rw [OpenClaim.pre_eq_preRow]; exact lifted os started H enc F)
theorem plain (f : FuncId) (fn : Func) (hf : Tryd.pinned.checked.prog.funcNamed "chanfabric/chanfabriclaw17.LinearPrefixes" = some f) (hfn : Tryd.pinned.checked.prog.funcs[f]? = some fn) :
    false = Tryd.pinned.checked.prog.looks [] ∧ ∀ (j : Nat) t, fn.params[j]? = some t → Tryd.pinned.checked.prog.wantsStandIn t = false := by
  obtain rfl : f = 3 := Option.some.inj ((show Tryd.prog.funcNamed "chanfabric/chanfabriclaw17.LinearPrefixes" = some 3 by kernel_rfl).symm.trans hf) |>.symm
  obtain rfl : fn = Tryd.f3 := (Option.some.inj (Tryd.func3.symm.trans hfn)).symm
  refine ⟨by kernel_rfl, fun j t ht => ?_⟩
  rw [Tryd.params3] at ht
  have hm := Array.mem_of_getElem? ht
  simp only [List.mem_toArray, List.mem_cons, List.not_mem_nil, or_false] at hm
  rcases hm with rfl | rfl | rfl
  · exact (show Tryd.prog.wantsStandIn 22 = false by kernel_rfl)
  · exact (show Tryd.prog.wantsStandIn 3 = false by kernel_rfl)
  · exact (show Tryd.prog.wantsStandIn 3 = false by kernel_rfl)
theorem linearPrefixesCard_holds : Rows.LinearPrefixesCardSaid :=
  Claim7.holds_tied_plain_at .later [] _ _ _ _ eN (fun _ h => by cases h) (by kernel_rfl) (fun _ h => by cases h) linearPrefixes_row_tie rfl ⟨rfl, rfl⟩ (by kernel_rfl) rfl plain (by kernel_rfl)
end Go.Proofs.YtphoeijgpmlbpaaDoor
