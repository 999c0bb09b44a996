/- For every input the law returns true, and each argument reads behind the call as it read before. No conditions. -/
import Derived.Test.YthokebmjjkjjfaaXDWLaw151
import Derived.Test.YthokebmjjkjjfaaXDDesk
import Derived.Test.YthokebmjjkjjfaaRows
import Derived.Test.YthokebmjjkjjfaaHxLaw
import Derived.ProofKit
namespace Go.Hx
open Go Go.ChangeShapes Go.WideShapes Go.RowKit Go.Proofs Go.Proofs.Ythokebmjjkjjfaa

end Go.Hx
namespace Go.Proofs.Ythokebmjjkjjfaa
open Go.ChangeShapes Go.WideShapes Go.ChangeAt Go.RowKit Go.Hx
theorem Try.own : ownKnob Try.prog.godebug = none := by kernel_rfl
theorem Try.laidOut : laidOutB Try.prog = true := by kernel_rfl
set_option maxRecDepth 100000 in
theorem deskTicks_lifted (os : Os) (started : os.Started) (H : Type) (enc : TypeId × Value → H) :
    ReturnsInHanded {} Try.checked os 7 .any (Rows.deskTicksSpec.pre6 enc Try.prog Try.f7 Rows.deskTicksRow.domain false) (Rows.deskTicksSpec.post enc Try.prog Try.f7 false true false false) := by
  refine returnsInHanded_of_change (C := Try.checked) Try.own started (by kernel_rfl) Try.func7
    (ChangeSpec.witness6 (enc := enc) (C := Try.checked) false ⟨#[], #[.slice none 0 0, .int .i64 0, .int .i64 0], []⟩ 8 (by kernel_rfl) (by kernel_rfl) (by kernel_rfl) (by kernel_rfl)) ?_
  intro W base args ds gs before hval0 hW hcnd _
  have hval : ∀ (j : Nat) t v, Try.f7.params[j]? = some t → args[j]? = some v → Value.okWide Try.prog W .any base t v := hval0
  have hW' := hW
  obtain ⟨p, q, hA0, hV, hps, hfz, hnd⟩ := hW
  have hA : DataW.TrodAll enc Try.prog W 0 (fun _ => true) true Try.f7.params.toList args.toList ds p := hA0
  rw [Try.params7] at hA hval
  clear hA0 hval0 hps hfz hnd
  obtain ⟨rfl, rfl⟩ := trodVars_none hV
  obtain ⟨al⟩ := args
  dsimp only [] at hA
  obtain ⟨v0, vs0, d0, ds0, p0, q0, rfl, rfl, rfl, t0, h0⟩ := Go.ChangeShapes.trodAll_cons hA
  obtain ⟨v1, vs1, d1, ds1, p1, q1, rfl, rfl, rfl, t1, h1⟩ := Go.ChangeShapes.trodAll_cons h0
  obtain ⟨v2, vs2, d2, ds2, p2, q2, rfl, rfl, rfl, t2, h2⟩ := Go.ChangeShapes.trodAll_cons h1
  obtain ⟨rfl, rfl, rfl⟩ := trodAll_nil h2
  obtain ⟨x0, s0, rfl, sl0, w0⟩ := arg_slice Try.underlying22 (Opens.sl Try.underlying22 (by kernel_rfl) (Opens.u8 Try.underlying5)) (hval 0 22 v0 rfl rfl) t0
  obtain ⟨x1, rfl, e1, z1, w1⟩ := open_int Try.underlying3 (hval 1 3 v1 rfl rfl) t1
  have w1 := wf_inI w1
  obtain ⟨x2, rfl, e2, z2, w2⟩ := open_int Try.underlying3 (hval 2 3 v2 rfl rfl) t2
  have w2 := wf_inI w2
  have hlaw := law_DeskTicks x0 x1 x2 w0.2 w1
  exact law_done (tb := 4) Try.laidOut (by kernel_rfl) Try.underlying4 (by kernel_rfl) hW' rfl rfl rfl rfl ((c_M_188z x0 s0 x1 x2 true hlaw (kall W) [] sl0).mono fun _ _ _ _ h => h.1)

theorem deskTicks_holds : Rows.DeskTicksSaid :=
  OpenClaim.holds_of_wide 7 Try.f7 rfl rfl rfl rfl rfl rfl rfl ⟨rfl, rfl, rfl, rfl, rfl⟩ rfl rfl rfl rfl rfl (by kernel_rfl) Try.func7 (by kernel_rfl)
    (of_decide_eq_true (by kernel_rfl)) (by unfold Func.isWrapper; first | (rw [if_pos (by decide +kernel)]; kernel_rfl) | (rw [if_neg (by decide +kernel)]; exact ⟨rfl, rfl⟩))
    (fun os started H enc _ => deskTicks_lifted os started H enc)
end Go.Proofs.Ythokebmjjkjjfaa
