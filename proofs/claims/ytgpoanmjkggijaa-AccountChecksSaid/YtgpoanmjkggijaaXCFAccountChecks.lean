/- For every input the law returns true, and each argument reads behind the call as it read before. No conditions. -/
import Derived.Test.YtgpoanmjkggijaaXCWLAccountChecks
import Derived.Test.YtgpoanmjkggijaaXCAcc6
import Derived.Test.YtgpoanmjkggijaaRows
import Derived.Test.YtgpoanmjkggijaaHxLaw
import Derived.ProofKit
namespace Go.Hx
open Go Go.ChangeShapes Go.WideShapes Go.RowKit Go.Proofs Go.Proofs.Ytgpoanmjkggijaa

end Go.Hx
namespace Go.Proofs.Ytgpoanmjkggijaa
open Go.ChangeShapes Go.WideShapes Go.ChangeAt Go.RowKit Go.Hx
theorem Try.own : ownKnob Try.prog.godebug = none := by kernel_rfl
theorem Try.laidOut : laidOutB Try.prog = true := by kernel_rfl
set_option maxRecDepth 100000 in
theorem accountChecks_lifted (os : Os) (started : os.Started) (H : Type) (enc : TypeId × Value → H) :
    ReturnsInHanded {} Try.checked os 6 .any (Rows.accountChecksSpec.pre6 enc Try.prog Try.f6 Rows.accountChecksRow.domain false) (Rows.accountChecksSpec.post enc Try.prog Try.f6 false true false false) := by
  refine returnsInHanded_of_change (C := Try.checked) Try.own started (by kernel_rfl) Try.func6
    (ChangeSpec.witness6 (enc := enc) (C := Try.checked) false ⟨#[], #[.slice none 0 0, .int .i64 0, .int .i64 0, .int .u8 0, .int .u8 0], []⟩ 8 (by kernel_rfl) (by kernel_rfl) (by kernel_rfl) (by kernel_rfl)) ?_
  intro W base args ds gs before hval0 hW hcnd _
  have hval : ∀ (j : Nat) t v, Try.f6.params[j]? = some t → args[j]? = some v → Value.okWide Try.prog W .any base t v := hval0
  have hW' := hW
  obtain ⟨p, q, hA0, hV, hps, hfz, hnd⟩ := hW
  have hA : DataW.TrodAll enc Try.prog W 0 (fun _ => true) true Try.f6.params.toList args.toList ds p := hA0
  rw [Try.params6] at hA hval
  clear hA0 hval0 hps hfz hnd
  obtain ⟨rfl, rfl⟩ := trodVars_none hV
  obtain ⟨al⟩ := args
  dsimp only [] at hA
  obtain ⟨v0, vs0, d0, ds0, p0, q0, rfl, rfl, rfl, t0, h0⟩ := Go.ChangeShapes.trodAll_cons hA
  obtain ⟨v1, vs1, d1, ds1, p1, q1, rfl, rfl, rfl, t1, h1⟩ := Go.ChangeShapes.trodAll_cons h0
  obtain ⟨v2, vs2, d2, ds2, p2, q2, rfl, rfl, rfl, t2, h2⟩ := Go.ChangeShapes.trodAll_cons h1
  obtain ⟨v3, vs3, d3, ds3, p3, q3, rfl, rfl, rfl, t3, h3⟩ := Go.ChangeShapes.trodAll_cons h2
  obtain ⟨v4, vs4, d4, ds4, p4, q4, rfl, rfl, rfl, t4, h4⟩ := Go.ChangeShapes.trodAll_cons h3
  obtain ⟨rfl, rfl, rfl⟩ := trodAll_nil h4
  obtain ⟨x0, s0, rfl, sl0, w0⟩ := arg_slice Try.underlying22 (Opens.sl Try.underlying22 (by kernel_rfl) (Opens.u8 Try.underlying5)) (hval 0 22 v0 rfl rfl) t0
  obtain ⟨x1, rfl, e1, z1, w1⟩ := open_int Try.underlying3 (hval 1 3 v1 rfl rfl) t1
  have w1 := wf_inI w1
  obtain ⟨x2, rfl, e2, z2, w2⟩ := open_int Try.underlying3 (hval 2 3 v2 rfl rfl) t2
  have w2 := wf_inI w2
  obtain ⟨x3, rfl, e3, z3, w3⟩ := open_int Try.underlying5 (hval 3 5 v3 rfl rfl) t3
  have w3 := wf_inB w3
  obtain ⟨x4, rfl, e4, z4, w4⟩ := open_int Try.underlying5 (hval 4 5 v4 rfl rfl) t4
  have w4 := wf_inB w4
  have hlaw := law_AccountChecks x0 x1 x2 x3 x4 w0.2
  exact law_done (tb := 4) Try.laidOut (by kernel_rfl) Try.underlying4 (by kernel_rfl) hW' rfl rfl rfl rfl ((c_M_185z x0 s0 x1 x2 x3 x4 true hlaw (kall W) [] sl0).mono fun _ _ _ _ h => h.1)

theorem accountChecks_holds : Rows.AccountChecksSaid :=
  OpenClaim.holds_of_wide 6 Try.f6 rfl rfl rfl rfl rfl rfl rfl ⟨rfl, rfl, rfl, rfl, rfl⟩ rfl rfl rfl rfl rfl (by kernel_rfl) Try.func6 (by kernel_rfl)
    (of_decide_eq_true (by kernel_rfl)) (by unfold Func.isWrapper; first | (rw [if_pos (by decide +kernel)]; kernel_rfl) | (rw [if_neg (by decide +kernel)]; exact ⟨rfl, rfl⟩))
    (fun os started H enc _ => accountChecks_lifted os started H enc)
end Go.Proofs.Ytgpoanmjkggijaa
