/- For every input the law returns true, and each argument reads behind the call as it read before. No conditions. -/
import Derived.Test.YtgpoanmjkggijaaXCWRef153
import Derived.Test.YtgpoanmjkggijaaXCAcc6
import Derived.Test.YtgpoanmjkggijaaRows
import Derived.Test.YtgpoanmjkggijaaHxLaw
import Derived.ProofKit
namespace Go.Hx
open Go Go.ChangeShapes Go.WideShapes Go.RowKit Go.Proofs Go.Proofs.Ytgpoanmjkggijaa

end Go.Hx
namespace Go.Proofs.Ytgpoanmjkggijaa
open Go.ChangeShapes Go.WideShapes Go.ChangeAt Go.RowKit Go.Hx
theorem Try.own : ownKnob Try.prog.godebug = none := by kernel_rfl
theorem Try.laidOut : laidOutB Try.prog = true := by kernel_rfl
set_option maxRecDepth 100000 in
theorem accountPrefixes_lifted (os : Os) (started : os.Started) (H : Type) (enc : TypeId × Value → H) :
    ReturnsInHanded {} Try.checked os 7 .any (Rows.accountPrefixesSpec.pre6 enc Try.prog Try.f7 Rows.accountPrefixesRow.domain false) (Rows.accountPrefixesSpec.post enc Try.prog Try.f7 false true false false) := by
  refine returnsInHanded_of_change (C := Try.checked) Try.own started (by kernel_rfl) Try.func7
    (ChangeSpec.witness6 (enc := enc) (C := Try.checked) false ⟨#[], #[.slice none 0 0], []⟩ 8 (by kernel_rfl) (by kernel_rfl) (by kernel_rfl) (by kernel_rfl)) ?_
  intro W base args ds gs before hval0 hW hcnd _
  have hval : ∀ (j : Nat) t v, Try.f7.params[j]? = some t → args[j]? = some v → Value.okWide Try.prog W .any base t v := hval0
  have hW' := hW
  obtain ⟨p, q, hA0, hV, hps, hfz, hnd⟩ := hW
  have hA : DataW.TrodAll enc Try.prog W 0 (fun _ => true) true Try.f7.params.toList args.toList ds p := hA0
  rw [Try.params7] at hA hval
  clear hA0 hval0 hps hfz hnd
  obtain ⟨rfl, rfl⟩ := trodVars_none hV
  obtain ⟨al⟩ := args
  dsimp only [] at hA
  obtain ⟨v0, vs0, d0, ds0, p0, q0, rfl, rfl, rfl, t0, h0⟩ := Go.ChangeShapes.trodAll_cons hA
  obtain ⟨rfl, rfl, rfl⟩ := trodAll_nil h0
  obtain ⟨x0, s0, rfl, sl0, w0⟩ := arg_slice Try.underlying22 (Opens.sl Try.underlying22 (by kernel_rfl) (Opens.u8 Try.underlying5)) (hval 0 22 v0 rfl rfl) t0
  have hlaw := law_AccountPrefixes x0 w0.2
  exact law_done (tb := 4) Try.laidOut (by kernel_rfl) Try.underlying4 (by kernel_rfl) hW' rfl rfl rfl rfl ((c_M_140z x0 s0 true hlaw (kall W) [] sl0).mono fun _ _ _ _ h => h.1)

theorem accountPrefixes_holds : Rows.AccountPrefixesSaid :=
  OpenClaim.holds_of_wide 7 Try.f7 rfl rfl rfl rfl rfl rfl rfl ⟨rfl, rfl, rfl, rfl, rfl⟩ rfl rfl rfl rfl rfl (by kernel_rfl) Try.func7 (by kernel_rfl)
    (of_decide_eq_true (by kernel_rfl)) (by unfold Func.isWrapper; first | (rw [if_pos (by decide +kernel)]; kernel_rfl) | (rw [if_neg (by decide +kernel)]; exact ⟨rfl, rfl⟩))
    (fun os started H enc _ => accountPrefixes_lifted os started H enc)
end Go.Proofs.Ytgpoanmjkggijaa
