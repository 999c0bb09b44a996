/- For every input the law returns true, and each argument reads behind the call as it read before. No conditions. -/
import Derived.Test.YtgkmiemclhaahaaSAMeK
import Derived.Test.YtgkmiemclhaahaaRows
import Derived.Test.YtgkmiemclhaahaaGhlLaw
import Derived.ProofKit
namespace Go.Proofs.Ytgkmiemclhaahaa
open Go.ChangeShapes Go.WideShapes Go.ChangeAt Go.RowKit Go.Ghl
theorem Try.own : ownKnob Try.prog.godebug = none := by kernel_rfl
theorem Try.laidOut : laidOutB Try.prog = true := by kernel_rfl
set_option maxRecDepth 100000 in
theorem memoryKinds_lifted (os : Os) (started : os.Started) (H : Type) (enc : TypeId × Value → H) :
    ReturnsInHanded {} Try.checked os 10 .any (Rows.memoryKindsSpec.pre6 enc Try.prog Try.f10 Rows.memoryKindsRow.domain false) (Rows.memoryKindsSpec.post enc Try.prog Try.f10 false true false false) := by
  refine returnsInHanded_of_change (C := Try.checked) Try.own started (by kernel_rfl) Try.func10
    (ChangeSpec.witness6 (enc := enc) (C := Try.checked) false ⟨#[], #[.int .i64 0], []⟩ 8 (by kernel_rfl) (by kernel_rfl) (by kernel_rfl) (by kernel_rfl)) ?_
  intro W base args ds gs before hval0 hW hcnd _
  have hval : ∀ (j : Nat) t v, Try.f10.params[j]? = some t → args[j]? = some v → Value.okWide Try.prog W .any base t v := hval0
  have hW' := hW
  obtain ⟨p, q, hA0, hV, hps, hfz, hnd⟩ := hW
  have hA : DataW.TrodAll enc Try.prog W 0 (fun _ => true) true Try.f10.params.toList args.toList ds p := hA0
  rw [Try.params10] at hA hval
  clear hA0 hval0 hps hfz hnd
  obtain ⟨rfl, rfl⟩ := trodVars_none hV
  obtain ⟨al⟩ := args
  dsimp only [] at hA
  obtain ⟨v0, vs0, d0, ds0, p0, q0, rfl, rfl, rfl, t0, h0⟩ := Go.ChangeShapes.trodAll_cons hA
  obtain ⟨rfl, rfl, rfl⟩ := trodAll_nil h0
  obtain ⟨x0, rfl, e0, z0, w0⟩ := open_int Try.underlying3 (hval 0 3 v0 rfl rfl) t0
  exact law_done (tb := 4) Try.laidOut (by kernel_rfl) Try.underlying4 (by kernel_rfl) hW' rfl rfl rfl rfl (c_memoryKinds x0 (kall W) [] )

theorem memoryKinds_holds : Rows.MemoryKindsSaid :=
  OpenClaim.holds_of_wide 10 Try.f10 rfl rfl rfl rfl rfl rfl rfl ⟨rfl, rfl, rfl, rfl, rfl⟩ rfl rfl rfl rfl rfl (by kernel_rfl) Try.func10 (by kernel_rfl)
    (of_decide_eq_true (by kernel_rfl)) (by unfold Func.isWrapper; first | (rw [if_pos (by decide +kernel)]; kernel_rfl) | (rw [if_neg (by decide +kernel)]; exact ⟨rfl, rfl⟩))
    (fun os started H enc _ => memoryKinds_lifted os started H enc)
end Go.Proofs.Ytgkmiemclhaahaa

