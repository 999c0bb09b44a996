/- For every input the law returns true, and each argument reads behind the call as it read before. No conditions. -/
import Derived.Test.YtgkmiemclhaahaaSAMeO
import Derived.Test.YtgkmiemclhaahaaRows
import Derived.Test.YtgkmiemclhaahaaGhlLaw
import Derived.ProofKit
namespace Go.Proofs.Ytgkmiemclhaahaa
open Go.ChangeShapes Go.WideShapes Go.ChangeAt Go.RowKit Go.Ghl
theorem Try.own : ownKnob Try.prog.godebug = none := by kernel_rfl
theorem Try.laidOut : laidOutB Try.prog = true := by kernel_rfl
set_option maxRecDepth 100000 in
theorem memoryOne_lifted (os : Os) (started : os.Started) (H : Type) (enc : TypeId × Value → H) :
    ReturnsInHanded {} Try.checked os 9 .any (Rows.memoryOneSpec.pre6 enc Try.prog Try.f9 Rows.memoryOneRow.domain false) (Rows.memoryOneSpec.post enc Try.prog Try.f9 false true false false) := by
  refine returnsInHanded_of_change (C := Try.checked) Try.own started (by kernel_rfl) Try.func9
    (ChangeSpec.witness6 (enc := enc) (C := Try.checked) false ⟨#[], #[.slice none 0 0], []⟩ 8 (by kernel_rfl) (by kernel_rfl) (by kernel_rfl) (by kernel_rfl)) ?_
  intro W base args ds gs before hval0 hW hcnd _
  have hval : ∀ (j : Nat) t v, Try.f9.params[j]? = some t → args[j]? = some v → Value.okWide Try.prog W .any base t v := hval0
  have hW' := hW
  obtain ⟨p, q, hA0, hV, hps, hfz, hnd⟩ := hW
  have hA : DataW.TrodAll enc Try.prog W 0 (fun _ => true) true Try.f9.params.toList args.toList ds p := hA0
  rw [Try.params9] at hA hval
  clear hA0 hval0 hps hfz hnd
  obtain ⟨rfl, rfl⟩ := trodVars_none hV
  obtain ⟨al⟩ := args
  dsimp only [] at hA
  obtain ⟨v0, vs0, d0, ds0, p0, q0, rfl, rfl, rfl, t0, h0⟩ := Go.ChangeShapes.trodAll_cons hA
  obtain ⟨rfl, rfl, rfl⟩ := trodAll_nil h0
  obtain ⟨A0, cp0, x0, rfl, sl0, w0⟩ := open_rows (n := 6) (size := 1) Try.underlying27 (ks := [some .u8]) (by kernel_rfl) (by kernel_rfl) (fun r hr => u8_of hr) (hval 0 27 v0 rfl rfl) t0
  exact law_done (tb := 4) Try.laidOut (by kernel_rfl) Try.underlying4 (by kernel_rfl) hW' rfl rfl rfl rfl (c_memoryOne A0 cp0 x0  (kall W) [] sl0)

theorem memoryOne_holds : Rows.MemoryOneSaid :=
  OpenClaim.holds_of_wide 9 Try.f9 rfl rfl rfl rfl rfl rfl rfl ⟨rfl, rfl, rfl, rfl, rfl⟩ rfl rfl rfl rfl rfl (by kernel_rfl) Try.func9 (by kernel_rfl)
    (of_decide_eq_true (by kernel_rfl)) (by unfold Func.isWrapper; first | (rw [if_pos (by decide +kernel)]; kernel_rfl) | (rw [if_neg (by decide +kernel)]; exact ⟨rfl, rfl⟩))
    (fun os started H enc _ => memoryOne_lifted os started H enc)
end Go.Proofs.Ytgkmiemclhaahaa

