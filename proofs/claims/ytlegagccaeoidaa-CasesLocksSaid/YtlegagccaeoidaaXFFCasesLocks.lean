/- For every input the law returns true, and each argument reads behind the call as it read before. No conditions. -/
import Derived.Test.YtlegagccaeoidaaXFWLCasesLocks
import Derived.Test.YtlegagccaeoidaaXFLCasesLocks
import Derived.Test.YtlegagccaeoidaaRows
import Derived.Test.YtlegagccaeoidaaHxLaw
import Derived.ProofKit
namespace Go.Hx
open Go Go.ChangeShapes Go.WideShapes Go.RowKit Go.Proofs Go.Proofs.Ytlegagccaeoidaa
def Case.wf (x : Case) : Prop := inT x.send ∧ inI x.channel ∧ inU x.value
theorem opens_Case {H : Type} (enc : TypeId × Value → H) (w : World) (base : Nat) (spare : Nat → Bool) (held : Bool) : Opens enc Try.prog w base spare held 56 TyCase Case.wf := fun fuel cs x h => by
  obtain ⟨hlen, n0, y0, g0⟩ := field_trod (i := 0) (off := 0) (m := 1) Try.underlying56 rfl rfl rfl (by kernel_rfl) h
  obtain ⟨x0, r0, w0⟩ := (Opens.bool Try.underlying4) _ _ _ g0
  have q0 := r0
  obtain ⟨_, n1, y1, g1⟩ := field_trod (i := 1) (off := 1) (m := 1) Try.underlying56 rfl rfl rfl (by kernel_rfl) h
  obtain ⟨x1, r1, w1⟩ := (Opens.i64 Try.underlying3) _ _ _ g1
  have q1 := r1
  obtain ⟨_, n2, y2, g2⟩ := field_trod (i := 2) (off := 2) (m := 1) Try.underlying56 rfl rfl rfl (by kernel_rfl) h
  obtain ⟨x2, r2, w2⟩ := (Opens.u64 Try.underlying22) _ _ _ g2
  have q2 := r2
  have hl : cs.length = 3 := by rw [hlen]; kernel_rfl
  refine ⟨(Case.mk x0 x1 x2), ?_, ⟨w0, w1, w2⟩⟩
  refine list_of_gets (by rw [hl]; rfl) fun i hi => ?_
  simp only [Case.cells, List.length_cons, List.length_nil] at hi
  match i, hi with
  | 0, _ => exact sub_get q0 (i := 0) rfl
  | 1, _ => exact sub_get q1 (i := 0) rfl
  | 2, _ => exact sub_get q2 (i := 0) rfl
def Op.wf (x : Op) : Prop := inI x.kind ∧ inI x.mode ∧ inI x.channel ∧ inU x.value ∧ inI x.deadline ∧ (inL Case.wf) x.cases ∧ (inL inI) x.draws
theorem opens_Op {H : Type} (enc : TypeId × Value → H) (w : World) (base : Nat) (spare : Nat → Bool) (held : Bool) : Opens enc Try.prog w base spare held 26 TyOp Op.wf := fun fuel cs x h => by
  obtain ⟨hlen, n0, y0, g0⟩ := field_trod (i := 0) (off := 0) (m := 1) Try.underlying26 rfl rfl rfl (by kernel_rfl) h
  obtain ⟨x0, r0, w0⟩ := (Opens.i64 Try.underlying3) _ _ _ g0
  have q0 := r0
  obtain ⟨_, n1, y1, g1⟩ := field_trod (i := 1) (off := 1) (m := 1) Try.underlying26 rfl rfl rfl (by kernel_rfl) h
  obtain ⟨x1, r1, w1⟩ := (Opens.i64 Try.underlying3) _ _ _ g1
  have q1 := r1
  obtain ⟨_, n2, y2, g2⟩ := field_trod (i := 2) (off := 2) (m := 1) Try.underlying26 rfl rfl rfl (by kernel_rfl) h
  obtain ⟨x2, r2, w2⟩ := (Opens.i64 Try.underlying3) _ _ _ g2
  have q2 := r2
  obtain ⟨_, n3, y3, g3⟩ := field_trod (i := 3) (off := 3) (m := 1) Try.underlying26 rfl rfl rfl (by kernel_rfl) h
  obtain ⟨x3, r3, w3⟩ := (Opens.u64 Try.underlying22) _ _ _ g3
  have q3 := r3
  obtain ⟨_, n4, y4, g4⟩ := field_trod (i := 4) (off := 4) (m := 1) Try.underlying26 rfl rfl rfl (by kernel_rfl) h
  obtain ⟨x4, r4, w4⟩ := (Opens.i64 Try.underlying3) _ _ _ g4
  have q4 := r4
  obtain ⟨_, n5, y5, g5⟩ := field_trod (i := 5) (off := 5) (m := 1) Try.underlying26 rfl rfl rfl (by kernel_rfl) h
  obtain ⟨x5, r5, w5⟩ := (Opens.sl Try.underlying23 (by kernel_rfl) (opens_Case enc w base spare held)) _ _ _ g5
  obtain ⟨v5, q5, h5⟩ := r5
  obtain ⟨_, n6, y6, g6⟩ := field_trod (i := 6) (off := 6) (m := 1) Try.underlying26 rfl rfl rfl (by kernel_rfl) h
  obtain ⟨x6, r6, w6⟩ := (Opens.sl Try.underlying24 (by kernel_rfl) (Opens.i64 Try.underlying3)) _ _ _ g6
  obtain ⟨v6, q6, h6⟩ := r6
  have hl : cs.length = 7 := by rw [hlen]; kernel_rfl
  refine ⟨(Op.mk x0 x1 x2 x3 x4 x5 x6), ⟨v5, v6, ?_, h5, h6⟩, ⟨w0, w1, w2, w3, w4, w5, w6⟩⟩
  refine list_of_gets (by rw [hl]; rfl) fun i hi => ?_
  simp only [Op.cells, List.length_cons, List.length_nil] at hi
  match i, hi with
  | 0, _ => exact sub_get q0 (i := 0) rfl
  | 1, _ => exact sub_get q1 (i := 0) rfl
  | 2, _ => exact sub_get q2 (i := 0) rfl
  | 3, _ => exact sub_get q3 (i := 0) rfl
  | 4, _ => exact sub_get q4 (i := 0) rfl
  | 5, _ => exact sub_get q5 (i := 0) rfl
  | 6, _ => exact sub_get q6 (i := 0) rfl
end Go.Hx
namespace Go.Proofs.Ytlegagccaeoidaa
open Go.ChangeShapes Go.WideShapes Go.ChangeAt Go.RowKit Go.Hx
theorem Try.own : ownKnob Try.prog.godebug = none := by kernel_rfl
theorem Try.laidOut : laidOutB Try.prog = true := by kernel_rfl
set_option maxRecDepth 100000 in
theorem casesLocks_lifted (os : Os) (started : os.Started) (H : Type) (enc : TypeId × Value → H) :
    ReturnsInHanded {} Try.checked os 4 .any (Rows.casesLocksSpec.pre6 enc Try.prog Try.f4 Rows.casesLocksRow.domain false) (Rows.casesLocksSpec.post enc Try.prog Try.f4 false true false false) := by
  refine returnsInHanded_of_change (C := Try.checked) Try.own started (by kernel_rfl) Try.func4
    (ChangeSpec.witness6 (enc := enc) (C := Try.checked) false ⟨#[], #[.agg #[.int .i64 0, .int .i64 0, .int .i64 0, .int .u64 0, .int .i64 0, .slice none 0 0, .slice none 0 0], .slice none 0 0, .int .i64 0], []⟩ 8 (by kernel_rfl) (by kernel_rfl) (by kernel_rfl) (by kernel_rfl)) ?_
  intro W base args ds gs before hval0 hW hcnd _
  have hval : ∀ (j : Nat) t v, Try.f4.params[j]? = some t → args[j]? = some v → Value.okWide Try.prog W .any base t v := hval0
  have hW' := hW
  obtain ⟨p, q, hA0, hV, hps, hfz, hnd⟩ := hW
  have hA : DataW.TrodAll enc Try.prog W 0 (fun _ => true) true Try.f4.params.toList args.toList ds p := hA0
  rw [Try.params4] at hA hval
  clear hA0 hval0 hps hfz hnd
  obtain ⟨rfl, rfl⟩ := trodVars_none hV
  obtain ⟨al⟩ := args
  dsimp only [] at hA
  obtain ⟨v0, vs0, d0, ds0, p0, q0, rfl, rfl, rfl, t0, h0⟩ := Go.ChangeShapes.trodAll_cons hA
  obtain ⟨v1, vs1, d1, ds1, p1, q1, rfl, rfl, rfl, t1, h1⟩ := Go.ChangeShapes.trodAll_cons h0
  obtain ⟨v2, vs2, d2, ds2, p2, q2, rfl, rfl, rfl, t2, h2⟩ := Go.ChangeShapes.trodAll_cons h1
  obtain ⟨rfl, rfl, rfl⟩ := trodAll_nil h2
  obtain ⟨x0, cs0, rfl, r0, w0⟩ := arg_struct Try.underlying26 (opens_Op enc W 0 (fun _ => true) true) (hval 0 26 v0 rfl rfl) t0
  obtain ⟨s0_0, s0_1, rfl, sl0_0, sl0_1⟩ := r0
  obtain ⟨x1, s1, rfl, sl1, w1⟩ := arg_slice Try.underlying27 (Opens.sl Try.underlying27 (by kernel_rfl) (Opens.u8 Try.underlying5)) (hval 1 27 v1 rfl rfl) t1
  obtain ⟨x2, rfl, e2, z2, w2⟩ := open_int Try.underlying3 (hval 2 3 v2 rfl rfl) t2
  have w2 := wf_inI w2
  have hlaw := law_CasesLocks x0 x1 x2 w1.2
  exact law_done (tb := 4) Try.laidOut (by kernel_rfl) Try.underlying4 (by kernel_rfl) hW' rfl rfl rfl rfl ((c_M_law3_CasesLocks x0 s0_0 s0_1 x1 s1 x2 true hlaw (kall W) [] sl0_0 sl0_1 sl1).mono fun _ _ _ _ h => h.1)

theorem casesLocks_holds : Rows.CasesLocksSaid :=
  OpenClaim.holds_of_wide 4 Try.f4 rfl rfl rfl rfl rfl rfl rfl ⟨rfl, rfl, rfl, rfl, rfl⟩ rfl rfl rfl rfl rfl (by kernel_rfl) Try.func4 (by kernel_rfl)
    (of_decide_eq_true (by kernel_rfl)) (by unfold Func.isWrapper; first | (rw [if_pos (by decide +kernel)]; kernel_rfl) | (rw [if_neg (by decide +kernel)]; exact ⟨rfl, rfl⟩))
    (fun os started H enc _ => casesLocks_lifted os started H enc)
end Go.Proofs.Ytlegagccaeoidaa
