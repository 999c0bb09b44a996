/- For every input the law returns true, and each argument reads behind the call as it read before. No conditions. -/
import Derived.Test.YthpjaddchdnejaaXBWLHappensClocks
import Derived.Test.YthpjaddchdnejaaXBLHappensClocks
import Derived.Test.YthpjaddchdnejaaRows
import Derived.Test.YthpjaddchdnejaaHxLaw
import Derived.ProofKit
namespace Go.Hx
open Go Go.ChangeShapes Go.WideShapes Go.RowKit Go.Proofs Go.Proofs.Ythpjaddchdnejaa
def Access.wf (x : Access) : Prop := inI x.kind ∧ inI x.address ∧ inU x.old ∧ inU x.new ∧ inI x.until_
theorem opens_Access {H : Type} (enc : TypeId × Value → H) (w : World) (base : Nat) (spare : Nat → Bool) (held : Bool) : Opens enc Try.prog w base spare held 54 TyAccess Access.wf := fun fuel cs x h => by
  obtain ⟨hlen, n0, y0, g0⟩ := field_trod (i := 0) (off := 0) (m := 1) Try.underlying54 rfl rfl rfl (by kernel_rfl) h
  obtain ⟨x0, r0, w0⟩ := (Opens.i64 Try.underlying3) _ _ _ g0
  have q0 := r0
  obtain ⟨_, n1, y1, g1⟩ := field_trod (i := 1) (off := 1) (m := 1) Try.underlying54 rfl rfl rfl (by kernel_rfl) h
  obtain ⟨x1, r1, w1⟩ := (Opens.i64 Try.underlying3) _ _ _ g1
  have q1 := r1
  obtain ⟨_, n2, y2, g2⟩ := field_trod (i := 2) (off := 2) (m := 1) Try.underlying54 rfl rfl rfl (by kernel_rfl) h
  obtain ⟨x2, r2, w2⟩ := (Opens.u64 Try.underlying30) _ _ _ g2
  have q2 := r2
  obtain ⟨_, n3, y3, g3⟩ := field_trod (i := 3) (off := 3) (m := 1) Try.underlying54 rfl rfl rfl (by kernel_rfl) h
  obtain ⟨x3, r3, w3⟩ := (Opens.u64 Try.underlying30) _ _ _ g3
  have q3 := r3
  obtain ⟨_, n4, y4, g4⟩ := field_trod (i := 4) (off := 4) (m := 1) Try.underlying54 rfl rfl rfl (by kernel_rfl) h
  obtain ⟨x4, r4, w4⟩ := (Opens.i64 Try.underlying3) _ _ _ g4
  have q4 := r4
  have hl : cs.length = 5 := by rw [hlen]; kernel_rfl
  refine ⟨(Access.mk x0 x1 x2 x3 x4), ?_, ⟨w0, w1, w2, w3, w4⟩⟩
  refine list_of_gets (by rw [hl]; rfl) fun i hi => ?_
  simp only [Access.cells, List.length_cons, List.length_nil] at hi
  match i, hi with
  | 0, _ => exact sub_get q0 (i := 0) rfl
  | 1, _ => exact sub_get q1 (i := 0) rfl
  | 2, _ => exact sub_get q2 (i := 0) rfl
  | 3, _ => exact sub_get q3 (i := 0) rfl
  | 4, _ => exact sub_get q4 (i := 0) rfl
def Item.wf (x : Item) : Prop := inI x.thread ∧ Access.wf x.access ∧ inU x.value ∧ inT x.ok
theorem opens_Item {H : Type} (enc : TypeId × Value → H) (w : World) (base : Nat) (spare : Nat → Bool) (held : Bool) : Opens enc Try.prog w base spare held 56 TyItem Item.wf := fun fuel cs x h => by
  obtain ⟨hlen, n0, y0, g0⟩ := field_trod (i := 0) (off := 0) (m := 1) Try.underlying56 rfl rfl rfl (by kernel_rfl) h
  obtain ⟨x0, r0, w0⟩ := (Opens.i64 Try.underlying3) _ _ _ g0
  have q0 := r0
  obtain ⟨_, n1, y1, g1⟩ := field_trod (i := 1) (off := 1) (m := 5) Try.underlying56 rfl rfl rfl (by kernel_rfl) h
  obtain ⟨x1, r1, w1⟩ := (opens_Access enc w base spare held) _ _ _ g1
  have q1 := r1
  obtain ⟨_, n2, y2, g2⟩ := field_trod (i := 2) (off := 6) (m := 1) Try.underlying56 rfl rfl rfl (by kernel_rfl) h
  obtain ⟨x2, r2, w2⟩ := (Opens.u64 Try.underlying30) _ _ _ g2
  have q2 := r2
  obtain ⟨_, n3, y3, g3⟩ := field_trod (i := 3) (off := 7) (m := 1) Try.underlying56 rfl rfl rfl (by kernel_rfl) h
  obtain ⟨x3, r3, w3⟩ := (Opens.bool Try.underlying4) _ _ _ g3
  have q3 := r3
  have hl : cs.length = 8 := by rw [hlen]; kernel_rfl
  refine ⟨(Item.mk x0 x1 x2 x3), ?_, ⟨w0, w1, w2, w3⟩⟩
  refine list_of_gets (by rw [hl]; rfl) fun i hi => ?_
  simp only [Item.cells, List.length_cons, List.length_nil] at hi
  match i, hi with
  | 0, _ => exact sub_get q0 (i := 0) rfl
  | 1, _ => exact sub_get q1 (i := 0) rfl
  | 2, _ => exact sub_get q1 (i := 1) rfl
  | 3, _ => exact sub_get q1 (i := 2) rfl
  | 4, _ => exact sub_get q1 (i := 3) rfl
  | 5, _ => exact sub_get q1 (i := 4) rfl
  | 6, _ => exact sub_get q2 (i := 0) rfl
  | 7, _ => exact sub_get q3 (i := 0) rfl
end Go.Hx
namespace Go.Proofs.Ythpjaddchdnejaa
open Go.ChangeShapes Go.WideShapes Go.ChangeAt Go.RowKit Go.Hx
theorem Try.own : ownKnob Try.prog.godebug = none := by kernel_rfl
theorem Try.laidOut : laidOutB Try.prog = true := by kernel_rfl
set_option maxRecDepth 100000 in
theorem happensClocks_lifted (os : Os) (started : os.Started) (H : Type) (enc : TypeId × Value → H) :
    ReturnsInHanded {} Try.checked os 8 .any (Rows.happensClocksSpec.pre6 enc Try.prog Try.f8 Rows.happensClocksRow.domain false) (Rows.happensClocksSpec.post enc Try.prog Try.f8 false true false false) := by
  refine returnsInHanded_of_change (C := Try.checked) Try.own started (by kernel_rfl) Try.func8
    (ChangeSpec.witness6 (enc := enc) (C := Try.checked) false ⟨#[], #[.slice none 0 0, .slice none 0 0, .int .u8 0], []⟩ 8 (by kernel_rfl) (by kernel_rfl) (by kernel_rfl) (by kernel_rfl)) ?_
  intro W base args ds gs before hval0 hW hcnd _
  have hval : ∀ (j : Nat) t v, Try.f8.params[j]? = some t → args[j]? = some v → Value.okWide Try.prog W .any base t v := hval0
  have hW' := hW
  obtain ⟨p, q, hA0, hV, hps, hfz, hnd⟩ := hW
  have hA : DataW.TrodAll enc Try.prog W 0 (fun _ => true) true Try.f8.params.toList args.toList ds p := hA0
  rw [Try.params8] at hA hval
  clear hA0 hval0 hps hfz hnd
  obtain ⟨rfl, rfl⟩ := trodVars_none hV
  obtain ⟨al⟩ := args
  dsimp only [] at hA
  obtain ⟨v0, vs0, d0, ds0, p0, q0, rfl, rfl, rfl, t0, h0⟩ := Go.ChangeShapes.trodAll_cons hA
  obtain ⟨v1, vs1, d1, ds1, p1, q1, rfl, rfl, rfl, t1, h1⟩ := Go.ChangeShapes.trodAll_cons h0
  obtain ⟨v2, vs2, d2, ds2, p2, q2, rfl, rfl, rfl, t2, h2⟩ := Go.ChangeShapes.trodAll_cons h1
  obtain ⟨rfl, rfl, rfl⟩ := trodAll_nil h2
  obtain ⟨x0, s0, rfl, sl0, w0⟩ := arg_slice Try.underlying22 (Opens.sl Try.underlying22 (by kernel_rfl) (Opens.u8 Try.underlying5)) (hval 0 22 v0 rfl rfl) t0
  obtain ⟨x1, s1, rfl, sl1, w1⟩ := arg_slice Try.underlying52 (Opens.sl Try.underlying52 (by kernel_rfl) (opens_Item enc W 0 (fun _ => true) true)) (hval 1 52 v1 rfl rfl) t1
  obtain ⟨x2, rfl, e2, z2, w2⟩ := open_int Try.underlying5 (hval 2 5 v2 rfl rfl) t2
  have w2 := wf_inB w2
  have hlaw := law_HappensClocks x0 x1 x2 w0.2 w2
  exact law_done (tb := 4) Try.laidOut (by kernel_rfl) Try.underlying4 (by kernel_rfl) hW' rfl rfl rfl rfl ((c_M_law18_HappensClocks x0 s0 x1 s1 x2 true hlaw (kall W) [] sl0 sl1).mono fun _ _ _ _ h => h.1)

theorem happensClocks_holds : Rows.HappensClocksSaid :=
  OpenClaim.holds_of_wide 8 Try.f8 rfl rfl rfl rfl rfl rfl rfl ⟨rfl, rfl, rfl, rfl, rfl⟩ rfl rfl rfl rfl rfl (by kernel_rfl) Try.func8 (by kernel_rfl)
    (of_decide_eq_true (by kernel_rfl)) (by unfold Func.isWrapper; first | (rw [if_pos (by decide +kernel)]; kernel_rfl) | (rw [if_neg (by decide +kernel)]; exact ⟨rfl, rfl⟩))
    (fun os started H enc _ => happensClocks_lifted os started H enc)
end Go.Proofs.Ythpjaddchdnejaa
