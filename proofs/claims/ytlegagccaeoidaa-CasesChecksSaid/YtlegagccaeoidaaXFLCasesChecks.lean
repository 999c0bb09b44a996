/- Which operations are valid. -/
import Derived.Test.YtlegagccaeoidaaXFCases
namespace Go.Hx
open Go
set_option linter.unusedVariables false
set_option linter.unusedSimpArgs false
/-- An operation that is not too large. -/
def Sz (n : Nat) (o : Op) : Prop := o.cases.length ≤ n ∧ o.draws.length ≤ n
theorem number_ok {c : Draw_Codes} (hc : Cd c) : Ok (M_draw_Codes_Number c) fun r => AtOk c.list r.2 := by
  unfold M_draw_Codes_Number
  have e : ([0, 1, (-1), 2, 5, 6, 7, 8, 9, 16, 17, 1099511627776, 1099511627777, (-1099511627777), 100, 3] : List Int).length = 16 := rfl
  rw [e]
  refine Ok.bd2 (Next_ok hc (by omega)) fun n a ⟨b0, b1, ha, _⟩ => ?_
  simp only at b0 b1 ha
  refine Ok.bind (Ok.getI (P := fun _ => True) b0 (by rw [e]; omega) fun _ _ _ => trivial) fun x _ => Ok.some ha
theorem spoil_ok {c : Draw_Codes} {o : Op} {n : Nat} (hc : Cd c) (ho : Sz n o) (hn : n ≤ 100) : Ok (M_draw_Codes_Spoil c o) fun r => Sz (n + 20) r.1 ∧ AtOk c.list r.2.1 := by
  obtain ⟨hl, ha⟩ := hc
  obtain ⟨h1, h2⟩ := ho
  have hJ : ∀ a v k m ch vl dl cs ds, AtOk c.list a → cs.length ≤ n + 20 → ds.length ≤ n + 20 → Ok (M_draw_Codes_Spoil_J1 c a v k m ch vl dl cs ds) fun r => Sz (n + 20) r.1 ∧ AtOk c.list r.2.1 := fun a v k m ch vl dl cs ds hA h3 h4 => Ok.some ⟨⟨h3, h4⟩, hA⟩
  have e1 : app [] o.cases = some o.cases := by rw [app_eq (by simp; omega), List.nil_append]
  have e2 : app [] o.draws = some o.draws := by rw [app_eq (by simp; omega), List.nil_append]
  unfold M_draw_Codes_Spoil
  refine Ok.bindEq e1 ?_
  refine Ok.bindEq e2 ?_
  refine Ok.bd2 (Next_ok (c := c) ⟨hl, ha⟩ (by omega)) fun q a1 ⟨_, _, ha1, _⟩ => ?_
  simp only at ha1
  refine Ok.ite (fun _ => ?_) fun _ => Ok.ite (fun _ => ?_) fun _ => Ok.ite (fun _ => ?_) fun _ => Ok.ite (fun _ => ?_) fun _ => Ok.ite (fun _ => ?_) fun _ => Ok.ite (fun _ => ?_) fun _ => Ok.ite (fun _ => ?_) fun _ => Ok.ite (fun _ => ?_) fun _ => Ok.ite (fun _ => ?_) fun _ => hJ _ _ _ _ _ _ _ _ _ ha1 (by omega) (by omega)
  · refine Ok.bd2 (Next_ok (c := Draw_Codes.mk c.list a1 _) ⟨hl, ha1⟩ (by omega)) fun n2 a2 ⟨_, _, ha2, _⟩ => hJ _ _ _ _ _ _ _ _ _ ha2 (by omega) (by omega)
  · refine Ok.bd2 (Next_ok (c := Draw_Codes.mk c.list a1 _) ⟨hl, ha1⟩ (by omega)) fun n2 a2 ⟨_, _, ha2, _⟩ => hJ _ _ _ _ _ _ _ _ _ ha2 (by omega) (by omega)
  · refine Ok.bd2 (number_ok (c := Draw_Codes.mk c.list a1 _) ⟨hl, ha1⟩) fun n2 a2 ha2 => hJ _ _ _ _ _ _ _ _ _ ha2 (by omega) (by omega)
  · refine Ok.bd2 (number_ok (c := Draw_Codes.mk c.list a1 _) ⟨hl, ha1⟩) fun n2 a2 ha2 => hJ _ _ _ _ _ _ _ _ _ ha2 (by omega) (by omega)
  · refine Ok.bd2 (Next_ok (c := Draw_Codes.mk c.list a1 _) ⟨hl, ha1⟩ (by omega)) fun n2 a2 ⟨_, _, ha2, _⟩ => hJ _ _ _ _ _ _ _ _ _ ha2 (by omega) (by omega)
  · refine Ok.bd2 (Next_ok (c := Draw_Codes.mk c.list a1 _) ⟨hl, ha1⟩ (by omega)) fun n2 a2 ⟨_, _, ha2, _⟩ => ?_
    refine Ok.bd2 (number_ok (c := Draw_Codes.mk c.list a2 _) ⟨hl, ha2⟩) fun n3 a3 ha3 => ?_
    refine Ok.bd2 (Next_ok (c := Draw_Codes.mk c.list a3 _) ⟨hl, ha3⟩ (by omega)) fun n4 a4 ⟨_, _, ha4, _⟩ => ?_
    refine Ok.bindEq (app_eq (by simp; omega)) ?_
    exact hJ _ _ _ _ _ _ _ _ _ ha4 (by simp; omega) (by omega)
  · refine Ok.bd2 (Next_ok (c := Draw_Codes.mk c.list a1 _) ⟨hl, ha1⟩ (by omega)) fun n2 a2 ⟨_, _, ha2, _⟩ => ?_
    refine Ok.bindEq (app_eq (by simp; omega)) ?_
    exact hJ _ _ _ _ _ _ _ _ _ ha2 (by omega) (by simp; omega)
  · refine Ok.ite (fun h5 => ?_) fun h5 => hJ _ _ _ _ _ _ _ _ _ ha1 (by omega) (by omega)
    refine Ok.bd2 (Next_ok (c := Draw_Codes.mk c.list a1 _) ⟨hl, ha1⟩ (by omega)) fun n2 a2 ⟨b0, b1, ha2, _⟩ => ?_
    simp only at b0 b1
    refine Ok.bd2 (number_ok (c := Draw_Codes.mk c.list a2 _) ⟨hl, ha2⟩) fun n3 a3 ha3 => ?_
    refine Ok.bindEq (getI_eq b0 b1) ?_
    exact hJ _ _ _ _ _ _ _ _ _ ha3 (by omega) (by rw [length_setI]; omega)
  · refine lp4_ok (fun _ _ cs _ => 200 - cs.length) (fun a v cs ds => AtOk c.list a ∧ cs.length ≤ n + 7 ∧ ds.length + cs.length ≤ o.draws.length + cs.length + (cs.length - o.cases.length) ∧ o.cases.length ≤ cs.length ∧ (cs.length ≤ o.cases.length ∨ cs.length ≤ 7)) (fun _ _ _ _ => _) ?_ BIG _ _ _ _ ⟨ha1, by omega, by omega, by omega, .inl (by omega)⟩ (lt_BIG (by omega))
    intro a v cs ds k ⟨g1, g2, g3, g4, g5⟩ hk
    unfold M_draw_Codes_Spoil_L1
    refine Ok.bd2 (Next_ok (c := Draw_Codes.mk c.list a v) ⟨hl, g1⟩ (by omega)) fun n2 a2 ⟨b0, b1, ha2, _⟩ => ?_
    simp only at b0 b1 ha2
    rw [wI_id (by omega) (by omega)]
    refine Ok.ite (fun h6 => ?_) fun h6 => hJ _ _ _ _ _ _ _ _ _ ha2 (by omega) (by omega)
    refine Ok.bindEq (app_eq (by simp; omega)) ?_
    refine Ok.bd2 (Next_ok (c := Draw_Codes.mk c.list a2 _) ⟨hl, ha2⟩ (by simp; omega)) fun n3 a3 ⟨_, _, ha3, _⟩ => ?_
    simp only at ha3
    refine Ok.bindEq (app_eq (by simp; omega)) ?_
    exact hk _ _ _ _ ⟨ha3, by simp; omega, by simp; omega, by simp; omega, .inr (by simp; omega)⟩ (by simp; omega)
theorem opok_check {o : Op} (h : OpOk o) : checkS o = 0 := by
  have hk := h.kind
  have hm := h.mode
  have hl := h.lens
  have hch : ∀ n, ChOk n → nmS n = true := fun n hn => by obtain ⟨h0, h1⟩ := hn; simp [nmS]; omega
  have hR : RngP o := ⟨hch _ h.ch, h.dead.1, by have := h.dead.2; omega, by
    rw [List.any_eq_false]
    intro x hx
    rw [hch _ (h.cases x hx).ch]; simp⟩
  have hS : ShapeP o := ⟨h.plain, h.timed, fun h4 => by
    obtain ⟨e1, e2⟩ := h.nosel h4
    refine ⟨by rw [e1]; rfl, by rw [e2]; rfl, ?_⟩
    by_cases h1 : o.kind = 1
    · exact .inl h1
    · exact .inr (h.val0 h1), fun h4 => ⟨(h.sel h4).1, (h.sel h4).2, hl.1, fun x hx hs => (h.cases x hx).v0 hs⟩⟩
  unfold checkS ck0 ck1 ck2 ck3
  rw [if_neg (fun h : ¬ (1 ≤ o.kind ∧ o.kind ≤ 6 ∧ 0 ≤ o.mode ∧ o.mode ≤ 2) => h ⟨hk.1, hk.2, hm.1, hm.2⟩), if_neg (fun h : ¬ RngP o => h hR), if_neg (by omega), if_neg (fun h' : ¬ DrP o.draws => h' h.draws), if_pos hS]
theorem law_CasesChecks (raw : Op) (codes : List Int) (hc : ∀ b ∈ codes, 0 ≤ b ∧ b < 256) : M_law3_CasesChecks raw codes = some true := by
  refine Ok.eq ?_
  unfold M_law3_CasesChecks
  refine Ok.bindEq awake3 ?_
  rw [if_pos rfl]
  unfold M_law3_big
  have hbig : ∀ b : Bool, (b = false → Sz 20 raw) → Ok ((some b).bind fun x170 => (if x170 = true then some true else (M_draw_New codes 60).bind fun x175 => bd3 (M_draw_Codes_Config x175) fun x181 x182 x183 => bd3 (M_draw_Codes_Op (Draw_Codes.mk x175.list x182 x183) x181) fun x192 x193 x194 => (M_cases_Check x192).bind fun x209 => (if x209 = 0 then bd3 (M_draw_Codes_Spoil (Draw_Codes.mk x175.list x193 x194) x192) fun x214 x215 x216 => bd3 (M_draw_Codes_Spoil (Draw_Codes.mk x175.list x215 x216) x214) fun x232 x233 x234 => lp1 (M_law3_CasesChecks_L1 raw x214 x232) BIG 0 else some false))) fun r => r = true := by
    intro b hb
    refine Ok.bindEq rfl ?_
    refine Ok.ite (fun h => Ok.some rfl) fun h => ?_
    have hraw := hb (by simpa using h)
    refine Ok.bind (New_ok hc (by omega) (by omega)) fun c ⟨⟨hl, ha⟩, _⟩ => ?_
    refine Ok.bd3 (Config_ok ⟨hl, ha⟩) fun x a0 v0 ⟨hx, ha0⟩ => ?_
    simp only at hx ha0
    have hn3 := hx.n3
    refine Ok.bd3 (Op_ok (c := Draw_Codes.mk c.list a0 v0) ⟨hl, ha0⟩ (by omega)) fun o a1 v1 ⟨ho, ha1⟩ => ?_
    simp only at ho ha1
    have hlens := ho.lens
    refine Ok.bindEq (check_cases (by omega) (by omega)) ?_
    rw [if_pos (opok_check ho)]
    refine Ok.bd3 (spoil_ok (c := Draw_Codes.mk c.list a1 v1) (n := 20) ⟨hl, ha1⟩ ⟨by omega, by omega⟩ (by omega)) fun y a2 v2 ⟨hy, ha2⟩ => ?_
    simp only at hy ha2
    refine Ok.bd3 (spoil_ok (c := Draw_Codes.mk c.list a2 v2) ⟨hl, ha2⟩ hy (by omega)) fun z a3 v3 ⟨hz, _⟩ => ?_
    simp only at hz
    refine lp1_ok (fun i => ((raw.cases.length : Int) + 3 - i).toNat) (fun i => 0 ≤ i ∧ i ≤ 3) (fun _ => _) ?_ BIG 0 ⟨by omega, by omega⟩ (lt_BIG (by have := hraw.1; omega))
    intro i k ⟨i0, i1⟩ hk
    unfold M_law3_CasesChecks_L1
    refine Ok.ite (fun h5 => ?_) fun h5 => Ok.some rfl
    simp at h5
    refine Ok.bind (Q := fun q => Sz 60 q) ?_ fun q hq => ?_
    · refine Ok.getI i0 (by simp; omega) fun q _ hq => ?_
      simp at hq
      rcases hq with rfl | rfl | rfl
      · exact ⟨by have := hraw.1; omega, by have := hraw.2; omega⟩
      · exact ⟨by have := hy.1; omega, by have := hy.2; omega⟩
      · exact ⟨by have := hz.1; omega, by have := hz.2; omega⟩
    refine Ok.bindEq (check_cases (by have := hq.1; omega) (by have := hq.2; omega)) ?_
    refine Ok.bindEq (check_ref (by have := hq.1; omega) (by have := hq.2; omega)) ?_
    rw [if_pos rfl, wI_id (by omega) (by omega)]
    exact hk _ (by omega) (by omega)
  by_cases h1 : (raw.cases.length : Int) > 20
  · rw [if_pos h1]; exact hbig true (by simp)
  · rw [if_neg h1]; exact hbig _ fun h => ⟨by omega, by rw [dcd_ff] at h; omega⟩
end Go.Hx
