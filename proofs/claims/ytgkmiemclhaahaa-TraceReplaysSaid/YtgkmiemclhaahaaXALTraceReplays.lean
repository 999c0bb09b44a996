/- The memory behind any items. -/
import Derived.Test.YtgkmiemclhaahaaXAMem2
namespace Go.Hx
open Go
set_option linter.unusedVariables false
set_option linter.unusedSimpArgs false
theorem awake6 : M_law6_awake = some true := by decide +kernel
theorem mod6 {x t : Int} (h1 : 1 ≤ t) (h8 : t ≤ 100000) : Ok (M_draw_Mod x t) fun r => 0 ≤ r ∧ r < t := by
  unfold M_draw_Mod
  have hn : remO x t = some (Int.tmod x t) := by unfold remO; rw [if_neg (by omega)]
  rw [hn]
  simp only [Option.bind_some]
  have h3 : Int.tmod x t < t := Int.tmod_lt_of_pos _ (by omega)
  have h4 : -t < Int.tmod x t := by
    have h5 := Int.tmod_lt_of_pos (-x) (show 0 < t by omega)
    rw [Int.neg_tmod] at h5; omega
  refine Ok.ite (fun h => ?_) fun h => Ok.some ⟨by omega, h3⟩
  rw [wI_id (by omega) (by omega)]
  exact Ok.some ⟨by omega, by omega⟩
theorem memory_ok {c : Draw_Codes} (hc : Cd c) : Ok (M_draw_Codes_Memory c) fun r => MOk r.1 ∧ AtOk c.list r.2.1 := by
  obtain ⟨hl, ha⟩ := hc
  unfold M_draw_Codes_Memory
  refine Ok.bd2 (Next_ok (c := c) ⟨hl, ha⟩ (by omega)) fun t a0 ⟨b0, b1, ha0, _⟩ => ?_
  simp only at ha0
  refine lp4_ok (fun i _ _ _ => (7 - i).toNat) (fun i a v ws => 0 ≤ i ∧ i ≤ 6 ∧ AtOk c.list a ∧ (ws.length : Int) ≤ i) (fun _ _ _ _ => _) ?_ BIG 0 _ _ _ ⟨by omega, by omega, ha0, by simp⟩ (lt_BIG (by omega))
  intro i a v ws k ⟨h0, h1, ha, hw⟩ hk
  unfold M_draw_Codes_Memory_L1
  refine Ok.bd2 (Next_ok (c := Draw_Codes.mk c.list a v) ⟨hl, ha⟩ (by omega)) fun n1 a1 ⟨c0, c1, ha1, _⟩ => ?_
  simp only at c0 c1 ha1
  rw [wI_id (x := 1 + n1) (by omega) (by omega)]
  refine Ok.ite (fun h2 => ?_) fun h2 => ?_
  · refine Ok.bd2 (Next_ok (c := Draw_Codes.mk c.list a1 _) ⟨hl, ha1⟩ (by omega)) fun n2 a2 ⟨d0, d1, ha2, _⟩ => ?_
    simp only at ha2
    rw [app_eq (by simp; omega)]
    simp only [Option.bind_some]
    unfold M_draw_Codes_Memory_J2
    rw [wI_id (x := i + 1) (by omega) (by omega)]
    exact hk _ _ _ _ ⟨by omega, by omega, ha2, by simp; omega⟩ (by omega)
  · unfold M_draw_Codes_Memory_J1
    refine lp4_ok (fun i _ _ _ => (4 - i).toNat) (fun i a v ls => 0 ≤ i ∧ i ≤ 3 ∧ AtOk c.list a ∧ (ls.length : Int) ≤ i ∧ ∀ x ∈ ls, x.length ≤ 1000) (fun _ _ _ _ => _) ?_ BIG 0 _ _ _ ⟨by omega, by omega, ha1, by simp, fun x hx => by simp at hx⟩ (lt_BIG (by omega))
    intro j a v ls q ⟨f0, f1, fa, fl, fx⟩ hq
    unfold M_draw_Codes_Memory_L2
    refine Ok.bd2 (Next_ok (c := Draw_Codes.mk c.list a v) ⟨hl, fa⟩ (by omega)) fun n1 a1 ⟨c0, c1, ha1, _⟩ => ?_
    simp only at c0 c1 ha1
    refine Ok.ite (fun h3 => ?_) fun h3 => ?_
    · refine lp4_ok (fun _ i _ _ => (5 - i).toNat) (fun l i a v => 0 ≤ i ∧ i ≤ 4 ∧ AtOk c.list a ∧ (l.length : Int) ≤ i) (fun _ _ _ _ => _) ?_ BIG _ 0 _ _ ⟨by omega, by omega, ha1, by simp⟩ (lt_BIG (by omega))
      intro l p a v r ⟨g0, g1, ga, gl⟩ hr
      unfold M_draw_Codes_Memory_L3
      refine Ok.bd2 (Next_ok (c := Draw_Codes.mk c.list a v) ⟨hl, ga⟩ (by omega)) fun n3 a3 ⟨e0, e1, ha3, _⟩ => ?_
      simp only at e0 e1 ha3
      refine Ok.ite (fun h4 => ?_) fun h4 => ?_
      · refine Ok.bd2 (Next_ok (c := Draw_Codes.mk c.list a3 _) ⟨hl, ha3⟩ (by omega)) fun n4 a4 ⟨_, _, ha4, _⟩ => ?_
        simp only at ha4
        rw [app_eq (by simp; omega)]
        simp only [Option.bind_some]
        rw [wI_id (x := p + 1) (by omega) (by omega)]
        exact hr _ _ _ _ ⟨by omega, by omega, ha4, by simp; omega⟩ (by omega)
      · unfold M_draw_Codes_Memory_J5
        rw [app_eq (by simp; omega)]
        simp only [Option.bind_some]
        unfold M_draw_Codes_Memory_J4
        rw [wI_id (x := j + 1) (by omega) (by omega)]
        refine hq _ _ _ _ ⟨by omega, by omega, ha3, by simp; omega, fun x hx => ?_⟩ (by omega)
        rcases List.mem_append.1 hx with hx | hx
        · exact fx x hx
        · simp at hx; subst hx; omega
    · exact Ok.some ⟨⟨by simp only; omega, by simp only; omega, fx⟩, ha1⟩
theorem access_ok {c : Draw_Codes} {m : Memory} (hc : Cd c) (hm : MOk m) : Ok (M_draw_Codes_Access c m) fun r => AtOk c.list r.2.1 := by
  obtain ⟨hl, ha⟩ := hc
  have hw := hm.w
  have hml := hm.l
  unfold M_draw_Codes_Access
  rw [wI_id (x := (m.words.length : Int) + 2) (by omega) (by omega)]
  refine Ok.bd2 (Next_ok (c := c) ⟨hl, ha⟩ (by omega)) fun n1 a1 ⟨_, _, ha1, _⟩ => ?_
  refine Ok.bd2 (Next_ok (c := Draw_Codes.mk c.list a1 _) ⟨hl, ha1⟩ (by omega)) fun n2 a2 ⟨_, _, ha2, _⟩ => ?_
  refine Ok.bd2 (Next_ok (c := Draw_Codes.mk c.list a2 _) ⟨hl, ha2⟩ (by omega)) fun n3 a3 ⟨_, _, ha3, _⟩ => ?_
  refine Ok.bd2 (Next_ok (c := Draw_Codes.mk c.list a3 _) ⟨hl, ha3⟩ (by omega)) fun n4 a4 ⟨_, _, ha4, _⟩ => ?_
  simp only at ha4
  have hJ2 : ∀ x0 x1 x2 x3 x4 a v ad, AtOk c.list a → Ok (M_draw_Codes_Access_J2 c x0 x1 x2 x3 x4 a v ad) fun r => AtOk c.list r.2.1 := by
    intro x0 x1 x2 x3 x4 a v ad hA
    unfold M_draw_Codes_Access_J2
    refine Ok.ite (fun h => ?_) fun h => Ok.some hA
    refine Ok.bd2 (Next_ok (c := Draw_Codes.mk c.list a v) ⟨hl, hA⟩ (by omega)) fun n5 a5 ⟨_, _, ha5, _⟩ => Ok.some ha5
  unfold M_draw_Codes_Access_J1
  rw [wI_id (x := (m.lists.length : Int) + 2) (by omega) (by omega)]
  refine Ok.ite (fun h => ?_) fun h => hJ2 _ _ _ _ _ _ _ _ ha4
  refine Ok.bd2 (Next_ok (c := Draw_Codes.mk c.list a4 _) ⟨hl, ha4⟩ (by omega)) fun n5 a5 ⟨_, _, ha5, _⟩ => hJ2 _ _ _ _ _ _ _ _ ha5
theorem law_TraceReplays (codes : List Int) (at_ cut by_ : Int) (hc : ∀ b ∈ codes, 0 ≤ b ∧ b < 256) (hb : 0 ≤ by_ ∧ by_ < 256) : M_law6_TraceReplays codes at_ cut by_ = some true := by
  refine Ok.eq ?_
  unfold M_law6_TraceReplays
  rw [awake6]
  simp only [Option.bind_some, if_true]
  refine Ok.bind (New_ok hc (by omega) (by omega)) fun c ⟨⟨hl, ha⟩, _⟩ => ?_
  refine Ok.bd3 (memory_ok ⟨hl, ha⟩) fun m0 a0 v0 ⟨hm0, ha0⟩ => ?_
  simp only at hm0 ha0
  refine lp7_ok (fun _ i _ _ _ _ _ => (12 - i).toNat) (fun l i ws ls t a v => 0 ≤ i ∧ i ≤ 12 ∧ (l.length : Int) ≤ i ∧ AtOk c.list a ∧ MOk (Memory.mk ws ls t) ∧ replayM m0 l = (Memory.mk ws ls t, true)) (fun _ _ _ _ _ _ _ => _) ?_ BIG _ 0 _ _ _ _ _ ⟨by omega, by omega, by simp, ha0, hm0, rfl⟩ (lt_BIG (by omega))
  intro l i ws ls t a v k ⟨h0, h1, h2, h3, h4, h5⟩ hk
  unfold M_law6_TraceReplays_L1
  refine Ok.ite (fun h6 => ?_) fun h6 => ?_
  · refine Ok.bd3 (access_ok (c := Draw_Codes.mk c.list a v) ⟨hl, h3⟩ h4) fun x a1 v1 ha1 => ?_
    simp only at ha1
    rw [apply_ref h4]
    generalize hr : applyM (Memory.mk ws ls t) x = r
    have hro := applyM_ok (a := x) h4
    rw [hr] at hro
    obtain ⟨r1, r2, r3⟩ := r
    simp only [bd3_some]
    simp only at hro
    rw [wI_id (x := i + 1) (by omega) (by omega)]
    refine Ok.ite (fun h7 => ?_) fun h7 => hk _ _ _ _ _ _ _ ⟨by omega, by omega, by omega, ha1, h4, h5⟩ (by omega)
    refine Ok.bd2 (Next_ok (c := Draw_Codes.mk c.list a1 v1) ⟨hl, ha1⟩ (by omega)) fun th a2 ⟨_, _, ha2, _⟩ => ?_
    simp only at ha2
    unfold M_ref4_Item
    simp only [Option.bind_some]
    rw [app_eq (by simp; omega)]
    simp only [Option.bind_some]
    refine hk _ _ _ _ _ _ _ ⟨by omega, by omega, by simp; omega, ha2, hro, ?_⟩ (by omega)
    rw [replay_app _ _ _ _ h5, replayM_cons]
    simp only [hr]
    rw [if_pos (by simp [h7])]; rfl
  · have hll : l.length ≤ 1000 := by omega
    have hJ6 : ∀ x : List Item, x.length ≤ 1000 → Ok (M_law6_TraceReplays_J6 m0 x) fun r => r = true := by
      intro x hx
      unfold M_law6_TraceReplays_J6
      rw [replay_mem_gen hx hm0, replay_ref hx hm0]
      have hq : MOk (replayM m0 x).1 := by
        have key : ∀ (x : List Item) (m : Memory), MOk m → MOk (replayM m x).1 := by
          intro x
          induction x with
          | nil => exact fun m h => h
          | cons y x ih =>
            intro m h
            rw [replayM_cons]
            split
            · exact ih _ (applyM_ok h)
            · exact ⟨by simp, by simp, fun x hx => by simp at hx⟩
        exact key x m0 hm0
      generalize hqq : replayM m0 x = qq at hq ⊢
      obtain ⟨q1, q2⟩ := qq
      simp only at hq
      simp only [bd2_some, beq_self_eq_true, if_true]
      rw [same_mem hq]
      exact Ok.some rfl
    unfold M_law6_TraceReplays_J1
    rw [replay_mem_gen hll hm0, h5]
    simp only [bd2_some, if_true]
    rw [same_mem h4]
    simp only [Option.bind_some, Bool.not_true]
    unfold M_law6_TraceReplays_J2
    rw [if_neg (by decide), wI_id (x := (l.length : Int) + 1) (by omega) (by omega)]
    refine Ok.bind (mod6 (by omega) (by omega)) fun n ⟨n0, n1⟩ => ?_
    have e0 : List.drop (0 : Int).toNat (l.take n.toNat) = l.take n.toNat := by simp
    rw [cutI_eq (by omega) n0 (by omega), e0]
    simp only [Option.bind_some]
    obtain ⟨q, hq1, hq2⟩ := replay_cut (l.take n.toNat) (l.drop n.toNat) m0 _ (by rw [List.take_append_drop]; exact h5)
    have hqm : MOk q := by
      have key : ∀ (x : List Item) (m : Memory), MOk m → MOk (replayM m x).1 := by
        intro x
        induction x with
        | nil => exact fun m h => h
        | cons y x ih =>
          intro m h
          rw [replayM_cons]
          split
          · exact ih _ (applyM_ok h)
          · exact ⟨by simp, by simp, fun x hx => by simp at hx⟩
      have := key (l.take n.toNat) m0 hm0
      rw [hq1] at this; exact this
    rw [replay_mem_gen (by simp; omega) hm0, hq1]
    simp only [bd2_some]
    unfold M_law6_TraceReplays_J3
    rw [cutI_eq n0 (by omega) (by omega)]
    simp only [Option.bind_some]
    have e2 : (l.take ((l.length : Int)).toNat).drop n.toNat = l.drop n.toNat := by rw [List.take_of_length_le (by omega)]
    rw [e2, replay_mem_gen (by simp; omega) hqm]
    have e3 : replayM (Memory.mk q.words q.lists q.tick) (l.drop n.toNat) = (Memory.mk ws ls t, true) := hq2
    rw [show replayM { words := q.words, lists := q.lists, tick := q.tick } (l.drop n.toNat) = (Memory.mk ws ls t, true) from hq2]
    simp only [bd2_some]
    unfold M_law6_TraceReplays_J4
    rw [if_pos rfl, if_pos rfl, same_mem h4]
    simp only [Option.bind_some, Bool.not_true]
    unfold M_law6_TraceReplays_J5
    rw [if_neg (by decide)]
    refine Ok.ite (fun h7 => Ok.some rfl) fun h7 => ?_
    refine Ok.bind (mod6 (by omega) (by omega)) fun p ⟨p0, p1⟩ => ?_
    have ea : app [] l = some l := by rw [app_eq (by simp; omega), List.nil_append]
    rw [ea]
    simp only [Option.bind_some]
    obtain ⟨y, hy⟩ : ∃ x, getI l p = some x := ⟨_, getI_eq p0 p1⟩
    rw [hy]
    simp only [Option.bind_some]
    refine Ok.ite (fun h8 => hJ6 _ (by rw [length_setI]; exact hll)) fun h8 => Ok.ite (fun h8 => hJ6 _ (by rw [length_setI]; exact hll)) fun h8 => Ok.ite (fun h8 => hJ6 _ (by rw [length_setI]; exact hll)) fun h8 => Ok.ite (fun h8 => hJ6 _ (by rw [length_setI]; exact hll)) fun h8 => hJ6 _ hll
end Go.Hx
