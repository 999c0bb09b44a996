/- Values are received in the order in which they were sent, and after a close no send succeeds. -/
import Derived.Test.YtgpoanmjkggijaaXCLModelReady
namespace Go.Hx
open Go
set_option linter.unusedVariables false
set_option linter.unusedSimpArgs false
/-- What is known of a channel: what was sent and received, and whether it is shut. -/
structure ChI (caps : List Int) (l : List Chan) (sent got : List (List Int)) (shut : List Bool) (i t : Int) : Prop where
  ex : ∃ c s g, getI l t = some c ∧ getI sent t = some s ∧ getI got t = some g ∧ getI shut t = some c.closed ∧ getI caps t = some c.capacity ∧ c.buffer = s.drop g.length ∧ g.length ≤ s.length ∧ (s.length : Int) ≤ i ∧ c.capacity ≤ 3
structure OrdI (caps : List Int) (l : List Chan) (sent got : List (List Int)) (shut : List Bool) (i : Int) : Prop where
  nl : l.length = caps.length
  ns : sent.length = caps.length
  ng : got.length = caps.length
  nb : shut.length = caps.length
  each : ∀ t, 0 ≤ t → t < (caps.length : Int) → ChI caps l sent got shut i t
theorem OrdI.mono {caps : List Int} {l : List Chan} {sent got : List (List Int)} {shut : List Bool} {i : Int} (h : OrdI caps l sent got shut i) : OrdI caps l sent got shut (i + 1) :=
  ⟨h.nl, h.ns, h.ng, h.nb, fun t h0 h1 => by
    obtain ⟨c, s, g, e1, e2, e3, e4, e5, e6, e7, e8, e9⟩ := (h.each t h0 h1).ex
    exact ⟨c, s, g, e1, e2, e3, e4, e5, e6, e7, by omega, e9⟩⟩
theorem OrdI.chans {caps : List Int} {l : List Chan} {sent got : List (List Int)} {shut : List Bool} {i : Int} (h : OrdI caps l sent got shut i) (hc : caps.length ≤ 3) (hi : i ≤ 25) : ChansOk l := by
  have key : ∀ c ∈ l, c.buffer.length ≤ 1000 ∧ c.capacity ≤ 1000 := fun c hm => by
    obtain ⟨j, hj⟩ := List.mem_iff_getElem?.1 hm
    have hlt := (List.getElem?_eq_some_iff.1 hj).1
    obtain ⟨c', s, g, e1, e2, e3, e4, e5, e6, e7, e8, e9⟩ := (h.each (j : Int) (by omega) (by rw [← h.nl]; omega)).ex
    rw [getI_nat, hj] at e1
    cases e1
    rw [e6]
    simp; omega
  exact ⟨by rw [h.nl]; omega, fun c hm => (key c hm).1, fun c hm => (key c hm).2⟩
/-- One channel has turned. -/
theorem OrdI.turn {caps : List Int} {l : List Chan} {sent got : List (List Int)} {shut : List Bool} {i t : Int} (h : OrdI caps l sent got shut i) (h0 : 0 ≤ t) (h1 : t < (caps.length : Int)) {c : Chan} {s g : List Int} {l' : List Chan} {sent' got' : List (List Int)} {shut' : List Bool}
    (hl : l' = setI l t c) (hs : sent' = setI sent t s) (hg : got' = setI got t g) (hb : shut' = setI shut t c.closed) (hcap : getI caps t = some c.capacity) (hbuf : c.buffer = s.drop g.length) (hgl : g.length ≤ s.length) (hsl : (s.length : Int) ≤ i + 1) (h3 : c.capacity ≤ 3) : OrdI caps l' sent' got' shut' (i + 1) := by
  subst hl hs hg hb
  refine ⟨by rw [length_setI]; exact h.nl, by rw [length_setI]; exact h.ns, by rw [length_setI]; exact h.ng, by rw [length_setI]; exact h.nb, fun q q0 q1 => ?_⟩
  have n1 := h.nl
  have n2 := h.ns
  have n3 := h.ng
  have n4 := h.nb
  by_cases e : q = t
  · subst e
    exact ⟨c, s, g, by rw [getI_setI' h0 (by omega), if_pos rfl], by rw [getI_setI' h0 (by omega), if_pos rfl], by rw [getI_setI' h0 (by omega), if_pos rfl], by rw [getI_setI' h0 (by omega), if_pos rfl], hcap, hbuf, hgl, hsl, h3⟩
  · obtain ⟨c', s', g', e1, e2, e3, e4, e5, e6, e7, e8, e9⟩ := (h.each q q0 q1).ex
    exact ⟨c', s', g', by rw [getI_setI' h0 (by omega), if_neg e]; exact e1, by rw [getI_setI' h0 (by omega), if_neg e]; exact e2, by rw [getI_setI' h0 (by omega), if_neg e]; exact e3, by rw [getI_setI' h0 (by omega), if_neg e]; exact e4, e5, e6, e7, by omega, e9⟩
theorem setI_self {α : Type} {l : List α} {t : Int} {x : α} (h : getI l t = some x) : setI l t x = l := by
  obtain ⟨h0, h1, _⟩ := getI_ix h
  unfold setI; exact list_set_same h1
theorem law_ModelOrder (codes : List Int) (hc : ∀ b ∈ codes, 0 ≤ b ∧ b < 256) : M_law14_ModelOrder codes = some true := by
  refine Ok.eq ?_
  unfold M_law14_ModelOrder
  rw [awake14]
  simp only [Option.bind_some, if_true]
  refine Ok.bind (New_ok hc (by omega) (by omega)) fun c ⟨⟨hl, ha⟩, _⟩ => ?_
  refine Ok.bd3 (Config_ok ⟨hl, ha⟩) fun x a0 v0 ⟨hx, ha0⟩ => ?_
  simp only at hx ha0
  have hn1 := hx.n1
  have hn3 := hx.n3
  rw [model_New_list (by omega)]
  simp only [Option.bind_some]
  generalize hl0 : (x.capacities.map fun k => Chan.mk k [] false) = l0
  have hlen : l0.length = x.capacities.length := by rw [← hl0]; simp
  rw [mkl_eq (by omega) (by omega)]
  simp only [Option.bind_some]
  unfold M_law14_ModelOrder_J1
  rw [mkl_eq (by omega) (by omega)]
  simp only [Option.bind_some]
  have hinit : OrdI x.capacities l0 (List.replicate (l0.length : Int).toNat []) (List.replicate (l0.length : Int).toNat []) (List.replicate (l0.length : Int).toNat false) 0 := by
    refine ⟨hlen, by simp [hlen], by simp [hlen], by simp [hlen], fun t h0 h1 => ?_⟩
    obtain ⟨k, hk⟩ : ∃ k, getI x.capacities t = some k := ⟨_, getI_eq h0 h1⟩
    have hrep : ∀ {α : Type} (z : α), getI (List.replicate (l0.length : Int).toNat z) t = some z := fun z => by
      unfold getI; rw [if_pos h0, List.getElem?_replicate, if_pos (by omega)]
    refine ⟨Chan.mk k [] false, [], [], ?_, hrep _, hrep _, hrep _, hk, by simp, by simp, by simp, (hx.cap k (getI_mem hk)).2⟩
    rw [← hl0]
    unfold getI at hk ⊢
    rw [if_pos h0] at hk ⊢
    rw [List.getElem?_map, hk]; rfl
  refine lp7_ok (fun _ _ _ _ i _ _ => (25 - i).toNat) (fun l s g b i a v => 0 ≤ i ∧ i ≤ 25 ∧ AtOk c.list a ∧ OrdI x.capacities l s g b i) (fun _ _ _ _ _ _ _ => _) ?_ BIG _ _ _ _ 0 _ _ ⟨by omega, by omega, ha0, hinit⟩ (lt_BIG (by omega))
  intro l sent got shut i a v k ⟨h0, h1, ha, hI⟩ hk
  unfold M_law14_ModelOrder_L1
  refine Ok.ite (fun h => ?_) fun _ => Ok.some rfl
  have hnl := hI.nl
  refine Ok.bd2 (Next_ok (c := Draw_Codes.mk c.list a v) ⟨hl, ha⟩ (by omega)) fun n a1 ⟨n0, n1, ha1, _⟩ => ?_
  simp only at n0 n1 ha1
  refine Ok.bd2 Value_ok fun w v1 _ => ?_
  refine Ok.bd2 (Next_ok (c := Draw_Codes.mk c.list a1 v1) ⟨hl, ha1⟩ (by omega)) fun z a2 ⟨_, _, ha2, _⟩ => ?_
  simp only at ha2
  have hn : n < (x.capacities.length : Int) := by omega
  obtain ⟨ch, s, g, e1, e2, e3, e4, e5, e6, e7, e8, e9⟩ := (hI.each n n0 hn).ex
  have hlk := hI.chans hn3 (by omega)
  have hbl : ch.buffer.length = s.length - g.length := by rw [e6]; simp
  have next : ∀ l' s' g' b' v', OrdI x.capacities l' s' g' b' (i + 1) → Ok (k l' s' g' b' (wI (i + 1)) a2 v') (fun r => r = true) := fun l' s' g' b' v' hI' => by
    rw [wI_id (by omega) (by omega)]
    exact hk _ _ _ _ _ _ _ ⟨by omega, by omega, ha2, hI'⟩ (by omega)
  have hopm : ∀ kd val, kd ≠ 4 → OpM (Op.mk kd 0 n val 0 [] []) := fun kd val h4 => ⟨fun _ _ => rfl, fun _ => rfl, by simp⟩
  -- send
  have hsend : Ok (M_law14_ModelOrder_J3 l sent got shut i n w x c a1 a v v1 k 1 0 false 1 w a2) (fun r => r = true) := by
    unfold M_law14_ModelOrder_J3
    rw [model_Apply_eq hlk (hopm 1 w (by omega)), e2, e3, e5]
    simp only [bd2]
    simp only [Option.bind_some, if_true]
    have hap : applyS l (Op.mk 1 0 n w 0 [] []) (Result.mk 1 (-1) 0 false 0) = if (!ch.closed && decide ((ch.buffer.length : Int) < ch.capacity)) = true then (setI l n (Chan.mk ch.capacity (ch.buffer ++ [w]) ch.closed), true) else ([], false) := by
      rw [applyS_do (.inl rfl)]
      have : caseOf (Op.mk 1 0 n w 0 [] []) (-1) = some (Case.mk true n w) := by simp [caseOf, isSR, oneCase, dcd_eq]
      rw [this]
      unfold doS
      simp [e1, onlyS]
    rw [hap, wI_id (x := (s.length : Int) - (g.length : Int)) (by omega) (by omega)]
    unfold M_law14_ModelOrder_J6
    have hno : (!ch.closed && decide ((ch.buffer.length : Int) < ch.capacity)) = false → Ok (M_law14_ModelOrder_J5 l i [] false x c a2 a1 a v v1 k sent got shut) (fun r => r = true) := fun _ => by
      unfold M_law14_ModelOrder_J5
      exact next _ _ _ _ _ hI.mono
    by_cases hroom : (ch.buffer.length : Int) < ch.capacity
    · rw [if_pos (show (s.length : Int) - (g.length : Int) < ch.capacity by omega), e4]
      simp only [Option.bind_some]
      cases hcd : ch.closed
      · simp only [hcd, decide_eq_true hroom, Bool.not_false, Bool.true_and, if_true, beq_self_eq_true, Bool.not_true, Bool.false_eq_true, if_false]
        rw [e2]
        simp only [Option.bind_some]
        rw [app_eq (by simp; omega)]
        simp only [Option.bind_some]
        unfold M_law14_ModelOrder_J5
        simp only [if_true]
        refine next _ _ _ _ _ (hI.turn n0 hn (c := Chan.mk ch.capacity (ch.buffer ++ [w]) false) (s := s ++ [w]) (g := g) rfl rfl (setI_self e3).symm (by rw [hcd] at e4; exact (setI_self e4).symm) e5 ?_ (by simp; omega) (by simp; omega) e9)
        simp only
        rw [e6, List.drop_append_of_le_length e7]
      · simp only [hcd, Bool.not_true, Bool.false_and, Bool.false_eq_true, if_false, beq_self_eq_true]
        exact hno (by rw [hcd]; rfl)
    · rw [if_neg (show ¬ (s.length : Int) - (g.length : Int) < ch.capacity by omega)]
      simp only [decide_eq_false hroom, Bool.and_false, Bool.false_eq_true, if_false, beq_self_eq_true, Bool.not_true]
      exact hno (by rw [decide_eq_false hroom, Bool.and_false])
  -- receive
  have hrecv : ∀ val, (g.length < s.length → getI s (g.length : Int) = some val) → Ok (M_law14_ModelOrder_J3 l sent got shut i n w x c a1 a v v1 k 2 val true 2 0 a2) (fun r => r = true) := fun val hval => by
    unfold M_law14_ModelOrder_J3
    rw [model_Apply_eq hlk (hopm 2 0 (by omega)), e2, e3, e5]
    simp only [bd2]
    simp only [Option.bind_some]
    rw [if_neg (by decide), if_pos trivial]
    have hap : applyS l (Op.mk 2 0 n 0 0 [] []) (Result.mk 2 (-1) val true 0) = if decide (getI ch.buffer 0 = some val) = true then (setI l n (Chan.mk ch.capacity (ch.buffer.drop 1) ch.closed), true) else ([], false) := by
      rw [applyS_do (.inr (.inl rfl))]
      have : caseOf (Op.mk 2 0 n 0 0 [] []) (-1) = some (Case.mk false n 0) := by simp [caseOf, isSR, oneCase, dcd_eq]
      rw [this]
      unfold doS
      simp [e1]
    rw [hap]
    by_cases hgs : g.length < s.length
    · have hv := hval hgs
      have hhead : getI ch.buffer 0 = some val := by
        rw [e6]
        unfold getI at hv ⊢
        rw [if_pos (by omega)] at hv
        rw [if_pos (by omega), List.getElem?_drop]
        simpa using hv
      rw [dcd_tt.2 (show (s.length : Int) > (g.length : Int) by omega)]
      simp only [hhead, decide_true, if_true, beq_self_eq_true, Option.bind_some]
      rw [app_eq (by simp; omega)]
      simp only [Option.bind_some]
      unfold M_law14_ModelOrder_J5
      simp only [if_true]
      refine next _ _ _ _ _ (hI.turn n0 hn (c := Chan.mk ch.capacity (ch.buffer.drop 1) ch.closed) (s := s) (g := g ++ [val]) rfl (setI_self e2).symm rfl (setI_self e4).symm e5 ?_ (by simp; omega) (by omega) e9)
      simp only
      rw [e6, List.drop_drop]; simp
    · have hemp : ch.buffer = [] := List.eq_nil_of_length_eq_zero (by omega)
      rw [dcd_ff.2 (show ¬ (s.length : Int) > (g.length : Int) by omega), hemp]
      have hg0 : getI ([] : List Int) 0 = none := rfl
      simp only [hg0, decide_false, Bool.false_eq_true, if_false, beq_self_eq_true, if_true, reduceCtorEq]
      unfold M_law14_ModelOrder_J5
      simp only [Bool.false_eq_true, if_false]
      exact next _ _ _ _ _ hI.mono
  -- close
  have hclose : Ok (M_law14_ModelOrder_J3 l sent got shut i n w x c a1 a v v1 k 6 0 false 3 0 a2) (fun r => r = true) := by
    unfold M_law14_ModelOrder_J3
    rw [model_Apply_eq hlk (hopm 3 0 (by omega)), e2, e3, e5]
    simp only [bd2]
    simp only [Option.bind_some]
    rw [if_neg (by decide), if_neg (by decide), if_pos trivial]
    have hap : applyS l (Op.mk 3 0 n 0 0 [] []) (Result.mk 6 (-1) 0 false 0) = if (!ch.closed) = true then (setI l n (Chan.mk ch.capacity ch.buffer true), true) else ([], false) := by
      rw [applyS_6 rfl]
      simp [e1, closeS, onlyS]
    rw [hap, e4]
    simp only [Option.bind_some]
    cases hcd : ch.closed
    · simp only [Bool.not_false, if_true]
      rw [if_neg (by decide)]
      unfold M_law14_ModelOrder_J5
      simp only [if_true]
      exact next _ _ _ _ _ (hI.turn n0 hn (c := Chan.mk ch.capacity ch.buffer true) (s := s) (g := g) rfl (setI_self e2).symm (setI_self e3).symm rfl e5 e6 e7 (by omega) e9)
    · simp only [Bool.not_true, Bool.false_eq_true, if_false]
      rw [if_neg (by decide)]
      unfold M_law14_ModelOrder_J5
      simp only [Bool.false_eq_true, if_false]
      refine next _ _ _ _ _ ?_
      rw [hcd] at e4
      rw [setI_self e4]; exact hI.mono
  have hJ4 : ∀ t, Ok (M_law14_ModelOrder_J4 l sent got shut i n w z x c a2 a1 a v v1 k t) (fun r => r = true) := fun t => by
    unfold M_law14_ModelOrder_J4
    refine Ok.ite (fun _ => ?_) fun _ => Ok.ite (fun _ => hclose) fun _ => hsend
    rw [e2, e3]
    simp only [Option.bind_some]
    refine Ok.ite (fun hgs => ?_) fun hgs => hrecv 0 fun h => by omega
    rw [getI_eq (by omega) (by omega)]
    simp only [Option.bind_some]
    exact hrecv _ fun _ => getI_eq (by omega) (by omega)
  exact Ok.ite (fun _ => hJ4 _) fun _ => Ok.ite (fun _ => hJ4 _) fun _ => hJ4 _
end Go.Hx
