/-
  The histories that are made: they are runs.
-/
import Derived.Test.YtgpoanmjkggijaaXCMade
namespace Go.Hx
open Go
set_option linter.unusedVariables false
set_option linter.unusedSimpArgs false
def newD (x : Config) : Desk := Desk.mk (x.capacities.map fun k => Chan.mk k [] false) [] 0
def initS (x : Config) : MS := ⟨List.replicate x.threads.toNat 0, List.replicate x.threads.toNat 0, List.replicate x.threads.toNat noRes, [], newD x⟩
inductive Run (ops : List (List Op)) (s0 : MS) : MS → Prop
  | nil : Run ops s0 s0
  | call {s : MS} {t k : Int} {r : List Op} {o : Op} (h : Run ops s0 s) (h0 : getI s.st t = some 0) (hk : getI s.nx t = some k) (hr : getI ops t = some r) (ho : getI r k = some o) : Run ops s0 (callS s t k)
  | doo {s : MS} {t : Int} {o : Op} (h : Run ops s0 s) (h1 : getI s.st t = some 1) (ho : curO ops s t = some o) : Run ops s0 (doS s t o)
  | ret {s : MS} {t k : Int} {r : Result} {o : Op} (h : Run ops s0 s) (h3 : getI s.st t = some 3) (hk : getI s.nx t = some k) (hr : getI s.rs t = some r) (ho : curO ops s t = some o) : Run ops s0 (retS s t k r)
theorem new_ok {x : Config} (h : x.capacities.length ≤ 1000) : M_81z x = some (newD x) := by
  unfold M_81z
  have e : M_80z x = some (x.capacities.map fun k => Chan.mk k [] false) := by
    refine Ok.eq ?_
    unfold M_80z
    refine lp2_ok (fun _ i => ((x.capacities.length : Int) - i).toNat) (fun l i => 0 ≤ i ∧ i ≤ (x.capacities.length : Int) ∧ l = (x.capacities.take i.toNat).map fun k => Chan.mk k [] false) (fun _ _ => _) ?_ BIG _ 0 ⟨by omega, by omega, by simp⟩ (lt_BIG (by omega))
    intro l i k ⟨h0, h1, h2⟩ hk
    unfold M_136z
    refine Ok.ite (fun h3 => ?_) fun h3 => ?_
    · obtain ⟨y, hy⟩ : ∃ y, getI x.capacities i = some y := ⟨_, getI_eq h0 h3⟩
      rw [hy]
      simp only [Option.bind_some]
      rw [app_eq (by rw [h2]; simp; omega)]
      simp only [Option.bind_some]
      rw [wI_id (by omega) (by omega)]
      refine hk _ _ ⟨by omega, by omega, ?_⟩ (by omega)
      rw [take_getI hy, h2]; simp
    · refine Ok.some ?_
      rw [h2, List.take_of_length_le (by omega)]
  rw [e]; rfl
theorem base_init {x : Config} {ops : List (List Op)} (hx : CfgOk x) (hl : (ops.length : Int) = x.threads) : Base ops 0 (initS x) := by
  have h4 := hx.t4
  have h2 := hx.t2
  have hn3 := hx.n3
  refine ⟨by simp [initS]; omega, by simp [initS]; omega, by simp [initS]; omega, fun t k h => ?_, fun t v h hv => ?_, fun w hw => by simp [initS, newD] at hw, by simp [initS, newD, wthrs], ⟨by simp [initS, newD]; omega, fun c hc => ?_, by simp [initS, newD], fun w hw => by simp [initS, newD] at hw, by omega⟩, fun e he => by simp [initS] at he, by simp [initS]⟩
  · have := getI_mem h; simp only [initS] at this; rw [(List.mem_replicate.1 this).2]; omega
  · have := getI_mem h; simp only [initS] at this; exact absurd (List.mem_replicate.1 this).2 hv
  · simp only [initS, newD, List.mem_map] at hc
    obtain ⟨k, _, rfl⟩ := hc; simp
structure MadeOk (x : Config) (ops : List (List Op)) (l : List Event) : Prop where
  cfg : CfgOk x
  fine : OpsFine ops
  len : (ops.length : Int) = x.threads
  run : ∃ s n, Run ops (initS x) s ∧ Base ops n s ∧ n ≤ 100 ∧ s.l = l
theorem Do_outlen {n : Nat} {d : Desk} {t : Int} {op : Op} (h : DOk n d) (hc : op.cases.length ≤ 20) (hk : 1 ≤ op.kind ∧ op.kind ≤ 6) : (DoD d t op).2.1.length ≤ 1000 := by
  have hw := h.wt
  have h9 := h.n9
  rcases Do_perm (d := d) (t := t) hc hk with ⟨_, _, h4⟩ | ⟨_, rem, h3, h4⟩
  · rw [h4]; simp
  · have e1 := h3.length_eq
    have e2 := h4.length_eq
    simp [thrs, wthrs] at e1 e2
    omega
theorem made_ok {codes : List Int} (hc : ∀ b ∈ codes, 0 ≤ b ∧ b < 256) : Ok (M_101z codes) fun r => MadeOk r.1 r.2.1 r.2.2 := by
  unfold M_101z
  refine Ok.bind (New_ok hc (by omega) (by omega)) fun c ⟨⟨hl, ha⟩, _⟩ => ?_
  refine Ok.bd3 (Config_ok ⟨hl, ha⟩) fun x a0 v0 ⟨hx, ha0⟩ => ?_
  simp only at hx ha0
  have hn3 := hx.n3
  have ht2 := hx.t2
  have ht4 := hx.t4
  refine Ok.bd3 (Ops_ok (c := Draw_Codes.mk c.list a0 v0) ⟨hl, ha0⟩ (by omega) (by omega) (by omega) (by omega) (by omega)) fun ops a1 v1 ⟨hops, ha1⟩ => ?_
  simp only at hops ha1
  have hol := hops.len
  have hfine : OpsFine ops := ⟨by omega, fun r hr => by have := hops.each r hr; omega, hops.ok⟩
  refine Ok.bindEq (new_ok (by omega)) ?_
  refine Ok.bindEq (mkl_eq (by omega) (by omega)) ?_
  refine Ok.bindEq (mkl_eq (by omega) (by omega)) ?_
  unfold M_147z
  refine Ok.bindEq (mkl_eq (by omega) (by omega)) ?_
  refine lp10_ok (fun _ _ _ _ i _ _ _ _ _ => (90 - i).toNat) (fun nx st rs l i ch wt tk a v => 0 ≤ i ∧ i ≤ 90 ∧ AtOk c.list a ∧ Base ops i.toNat ⟨nx, st, rs, l, Desk.mk ch wt tk⟩ ∧ Run ops (initS x) ⟨nx, st, rs, l, Desk.mk ch wt tk⟩) (fun _ _ _ _ _ _ _ _ _ _ => _) ?_ BIG _ _ _ _ _ _ _ _ _ _ ⟨by omega, by omega, ha1, base_init hx hol, .nil⟩ (lt_BIG (by omega))
  intro nx st rs l i ch wt tk a v k ⟨i0, i1, haa, hB, hR⟩ hk
  have hsl := hB.sl
  have hnl := hB.nl
  have hrl := hB.rl
  simp only at hsl hnl hrl
  have hdone : Ok (M_144z ops x l) fun r => MadeOk r.1 r.2.1 r.2.2 := Ok.some ⟨hx, hfine, hol, _, _, hR, hB, by omega, rfl⟩
  have hnext : ∀ nx' st' rs' l' ch' wt' tk' a', i < 90 → AtOk c.list a' → Base ops (i + 1).toNat ⟨nx', st', rs', l', Desk.mk ch' wt' tk'⟩ → Run ops (initS x) ⟨nx', st', rs', l', Desk.mk ch' wt' tk'⟩ → Ok (M_14z ops i x c a v k nx' st' rs' l' ch' wt' tk' a') fun r => MadeOk r.1 r.2.1 r.2.2 := by
    intro nx' st' rs' l' ch' wt' tk' a' hi ha' hB' hR'
    unfold M_14z
    rw [wI_id (by omega) (by omega)]
    exact hk _ _ _ _ _ _ _ _ _ _ ⟨by omega, by omega, ha', hB', hR'⟩ (by omega)
  have hmono : i < 90 → ∀ s, Base ops i.toNat s → Base ops (i + 1).toNat s := fun hi s h => ⟨h.nl, h.sl, h.rl, h.nx, h.act, h.wt, h.nd, ⟨h.dok.ch, fun c hc => by have := h.dok.buf c hc; omega, by have := h.dok.wt; omega, h.dok.ops, by omega⟩, h.ev, by have := h.ll; omega⟩
  have hi1 : (i + 1).toNat = i.toNat + 1 := by omega
  have hJ3 : ∀ b : Bool, (b = true → i < 90) → Ok (M_56z ops nx st rs l i ch wt tk x c k b a v) fun r => MadeOk r.1 r.2.1 r.2.2 := by
    intro b hb
    unfold M_56z
    refine Ok.ite (fun h => ?_) fun h => hdone
    have hi := hb h
    refine Ok.bd2 (Next_ok (c := Draw_Codes.mk c.list a v) ⟨hl, haa⟩ (by omega)) fun t a' ⟨t0, t1, ha', _⟩ => ?_
    simp only at t0 t1 ha'
    obtain ⟨sv, hsv⟩ : ∃ y, getI st t = some y := ⟨_, getI_eq t0 (by omega)⟩
    obtain ⟨kv, hkv⟩ : ∃ y, getI nx t = some y := ⟨_, getI_eq t0 (by omega)⟩
    obtain ⟨row, hrow⟩ : ∃ y, getI ops t = some y := ⟨_, getI_eq t0 (by omega)⟩
    obtain ⟨k0, k1⟩ := hB.nx t kv hkv
    rw [hsv]
    simp only [Option.bind_some]
    have hcall : Ok (M_15z ops nx st rs l i t ch wt tk x c a' a v k true) (fun r => MadeOk r.1 r.2.1 r.2.2) ∨ ¬ (sv = 0 ∧ kv < (row.length : Int)) := by
      by_cases hcond : sv = 0 ∧ kv < (row.length : Int)
      · left
        obtain ⟨hs0, hkr⟩ := hcond
        subst hs0
        obtain ⟨o, ho⟩ : ∃ y, getI row kv = some y := ⟨_, getI_eq k0 hkr⟩
        unfold M_15z
        rw [if_pos rfl, hkv]
        simp only [Option.bind_some]
        have hll := hB.ll
        simp only at hll
        rw [app_eq (by simp; omega)]
        simp only [Option.bind_some]
        rw [hsv]
        simp only [Option.bind_some]
        exact hnext _ _ _ _ _ _ _ _ hi ha' (by rw [hi1]; exact hB.call (by omega) hsv hkv hrow ho) (hR.call hsv hkv hrow ho)
      · exact .inr hcond
    have hother : (sv ≠ 0 ∨ ¬ kv < (row.length : Int)) → Ok (M_15z ops nx st rs l i t ch wt tk x c a' a v k false) fun r => MadeOk r.1 r.2.1 r.2.2 := by
      intro hcond
      unfold M_15z
      rw [if_neg (by decide), hsv]
      simp only [Option.bind_some]
      refine Ok.ite (fun h1 => ?_) fun h1 => ?_
      · subst h1
        obtain ⟨o, hcur⟩ := hB.act t 1 hsv (by decide)
        obtain ⟨k', r', c1, c2, c3⟩ := cur_some hcur
        simp only at c1
        rw [hkv] at c1; cases c1
        rw [hrow] at c2; cases c2
        rw [hrow]
        simp only [Option.bind_some]
        rw [hkv]
        simp only [Option.bind_some]
        rw [c3]
        simp only [Option.bind_some]
        have hok := hfine.op hrow c3
        have hDo := Do_eq (t := t) hB.dok (by have := hok.lens.2; omega : o.cases.length ≤ 20) hok.kind
        have hB' := hB.doo hfine (by omega) hsv hcur
        have hR' := hR.doo hsv hcur
        have hdt := (done_thr hB hfine hsv hcur).2.1
        simp only at hdt
        unfold doS at hB' hR'
        simp only at hB' hR'
        generalize hD : DoD (Desk.mk ch wt tk) t o = D at *
        obtain ⟨d', out, wts⟩ := D
        refine Ok.bd3 (Q := fun r => r = (d', out, wts)) ⟨_, hDo, rfl⟩ fun d1 out1 w1 e1 => ?_
        cases e1
        simp only at hB' hR' hdt
        have hol2 : out.length ≤ 1000000 := by
          have h5 := Do_outlen (t := t) hB.dok (by have := hok.lens.2; omega : o.cases.length ≤ 20) hok.kind
          simp only [hD] at h5
          omega
        refine lp3_ok (fun _ _ j => ((out.length : Int) - j).toNat) (fun st' rs' j => 0 ≤ j ∧ j ≤ (out.length : Int) ∧ st'.length = ops.length ∧ rs'.length = ops.length ∧ setDone (out.drop j.toNat) st' rs' = setDone out (setI st t 2) rs) (fun _ _ _ => _) ?_ BIG _ _ 0 ⟨by omega, by omega, by rw [length_setI]; exact hsl, hrl, by simp⟩ (lt_BIG (by omega))
        intro st' rs' j q ⟨j0, j1, j2, j3, j4⟩ hq
        unfold M_145z
        refine Ok.ite (fun h6 => ?_) fun h6 => ?_
        · obtain ⟨y, hy⟩ : ∃ y, getI out j = some y := ⟨_, getI_eq j0 h6⟩
          obtain ⟨y0, y1, _⟩ := hdt y (getI_mem hy)
          rw [hy]
          simp only [Option.bind_some]
          rw [getI_eq (l := rs') y0 (by omega), getI_eq (l := st') y0 (by omega)]
          simp only [Option.bind_some]
          rw [wI_id (by omega) (by omega)]
          refine hq _ _ _ ⟨by omega, by omega, by rw [length_setI]; exact j2, by rw [length_setI]; exact j3, ?_⟩ (by omega)
          rw [← j4, drop_getI hy]; rfl
        · rw [List.drop_eq_nil_of_le (by omega)] at j4
          simp only [setDone] at j4
          rw [← j4] at hB' hR'
          obtain ⟨ch', wt', tk'⟩ := d'
          exact hnext _ _ _ _ _ _ _ _ hi ha' (by rw [hi1]; exact hB') hR'
      · refine Ok.ite (fun h3 => ?_) fun h3 => ?_
        · subst h3
          obtain ⟨rv, hrv⟩ : ∃ y, getI rs t = some y := ⟨_, getI_eq t0 (by omega)⟩
          obtain ⟨o, hcur⟩ := hB.act t 3 hsv (by decide)
          obtain ⟨k', r', c1, c2, c3⟩ := cur_some hcur
          simp only at c1
          rw [hkv] at c1; cases c1
          rw [hrow] at c2; cases c2
          rw [hkv, hrv]
          simp only [Option.bind_some]
          have hll := hB.ll
          simp only at hll
          rw [app_eq (by simp; omega)]
          simp only [Option.bind_some]
          have hk100 : kv < 100 := by
            have := (getI_lt c3).2
            have := hfine.2.1 row (getI_mem hrow)
            omega
          rw [wI_id (by omega) (by omega)]
          exact hnext _ _ _ _ _ _ _ _ hi ha' (by rw [hi1]; exact hB.ret (by omega) hsv hkv hk100 hrow c3) (hR.ret hsv hkv hrv hcur)
        · exact hnext _ _ _ _ _ _ _ _ hi ha' (hmono hi _ hB) hR
    refine Ok.ite (fun h1 => ?_) fun h1 => hother (.inl h1)
    rw [hkv, hrow]
    simp only [Option.bind_some]
    by_cases h2 : kv < (row.length : Int)
    · rw [show dcd (kv < (row.length : Int)) = true by rw [dcd_tt]; exact h2]
      rcases hcall with h3 | h3
      · exact h3
      · exact absurd ⟨h1, h2⟩ h3
    · rw [show dcd (kv < (row.length : Int)) = false by rw [dcd_ff]; exact h2]
      exact hother (.inr h2)
  unfold M_146z
  refine Ok.ite (fun h => ?_) fun h => hJ3 _ (by simp)
  rw [Left_eq]
  simp only [Option.bind_some]
  exact hJ3 _ fun _ => h
end Go.Hx
