/-
  The values that a drawn operation can send are different.
-/
import Derived.Test.YtphoeijgpmlbpaaDoorXEHistL
namespace Go.Hx
open Go
set_option linter.unusedVariables false
set_option linter.unusedSimpArgs false
/-- The values that cases send. -/
def sndV (cs : List Case) : List Int := cs.filterMap fun x => if x.send = true then some x.value else none
def Dst (cs : List Case) : Prop := (sndV cs).Nodup
theorem snd_app (a b : List Case) : sndV (a ++ b) = sndV a ++ sndV b := List.filterMap_append
def seqV (v0 : Int) (n : Nat) : List Int := (List.range n).map fun j : Nat => (v0 + 1 + (j : Int)) % 18446744073709551616
theorem seq_nodup (v0 : Int) {n : Nat} (hn : n ≤ 1000) : (seqV v0 n).Nodup := by
  unfold seqV List.Nodup
  rw [List.pairwise_map]
  refine (List.pairwise_lt_range (n := n)).imp_of_mem fun {i j} hi hj hij e => ?_
  rw [List.mem_range] at hi hj
  omega
theorem wU_mod (x : Int) : wU x = x % 18446744073709551616 := by
  simp only [wU, IntKind.wrap, IntKind.bits, IntKind.signed]; simp
theorem mode_cases {c : Draw_Codes} {o : Op} (hc : Cd c) (ho : OpPre o) : Ok (M_draw_Codes_mode c o) fun r => r.1.cases = o.cases ∧ AtOk c.list r.2.1 := (mode_ok hc ho).mono fun r h => ⟨h.2.2.2.2, h.2.1⟩
theorem Select_dst {c : Draw_Codes} {x : Config} {m : Int} (hc : Cd c) (hx : x.capacities.length ≤ 8) (h0 : 0 ≤ m) (hm : m ≤ 6) : Ok (M_draw_Codes_Select c x m) fun r => Dst r.1.cases := by
  obtain ⟨hl, ha⟩ := hc
  unfold M_draw_Codes_Select
  refine lp5_ok (fun i _ _ _ _ => (7 - i).toNat) (fun i a v p q => 0 ≤ i ∧ i ≤ m ∧ AtOk c.list a ∧ (p.length : Int) = i ∧ (q.length : Int) = i ∧ (∀ k ∈ p, CaseOk k) ∧ (∀ (j : Nat) (d : Int), q[j]? = some d → 0 ≤ d ∧ d ≤ (j : Int)) ∧ ∃ n : Nat, (n : Int) ≤ i ∧ v % 18446744073709551616 = (c.value + (n : Int)) % 18446744073709551616 ∧ sndV p = seqV c.value n) (fun _ _ _ _ _ => _) ?_ BIG 0 _ _ _ _ ⟨by omega, by omega, ha, by simp, by simp, by simp, by simp, 0, by omega, by simp, rfl⟩ (lt_BIG (by omega))
  intro i a v p q k ⟨h0, h3, ha, hp, hq, hpk, hqk, n, hn, hv, hs⟩ hk
  unfold M_draw_Codes_Select_L1
  rw [wI_id (by omega) (by omega)]
  refine Ok.bd2 (Next_ok ⟨hl, ha⟩ (by omega)) fun n1 a1 ⟨b0, b1, ha1, _⟩ => ?_
  simp only at b0 b1 ha1
  refine Ok.ite (fun h => ?_) fun h => ?_
  · refine Ok.bd2 (Next_ok ⟨hl, ha1⟩ (by omega)) fun n2 a2 ⟨b2, b3, ha2, _⟩ => ?_
    simp only at b2 b3 ha2
    refine Ok.bd3 (channel_ok ⟨hl, ha2⟩ hx) fun n4 a4 v4 ⟨b4, ha4, b5⟩ => ?_
    simp only at b4 ha4 b5
    have key : ∀ a5 v5 w, AtOk c.list a5 → ValOk w → (dcd (n2 = 1) = false → w = 0) → (∃ n : Nat, (n : Int) ≤ i + 1 ∧ v5 % 18446744073709551616 = (c.value + (n : Int)) % 18446744073709551616 ∧ sndV (p ++ [Case.mk (dcd (n2 = 1)) n4 w]) = seqV c.value n) → Ok (M_draw_Codes_Select_J4 m i c (dcd (n2 = 1)) n4 p q x k a5 v5 w) fun r => Dst r.1.cases := by
      intro a5 v5 w ha5 hw hw0 hd
      unfold M_draw_Codes_Select_J4
      rw [app_eq (by simp; omega), wI_id (by omega) (by omega)]
      simp only [Option.bind_some]
      refine Ok.bd2 (Next_ok ⟨hl, ha5⟩ (by omega)) fun n6 a6 ⟨b6, b7, ha6, _⟩ => ?_
      simp only at b6 b7 ha6
      rw [app_eq (by simp; omega)]
      simp only [Option.bind_some]
      unfold M_draw_Codes_Select_J2
      rw [wI_id (by omega) (by omega)]
      refine hk _ _ _ _ _ ⟨by omega, by omega, ha6, by simp; omega, by simp; omega, fun y hy => ?_, draws_app hqk hq b6 b7, hd⟩ (by omega)
      rcases List.mem_append.1 hy with hy | hy
      · exact hpk y hy
      · simp at hy; subst hy; exact ⟨b4, hw0, hw⟩
    have hv4 : v4 % 18446744073709551616 = (c.value + (n : Int)) % 18446744073709551616 := by rw [b5]; exact hv
    unfold M_draw_Codes_Select_J3
    refine Ok.ite (fun h' => ?_) fun h' => ?_
    · refine Ok.bd2 Value_ok fun n6 a6 ⟨b6, b7, b8⟩ => ?_
      simp only at b6 b7 b8
      refine key _ _ _ ha4 b6 (fun e => by rw [h'] at e; cases e) ⟨n + 1, by omega, ?_, ?_⟩
      · rw [b8, wU_mod]; omega
      · rw [snd_app, hs]
        unfold seqV
        rw [List.range_succ, List.map_append]
        congr 1
        simp only [sndV, List.filterMap_cons, List.filterMap_nil, h', if_true, List.map_cons, List.map_nil]
        rw [b7, wU_mod]
        congr 1
        omega
    · refine key _ _ _ ha4 ⟨by omega, by omega⟩ (fun _ => rfl) ⟨n, by omega, hv4, ?_⟩
      have h'' : dcd (n2 = 1) = false := by simpa using h'
      rw [snd_app, hs, h'']
      simp [sndV]
  · unfold M_draw_Codes_Select_J1
    refine Ok.bd3 (mode_cases (c := Draw_Codes.mk c.list a1 _) ⟨hl, ha1⟩ ⟨.inr (.inr rfl), rfl, rfl, ⟨by simp only; omega, by simp only; omega⟩, fun h => absurd rfl h, fun _ => ⟨rfl, rfl⟩, ⟨by simp only; omega, by simp only; omega⟩, hqk, hpk, fun _ => rfl, ⟨by simp only; omega, by simp only; omega⟩⟩) fun o a7 v7 ⟨hcs, _⟩ => ?_
    refine Ok.some ?_
    show Dst o.cases
    have hcs : o.cases = p := hcs
    rw [hcs]
    unfold Dst
    rw [hs]
    exact seq_nodup _ (by omega)
theorem dst_nil : Dst [] := List.Pairwise.nil
theorem Op_dst {c : Draw_Codes} {x : Config} (hc : Cd c) (hx : x.capacities.length ≤ 8) : Ok (M_draw_Codes_Op c x) fun r => Dst r.1.cases := by
  obtain ⟨hl, ha⟩ := hc
  unfold M_draw_Codes_Op
  refine Ok.bd2 (Next_ok ⟨hl, ha⟩ (by omega)) fun n1 a1 ⟨b0, b1, ha1, _⟩ => ?_
  simp only at b0 b1 ha1
  refine Ok.ite (fun h => ?_) fun h => Ok.ite (fun h' => ?_) fun h' => Ok.ite (fun h2 => ?_) fun h2 => Ok.ite (fun h3 => ?_) fun h3 => Ok.ite (fun h4 => ?_) fun h4 => ?_
  · refine Ok.bd3 (channel_ok (c := Draw_Codes.mk c.list a1 _) ⟨hl, ha1⟩ hx) fun n2 a2 v2 ⟨b2, ha2, _⟩ => ?_
    refine Ok.bd2 Value_ok fun n3 a3 ⟨b3, _⟩ => ?_
    refine Ok.bd3 (mode_cases (c := Draw_Codes.mk c.list a2 _) ⟨hl, ha2⟩ ⟨.inl rfl, rfl, rfl, b2, fun _ => ⟨rfl, rfl⟩, fun h => by simp at h, ⟨rfl, by simp⟩, by simp, by simp, fun h => absurd rfl h, b3⟩) fun o a4 v4 ⟨ho, _⟩ => ?_
    exact Ok.some (by show Dst o.cases; rw [show o.cases = [] from ho]; exact dst_nil)
  · refine Ok.bd3 (channel_ok (c := Draw_Codes.mk c.list a1 _) ⟨hl, ha1⟩ hx) fun n2 a2 v2 ⟨b2, ha2, _⟩ => ?_
    refine Ok.bd3 (mode_cases (c := Draw_Codes.mk c.list a2 _) ⟨hl, ha2⟩ ⟨.inr (.inl rfl), rfl, rfl, b2, fun _ => ⟨rfl, rfl⟩, fun h => by simp at h, ⟨rfl, by simp⟩, by simp, by simp, fun _ => rfl, ⟨by simp only; omega, by simp only; omega⟩⟩) fun o a4 v4 ⟨ho, _⟩ => ?_
    exact Ok.some (by show Dst o.cases; rw [show o.cases = [] from ho]; exact dst_nil)
  · refine Ok.bd3 (Select_dst (c := Draw_Codes.mk c.list a1 _) ⟨hl, ha1⟩ hx (by omega) (by omega)) fun o a2 v2 ho => Ok.some ho
  · refine Ok.bd3 (channel_ok (c := Draw_Codes.mk c.list a1 _) ⟨hl, ha1⟩ hx) fun n2 a2 v2 _ => Ok.some dst_nil
  · refine Ok.bd3 (channel_ok (c := Draw_Codes.mk c.list a1 _) ⟨hl, ha1⟩ hx) fun n2 a2 v2 _ => Ok.some dst_nil
  · refine Ok.bd3 (channel_ok (c := Draw_Codes.mk c.list a1 _) ⟨hl, ha1⟩ hx) fun n2 a2 v2 _ => Ok.some dst_nil
theorem Ops_dst {c : Draw_Codes} {x : Config} {m : Int} (hc : Cd c) (hx : x.capacities.length ≤ 8) (ht0 : 1 ≤ x.threads) (ht : x.threads ≤ 8) (h0 : 0 ≤ m) (hm : m ≤ 100) : Ok (M_draw_Codes_Ops c x m) fun r => ∀ w ∈ r.1, ∀ o ∈ w, Dst o.cases := by
  obtain ⟨hl, ha⟩ := hc
  unfold M_draw_Codes_Ops
  rw [mkl_eq (by omega) (by omega)]
  simp only [Option.bind_some]
  refine lp4_ok (fun _ i _ _ => (m - i).toNat) (fun l i a v => 0 ≤ i ∧ i ≤ m ∧ AtOk c.list a ∧ (l.length : Int) = x.threads ∧ (∀ r ∈ l, (r.length : Int) ≤ i) ∧ ∀ w ∈ l, ∀ o ∈ w, Dst o.cases) (fun _ _ _ _ => _) ?_ BIG _ 0 _ _ ⟨by omega, by omega, ha, by simp; omega, fun r hr => ?_, fun r hr => ?_⟩ (lt_BIG (by omega))
  rotate_left
  · rw [List.mem_replicate] at hr; rw [hr.2]; simp
  · rw [List.mem_replicate] at hr; rw [hr.2]; simp
  intro l i a v k ⟨h0, h3, ha, hlen, heach, hi⟩ hk
  have key : ∀ t, (t = true → i < m) → Ok (M_draw_Codes_Ops_J2 m l i c x k t a v) fun r => ∀ w ∈ r.1, ∀ o ∈ w, Dst o.cases := by
    intro t ht'
    unfold M_draw_Codes_Ops_J2
    refine Ok.ite (fun h => ?_) fun h => ?_
    · have hlt := ht' h
      refine Ok.bd2 (Next_ok (c := Draw_Codes.mk c.list a v) ⟨hl, ha⟩ (by omega)) fun n1 a1 ⟨b0, b1, ha1, _⟩ => ?_
      simp only at b0 b1 ha1
      have hn1 : n1 < (l.length : Int) := by rw [hlen]; exact b1
      refine Ok.bind (Ok.getI (P := fun r => r ∈ l) b0 hn1 fun r _ hr => hr) fun r hr => ?_
      refine Ok.bd3 ((Op_ok (c := Draw_Codes.mk c.list a1 _) ⟨hl, ha1⟩ hx).and (Op_dst (c := Draw_Codes.mk c.list a1 _) ⟨hl, ha1⟩ hx)) fun o a2 v2 ⟨⟨ho, ha2⟩, hod⟩ => ?_
      have hrl := heach r hr
      rw [app_eq (by simp; omega), getI_eq b0 hn1]
      simp only [Option.bind_some]
      unfold M_draw_Codes_Ops_J3
      rw [wI_id (by omega) (by omega)]
      refine hk _ _ _ _ ⟨by omega, by omega, ha2, by rw [length_setI, hlen], fun r' hr' => ?_, fun r' hr' o' ho' => ?_⟩ (by omega)
      · rcases mem_setI hr' with rfl | hr'
        · simp; omega
        · have := heach r' hr'; omega
      · rcases mem_setI hr' with rfl | hr'
        · rcases List.mem_append.1 ho' with ho' | ho'
          · exact hi r hr o' ho'
          · simp at ho'; subst ho'; exact hod
        · exact hi r' hr' o' ho'
    · unfold M_draw_Codes_Ops_J1
      exact Ok.some hi
  unfold M_draw_Codes_Ops_L1
  refine Ok.ite (fun h => ?_) fun h => ?_
  · rw [Left_eq]
    simp only [Option.bind_some]
    exact key _ fun _ => h
  · exact key _ fun h => by cases h
end Go.Hx

namespace Go.Hx
open Go
set_option linter.unusedVariables false
set_option linter.unusedSimpArgs false
def newD (x : Config) : Desk := Desk.mk (x.capacities.map fun k => Chan.mk k [] false) [] 0
def initS (x : Config) : MS := ⟨List.replicate x.threads.toNat 0, List.replicate x.threads.toNat 0, List.replicate x.threads.toNat noRes, [], newD x⟩
inductive Run (ops : List (List Op)) (s0 : MS) : Nat → MS → Prop
  | nil : Run ops s0 0 s0
  | call {n : Nat} {s : MS} {t k : Int} {r : List Op} {o : Op} (h : Run ops s0 n s) (h0 : getI s.st t = some 0) (hk : getI s.nx t = some k) (hr : getI ops t = some r) (ho : getI r k = some o) : Run ops s0 (n + 1) (callS s t k)
  | doo {n : Nat} {s : MS} {t : Int} {o : Op} (h : Run ops s0 n s) (h1 : getI s.st t = some 1) (ho : curO ops s t = some o) : Run ops s0 (n + 1) (doS s t o)
  | ret {n : Nat} {s : MS} {t k : Int} {r : Result} {o : Op} (h : Run ops s0 n s) (h3 : getI s.st t = some 3) (hk : getI s.nx t = some k) (hr : getI s.rs t = some r) (ho : curO ops s t = some o) : Run ops s0 (n + 1) (retS s t k r)
theorem new_ok {x : Config} (h : x.capacities.length ≤ 1000) : M_ref15_New x = some (newD x) := by
  unfold M_ref15_New
  have e : M_ref14_New x = some (x.capacities.map fun k => Chan.mk k [] false) := by
    refine Ok.eq ?_
    unfold M_ref14_New
    refine lp2_ok (fun _ i => ((x.capacities.length : Int) - i).toNat) (fun l i => 0 ≤ i ∧ i ≤ (x.capacities.length : Int) ∧ l = (x.capacities.take i.toNat).map fun k => Chan.mk k [] false) (fun _ _ => _) ?_ BIG _ 0 ⟨by omega, by omega, by simp⟩ (lt_BIG (by omega))
    intro l i k ⟨h0, h1, h2⟩ hk
    unfold M_ref14_New_L1
    refine Ok.ite (fun h3 => ?_) fun h3 => ?_
    · obtain ⟨y, hy⟩ : ∃ y, getI x.capacities i = some y := ⟨_, getI_eq h0 h3⟩
      rw [hy]
      simp only [Option.bind_some]
      rw [app_eq (by rw [h2]; simp; omega)]
      simp only [Option.bind_some]
      rw [wI_id (by omega) (by omega)]
      refine hk _ _ ⟨by omega, by omega, ?_⟩ (by omega)
      rw [take_getI hy, h2]; simp
    · refine Ok.some ?_
      rw [h2, List.take_of_length_le (by omega)]
  rw [e]; rfl
theorem base_init {x : Config} {ops : List (List Op)} (hx : CfgOk x) (hl : (ops.length : Int) = x.threads) : Base ops 0 (initS x) := by
  have h4 := hx.t4
  have h2 := hx.t2
  have hn3 := hx.n3
  refine ⟨by simp [initS]; omega, by simp [initS]; omega, by simp [initS]; omega, fun t k h => ?_, fun t v h hv => ?_, fun w hw => by simp [initS, newD] at hw, by simp [initS, newD, wthrs], ⟨by simp [initS, newD]; omega, fun c hc => ?_, by simp [initS, newD], fun w hw => by simp [initS, newD] at hw, by omega⟩, fun e he => by simp [initS] at he, by simp [initS]⟩
  · have := getI_mem h; simp only [initS] at this; rw [(List.mem_replicate.1 this).2]; omega
  · have := getI_mem h; simp only [initS] at this; exact absurd (List.mem_replicate.1 this).2 hv
  · simp only [initS, newD, List.mem_map] at hc
    obtain ⟨k, _, rfl⟩ := hc; simp
structure MadeOk (x : Config) (ops : List (List Op)) (l : List Event) : Prop where
  cfg : CfgOk x
  fine : OpsFine ops
  len : (ops.length : Int) = x.threads
  run : ∃ s n m, Run ops (initS x) m s ∧ m ≤ 100 ∧ Base ops n s ∧ n ≤ 100 ∧ s.l = l
  rows : ∀ r ∈ ops, r.length ≤ 10
  dst : ∀ w ∈ ops, ∀ o ∈ w, Dst o.cases
theorem Do_outlen {n : Nat} {d : Desk} {t : Int} {op : Op} (h : DOk n d) (hc : op.cases.length ≤ 20) (hk : 1 ≤ op.kind ∧ op.kind ≤ 6) : (DoD d t op).2.1.length ≤ 1000 := by
  have hw := h.wt
  have h9 := h.n9
  rcases Do_perm (d := d) (t := t) hc hk with ⟨_, _, h4⟩ | ⟨_, rem, h3, h4⟩
  · rw [h4]; simp
  · have e1 := h3.length_eq
    have e2 := h4.length_eq
    simp [thrs, wthrs] at e1 e2
    omega
theorem setI_setI {α : Type} (l : List α) (i : Int) (a b : α) : setI (setI l i a) i b = setI l i b := by
  unfold setI; rw [List.set_set]
theorem setI_comm {α : Type} (l : List α) {i j : Int} (a b : α) (hi : 0 ≤ i) (hj : 0 ≤ j) (h : i ≠ j) : setI (setI l i a) j b = setI (setI l j b) i a := by
  unfold setI; rw [List.set_comm]; omega
theorem setDone_skip {t : Int} : ∀ {out : List Done} {st : List Int} {rs : List Result}, t ∈ thrs out → (∀ y ∈ out, 0 ≤ y.thread) → setDone out (setI st t 2) rs = setDone out st rs
  | [], st, rs, h, _ => by simp [thrs] at h
  | y :: out, st, rs, h, hb => by
    unfold setDone
    have hy := hb y (.head _)
    by_cases he : y.thread = t
    · rw [he, setI_setI]
    · have ht : t ∈ thrs out := by
        simp only [thrs, List.map_cons, List.mem_cons] at h
        rcases h with h | h
        · exact absurd h.symm he
        · exact h
      have ht0 : 0 ≤ t := by
        obtain ⟨z, hz, hzt⟩ := List.mem_map.1 ht
        have := hb z (.tail _ hz); omega
      rw [setI_comm _ _ _ ht0 hy (fun e => he e.symm)]
      exact setDone_skip ht fun z hz => hb z (.tail _ hz)
theorem made_ok {codes : List Int} {most : Int} (hc : ∀ b ∈ codes, 0 ≤ b ∧ b < 256) (hm0 : 0 ≤ most) (hm1 : most ≤ 10) : Ok (M_law17_made codes most) fun r => MadeOk r.1 r.2.1 r.2.2 := by
  unfold M_law17_made
  refine Ok.bind (New_ok hc (by omega) (by omega)) fun c ⟨⟨hl, ha⟩, _⟩ => ?_
  refine Ok.bd3 (Config_ok ⟨hl, ha⟩) fun x a0 v0 ⟨hx, ha0⟩ => ?_
  simp only at hx ha0
  have hn3 := hx.n3
  have ht2 := hx.t2
  have ht4 := hx.t4
  refine Ok.bd3 ((Ops_ok (c := Draw_Codes.mk c.list a0 v0) ⟨hl, ha0⟩ (by omega) (by omega) (by omega) (by omega) (by omega)).and (Ops_dst (c := Draw_Codes.mk c.list a0 v0) ⟨hl, ha0⟩ (by omega) (by omega) (by omega) (by omega) (by omega))) fun ops a1 v1 ⟨⟨hops, ha1⟩, hdst⟩ => ?_
  simp only at hops ha1 hdst
  have hol := hops.len
  have hfine : OpsFine ops := ⟨by omega, fun r hr => by have := hops.each r hr; omega, hops.ok⟩
  refine Ok.bindEq (new_ok (by omega)) ?_
  refine Ok.bindEq (mkl_eq (by omega) (by omega)) ?_
  refine Ok.bindEq (mkl_eq (by omega) (by omega)) ?_
  unfold M_law17_made_J1
  refine Ok.bindEq (mkl_eq (by omega) (by omega)) ?_
  refine lp10_ok (fun _ _ _ _ i _ _ _ _ _ => (80 - i).toNat) (fun nx st rs l i ch wt tk a v => 0 ≤ i ∧ i ≤ 80 ∧ AtOk c.list a ∧ Base ops i.toNat ⟨nx, st, rs, l, Desk.mk ch wt tk⟩ ∧ ∃ j, j ≤ i.toNat ∧ Run ops (initS x) j ⟨nx, st, rs, l, Desk.mk ch wt tk⟩) (fun _ _ _ _ _ _ _ _ _ _ => _) ?_ BIG _ _ _ _ _ _ _ _ _ _ ⟨by omega, by omega, ha1, base_init hx hol, 0, by omega, .nil⟩ (lt_BIG (by omega))
  intro nx st rs l i ch wt tk a v k ⟨i0, i1, haa, hB, jr, hjr, hR⟩ hk
  have hsl := hB.sl
  have hnl := hB.nl
  have hrl := hB.rl
  simp only at hsl hnl hrl
  have hdone : Ok (M_law17_made_J2 ops x l) fun r => MadeOk r.1 r.2.1 r.2.2 := Ok.some ⟨hx, hfine, hol, ⟨_, _, _, hR, by omega, hB, by omega, rfl⟩, fun r hr => by have := hops.each r hr; omega, hdst⟩
  have hnext : ∀ nx' st' rs' l' ch' wt' tk' a', i < 80 → AtOk c.list a' → Base ops (i + 1).toNat ⟨nx', st', rs', l', Desk.mk ch' wt' tk'⟩ → (∃ j, j ≤ i.toNat + 1 ∧ Run ops (initS x) j ⟨nx', st', rs', l', Desk.mk ch' wt' tk'⟩) → Ok (M_law17_made_J4 ops i x c a v k nx' st' rs' l' ch' wt' tk' a') fun r => MadeOk r.1 r.2.1 r.2.2 := by
    intro nx' st' rs' l' ch' wt' tk' a' hi ha' hB' hR'
    unfold M_law17_made_J4
    rw [wI_id (by omega) (by omega)]
    obtain ⟨j', hj', hR'⟩ := hR'
    exact hk _ _ _ _ _ _ _ _ _ _ ⟨by omega, by omega, ha', hB', j', by omega, hR'⟩ (by omega)
  have hmono : i < 80 → ∀ s, Base ops i.toNat s → Base ops (i + 1).toNat s := fun hi s h => ⟨h.nl, h.sl, h.rl, h.nx, h.act, h.wt, h.nd, ⟨h.dok.ch, fun c hc => by have := h.dok.buf c hc; omega, by have := h.dok.wt; omega, h.dok.ops, by omega⟩, h.ev, by have := h.ll; omega⟩
  have hi1 : (i + 1).toNat = i.toNat + 1 := by omega
  have hJ3 : ∀ b : Bool, (b = true → i < 80) → Ok (M_law17_made_J3 ops nx st rs l i ch wt tk x c k b a v) fun r => MadeOk r.1 r.2.1 r.2.2 := by
    intro b hb
    unfold M_law17_made_J3
    refine Ok.ite (fun h => ?_) fun h => hdone
    have hi := hb h
    refine Ok.bd2 (Next_ok (c := Draw_Codes.mk c.list a v) ⟨hl, haa⟩ (by omega)) fun t a' ⟨t0, t1, ha', _⟩ => ?_
    simp only at t0 t1 ha'
    obtain ⟨sv, hsv⟩ : ∃ y, getI st t = some y := ⟨_, getI_eq t0 (by omega)⟩
    obtain ⟨kv, hkv⟩ : ∃ y, getI nx t = some y := ⟨_, getI_eq t0 (by omega)⟩
    obtain ⟨row, hrow⟩ : ∃ y, getI ops t = some y := ⟨_, getI_eq t0 (by omega)⟩
    obtain ⟨k0, k1⟩ := hB.nx t kv hkv
    rw [hsv]
    simp only [Option.bind_some]
    have hcall : Ok (M_law17_made_J5 ops nx st rs l i t ch wt tk x c a' a v k true) (fun r => MadeOk r.1 r.2.1 r.2.2) ∨ ¬ (sv = 0 ∧ kv < (row.length : Int)) := by
      by_cases hcond : sv = 0 ∧ kv < (row.length : Int)
      · left
        obtain ⟨hs0, hkr⟩ := hcond
        subst hs0
        obtain ⟨o, ho⟩ : ∃ y, getI row kv = some y := ⟨_, getI_eq k0 hkr⟩
        unfold M_law17_made_J5
        rw [if_pos rfl, hkv]
        simp only [Option.bind_some]
        have hll := hB.ll
        simp only at hll
        rw [app_eq (by simp; omega)]
        simp only [Option.bind_some]
        rw [hsv]
        simp only [Option.bind_some]
        exact hnext _ _ _ _ _ _ _ _ hi ha' (by rw [hi1]; exact hB.call (by omega) hsv hkv hrow ho) ⟨_, by omega, hR.call hsv hkv hrow ho⟩
      · exact .inr hcond
    have hother : (sv ≠ 0 ∨ ¬ kv < (row.length : Int)) → Ok (M_law17_made_J5 ops nx st rs l i t ch wt tk x c a' a v k false) fun r => MadeOk r.1 r.2.1 r.2.2 := by
      intro hcond
      unfold M_law17_made_J5
      rw [if_neg (by decide), hsv]
      simp only [Option.bind_some]
      refine Ok.ite (fun h1 => ?_) fun h1 => ?_
      · subst h1
        obtain ⟨o, hcur⟩ := hB.act t 1 hsv (by decide)
        obtain ⟨k', r', c1, c2, c3⟩ := cur_some hcur
        simp only at c1
        rw [hkv] at c1; cases c1
        rw [hrow] at c2; cases c2
        rw [hrow]
        simp only [Option.bind_some]
        rw [hkv]
        simp only [Option.bind_some]
        rw [c3]
        simp only [Option.bind_some]
        have hok := hfine.op hrow c3
        have hDo := Do_eq (t := t) hB.dok (by have := hok.lens.2; omega : o.cases.length ≤ 20) hok.kind
        have hB' := hB.doo hfine (by omega) hsv hcur
        have hR' := hR.doo hsv hcur
        have hdt := (done_thr hB hfine hsv hcur).2.1
        simp only at hdt
        unfold doS at hB' hR'
        simp only at hB' hR'
        generalize hD : DoD (Desk.mk ch wt tk) t o = D at *
        obtain ⟨d', out, wts⟩ := D
        refine Ok.bd3 (Q := fun r => r = (d', out, wts)) ⟨_, hDo, rfl⟩ fun d1 out1 w1 e1 => ?_
        cases e1
        simp only at hB' hR' hdt
        have hol2 : out.length ≤ 1000000 := by
          have h5 := Do_outlen (t := t) hB.dok (by have := hok.lens.2; omega : o.cases.length ≤ 20) hok.kind
          simp only [hD] at h5
          omega
        have hgo : ∀ st0 : List Int, st0.length = ops.length → setDone out st0 rs = setDone out (setI st t 2) rs → Ok (M_law17_made_J6 ops nx rs l i out d' x c a' a v k st0) fun r => MadeOk r.1 r.2.1 r.2.2 := by
          intro st0 hst0 hse
          unfold M_law17_made_J6
          refine lp3_ok (fun _ _ j => ((out.length : Int) - j).toNat) (fun st' rs' j => 0 ≤ j ∧ j ≤ (out.length : Int) ∧ st'.length = ops.length ∧ rs'.length = ops.length ∧ setDone (out.drop j.toNat) st' rs' = setDone out (setI st t 2) rs) (fun _ _ _ => _) ?_ BIG _ _ 0 ⟨by omega, by omega, hst0, hrl, by simpa using hse⟩ (lt_BIG (by omega))
          intro st' rs' j q ⟨j0, j1, j2, j3, j4⟩ hq
          unfold M_law17_made_L2
          refine Ok.ite (fun h6 => ?_) fun h6 => ?_
          · obtain ⟨y, hy⟩ : ∃ y, getI out j = some y := ⟨_, getI_eq j0 h6⟩
            obtain ⟨y0, y1, _⟩ := hdt y (getI_mem hy)
            rw [hy]
            simp only [Option.bind_some]
            rw [getI_eq (l := rs') y0 (by omega), getI_eq (l := st') y0 (by omega)]
            simp only [Option.bind_some]
            rw [wI_id (by omega) (by omega)]
            refine hq _ _ _ ⟨by omega, by omega, by rw [length_setI]; exact j2, by rw [length_setI]; exact j3, ?_⟩ (by omega)
            rw [← j4, drop_getI hy]; rfl
          · rw [List.drop_eq_nil_of_le (by omega)] at j4
            simp only [setDone] at j4
            rw [← j4] at hB' hR'
            obtain ⟨ch', wt', tk'⟩ := d'
            exact hnext _ _ _ _ _ _ _ _ hi ha' (by rw [hi1]; exact hB') ⟨_, by omega, hR'⟩
        refine Ok.ite (fun hw => ?_) fun hw => ?_
        · exact hgo _ (by rw [length_setI]; exact hsl) rfl
        · refine hgo _ hsl (setDone_skip ?_ fun y hy => ?_).symm
          · have hp := Do_perm (d := Desk.mk ch wt tk) (t := t) (by have := hok.lens.2; omega : o.cases.length ≤ 20) hok.kind
            simp only [hD] at hp
            rcases hp with ⟨h7, _, _⟩ | ⟨_, rem, _, h8⟩
            · exact absurd h7 hw
            · exact h8.mem_iff.2 (by simp)
          · have := hdt y hy; omega
      · refine Ok.ite (fun h3 => ?_) fun h3 => ?_
        · subst h3
          obtain ⟨rv, hrv⟩ : ∃ y, getI rs t = some y := ⟨_, getI_eq t0 (by omega)⟩
          obtain ⟨o, hcur⟩ := hB.act t 3 hsv (by decide)
          obtain ⟨k', r', c1, c2, c3⟩ := cur_some hcur
          simp only at c1
          rw [hkv] at c1; cases c1
          rw [hrow] at c2; cases c2
          rw [hkv, hrv]
          simp only [Option.bind_some]
          have hll := hB.ll
          simp only at hll
          rw [app_eq (by simp; omega)]
          simp only [Option.bind_some]
          have hk100 : kv < 100 := by
            have := (getI_lt c3).2
            have := hfine.2.1 row (getI_mem hrow)
            omega
          rw [wI_id (by omega) (by omega)]
          exact hnext _ _ _ _ _ _ _ _ hi ha' (by rw [hi1]; exact hB.ret (by omega) hsv hkv hk100 hrow c3) ⟨_, by omega, hR.ret hsv hkv hrv hcur⟩
        · exact hnext _ _ _ _ _ _ _ _ hi ha' (hmono hi _ hB) ⟨_, by omega, hR⟩
    refine Ok.ite (fun h1 => ?_) fun h1 => hother (.inl h1)
    rw [hkv, hrow]
    simp only [Option.bind_some]
    by_cases h2 : kv < (row.length : Int)
    · rw [show dcd (kv < (row.length : Int)) = true by rw [dcd_tt]; exact h2]
      rcases hcall with h3 | h3
      · exact h3
      · exact absurd ⟨h1, h2⟩ h3
    · rw [show dcd (kv < (row.length : Int)) = false by rw [dcd_ff]; exact h2]
      exact hother (.inr h2)
  unfold M_law17_made_L1
  refine Ok.ite (fun h => ?_) fun h => hJ3 _ (by simp)
  rw [Left_eq]
  simp only [Option.bind_some]
  exact hJ3 _ fun _ => h
theorem MadeOk.ev {x : Config} {ops : List (List Op)} {l : List Event} (h : MadeOk x ops l) : (∀ e ∈ l, ∃ r o, getI ops e.thread = some r ∧ getI r e.op = some o) ∧ l.length ≤ 100 := by
  obtain ⟨s, n, _, _, _, hB, hn, rfl⟩ := h.run
  exact ⟨hB.ev, by have := hB.ll; omega⟩
end Go.Hx

namespace Go.Hx
open Go
set_option linter.unusedVariables false
set_option linter.unusedSimpArgs false
/-! ### places -/
theorem incS_len {p : List Int} {t : Int} : (incS p t).length = p.length := by
  unfold incS; split
  · rw [length_setI]
  · rfl
theorem incS_eq {p : List Int} {t n : Int} (h : getI p t = some n) : incS p t = setI p t (n + 1) := by unfold incS; rw [h]
theorem getI_incS {p : List Int} {t s n : Int} (h : getI p t = some n) : getI (incS p t) s = if s = t then some (n + 1) else getI p s := by
  rw [incS_eq h]; exact getI_set (getI_lt h).1 (getI_lt h).2
theorem Nxt.inj {T : Calls} {p : List Int} {t : Int} {a b : Linear_call} (h : Nxt T p t a) (h' : Nxt T p t b) : a = b := by
  obtain ⟨l, n, h1, h2, h3⟩ := h
  obtain ⟨l', n', g1, g2, g3⟩ := h'
  rw [h1] at g1; cases g1
  rw [h2] at g2; cases g2
  rw [h3] at g3; cases g3; rfl
theorem WfP.inc {T : Calls} {p : List Int} {t : Int} {a : Linear_call} (h : WfP T p) (hn : Nxt T p t a) : WfP T (incS p t) := by
  obtain ⟨l, n, h1, h2, h3⟩ := hn
  refine ⟨by rw [incS_len]; exact h.len, h.lt, fun s l' n' g1 g2 => ?_⟩
  rw [getI_incS h2] at g2
  split at g2
  · rename_i e; subst e
    cases g2
    rw [h1] at g1; cases g1
    have := h.each s l n h1 h2
    have := (getI_lt h3).2
    omega
  · exact h.each s l' n' g1 g2
def remS : Calls → List Int → Nat
  | l :: T, n :: p => (l.length - n.toNat) + remS T p
  | _, _ => 0
theorem rem_set : ∀ {T : Calls} {p : List Int} {i : Nat} {l : List Linear_call} {n : Int}, T[i]? = some l → p[i]? = some n → 0 ≤ n → n < (l.length : Int) → remS T (p.set i (n + 1)) + 1 = remS T p
  | [], _, _, _, _, h, _, _, _ => by simp at h
  | _ :: _, [], _, _, _, _, h, _, _ => by simp at h
  | l :: T, m :: p, 0, l', n, h1, h2, h0, h3 => by
    simp at h1 h2; subst h1 h2
    simp only [List.set_cons_zero, remS]
    omega
  | l :: T, m :: p, i + 1, l', n, h1, h2, h0, h3 => by
    have := rem_set (T := T) (p := p) (i := i) (by simpa using h1) (by simpa using h2) h0 h3
    simp only [List.set_cons_succ, remS]
    omega
theorem rem_inc {T : Calls} {p : List Int} {t : Int} {a : Linear_call} (h : Nxt T p t a) : remS T (incS p t) + 1 = remS T p := by
  obtain ⟨l, n, h1, h2, h3⟩ := h
  rw [incS_eq h2]
  exact rem_set (getI_ix h1).2.1 (getI_ix h2).2.1 (getI_lt h3).1 (getI_lt h3).2
/-! ### channels -/
def OpV (op : Op) : Prop := ∀ i x, caseOf op i = some x → W64 x.value
theorem setI_caps {C : List Chan} {i : Int} {c c' : Chan} (h : getI C i = some c) (hc : c'.capacity = c.capacity) : (setI C i c').map (·.capacity) = C.map (·.capacity) := by
  obtain ⟨_, h1, _⟩ := getI_ix h
  unfold setI
  rw [List.map_set, hc]
  have : (C.map (·.capacity))[i.toNat]? = some c.capacity := by rw [List.getElem?_map, h1]; rfl
  obtain ⟨h2, h3⟩ := List.getElem?_eq_some_iff.1 this
  exact List.ext_getElem (by simp) fun k hk hk' => by
    rw [List.getElem_set]
    split
    · rename_i e; subst e; exact h3.symm
    · rfl
theorem setI_W {caps : List Int} {C : List Chan} {i : Int} {c c' : Chan} (h : ChW caps C) (hi : getI C i = some c) (hc : c'.capacity = c.capacity) (ho : ChansOk (setI C i c')) (hv : ∀ v ∈ c'.buffer, W64 v) : ChW caps (setI C i c') := by
  refine ⟨ho, by rw [setI_caps hi hc]; exact h.caps, fun d hd v hv' => ?_⟩
  rcases mem_setI hd with rfl | hd
  · exact hv v hv'
  · exact h.val d hd v hv'
theorem mdoS_W {caps : List Int} {C : List Chan} {x : Case} {r : Result} (h : ChW caps C) (hx : W64 x.value) (ha : (mdoS C x r).2 = true) (ho : ChansOk (mdoS C x r).1) : ChW caps (mdoS C x r).1 := by
  revert ha ho
  unfold mdoS
  cases hi : getI C x.channel with
  | none => intro ha; cases ha
  | some c =>
    have hcv := h.val c (getI_mem hi)
    simp only
    split
    · split
      · intro _ ho
        refine setI_W h hi rfl ho fun v hv => ?_
        rcases List.mem_append.1 hv with hv | hv
        · exact hcv v hv
        · rw [List.mem_singleton] at hv; subst hv; exact hx
      · intro ha; cases ha
    · split
      · split
        · intro _ _; exact h
        · intro ha; cases ha
      · split
        · split
          · intro ha; cases ha
          · split
            · split
              · intro _ ho
                exact setI_W h hi rfl ho fun v hv => hcv v (List.mem_of_mem_drop hv)
              · intro ha; cases ha
            · split
              · intro _ _; exact h
              · intro ha; cases ha
        · intro ha; cases ha
theorem applyS_W {caps : List Int} {C : List Chan} {op : Op} {r : Result} (h : ChW caps C) (hv : OpV op) (ha : (applyS C op r).2 = true) : ChW caps (applyS C op r).1 := by
  have ho := (applyS_ok h.ok ha).1
  revert ha ho
  unfold applyS
  split
  · split
    · intro ha; cases ha
    · rename_i x hx
      intro ha ho
      exact mdoS_W h (hv _ _ hx) ha ho
  · split
    · split
      · intro _ _; exact h
      · intro ha; cases ha
    · split
      · split
        · cases hi : getI C op.channel with
          | none => intro ha; cases ha
          | some c => intro _ ho; exact setI_W h hi rfl ho (h.val c (getI_mem hi))
        · intro ha; cases ha
      · split
        · split
          · intro _ _; exact h
          · intro ha; cases ha
        · split
          · split
            · intro _ _; exact h
            · intro ha; cases ha
          · split
            · split
              · intro _ _; exact h
              · intro ha; cases ha
            · intro ha; cases ha
/-! ### the search -/
def CallsOk (T : Calls) : Prop := ∀ l ∈ T, ∀ a ∈ l, OpM a.op ∧ OpV a.op
theorem Nxt.ok {T : Calls} (h : CallsOk T) {p : List Int} {t : Int} {a : Linear_call} (hn : Nxt T p t a) : OpM a.op ∧ OpV a.op := by
  obtain ⟨l, n, h1, h2, h3⟩ := hn
  exact h l (getI_mem h1) a (getI_mem h3)
def Sound (T : Calls) (op : Bool) (acc : List Chan → Prop) (caps : List Int) (f : ByteArray → Option Bool) : Prop := ∀ p C, WfP T p → ChW caps C → lookD f (descB p C) false = true → ∀ ds, ¬ Way T op acc p C ds
structure RunS (T : Calls) (op : Bool) (acc : List Chan → Prop) (caps : List Int) (p : List Int) (C : List Chan) (order : List Done) (r : Bool × List Done × (ByteArray → Option Bool)) : Prop where
  sound : Sound T op acc caps r.2.2
  yes : r.1 = true → ∃ ds, Way T op acc p C ds ∧ r.2.1 = order ++ ds
  no : r.1 = false → (∀ ds, ¬ Way T op acc p C ds) ∧ r.2.1 = order
theorem place_ok {P : Bool × List Done × (ByteArray → Option Bool) → Prop} {rc : Calls → Bool → (ByteArray → Option Bool) → List Done → List Int → List Chan → Option (Bool × List Done × (ByteArray → Option Bool))} {T : Calls} {op : Bool} {f : ByteArray → Option Bool} {order ds : List Done} {p : List Int} {C : List Chan}
    (hds : ∀ d ∈ ds, 0 ≤ d.thread ∧ d.thread < (p.length : Int)) (hp : ∀ n ∈ p, 0 ≤ n ∧ n ≤ 1000000) (hl : ds.length ≤ 2) (hpl : p.length ≤ 1000) (h : Ok (M_linear_search_place_J1 C ds T op order f rc (ds.foldl (fun p d => incS p d.thread) p)) P) :
    Ok (M_linear_search_place rc T op f order p C ds) P := by
  unfold M_linear_search_place
  refine Ok.bindEq (b := p) (by unfold M_slices_Clone_int_int; rw [app_eq (by simp; omega)]; rfl) ?_
  refine lp2_ok (fun _ i => ((ds.length : Int) - i).toNat) (fun l i => 0 ≤ i ∧ i ≤ (ds.length : Int) ∧ l.length = p.length ∧ (∀ n ∈ l, 0 ≤ n ∧ n ≤ 1000000 + i) ∧ (ds.drop i.toNat).foldl (fun p d => incS p d.thread) l = ds.foldl (fun p d => incS p d.thread) p) (fun _ _ => P) ?_ BIG p 0 ⟨by omega, by omega, rfl, fun n hn => by have := hp n hn; omega, by simp⟩ (lt_BIG (by omega))
  intro l i k ⟨i0, i1, g1, g2, g3⟩ hk
  unfold M_linear_search_place_L1
  refine Ok.ite (fun hi => ?_) fun hi => ?_
  · obtain ⟨d, hd⟩ : ∃ d, getI ds i = some d := ⟨_, getI_eq i0 hi⟩
    obtain ⟨d0, d1⟩ := hds d (getI_mem hd)
    obtain ⟨n, hn⟩ : ∃ n, getI l d.thread = some n := ⟨_, getI_eq d0 (by omega)⟩
    have := g2 n (getI_mem hn)
    refine Ok.bindEq hd ?_
    refine Ok.bindEq hn ?_
    refine Ok.bindEq hn ?_
    rw [wI_id (x := n + 1) (by omega) (by omega), wI_id (by omega) (by omega)]
    refine hk _ _ ⟨by omega, by omega, by rw [length_setI]; exact g1, fun m hm => ?_, ?_⟩ (by omega)
    · rcases mem_setI hm with rfl | hm
      · omega
      · have := g2 m hm; omega
    · rw [← g3, drop_getI hd, List.foldl_cons, incS_eq hn]
  · rw [List.drop_eq_nil_of_le (by omega)] at g3
    simp only [List.foldl_nil] at g3
    rw [g3]; exact h
section
variable {T : Calls} {op : Bool} {acc : List Chan → Prop} {caps : List Int} {p : List Int} {C : List Chan}
def DeadOne (T : Calls) (op : Bool) (acc : List Chan → Prop) (p : List Int) (C : List Chan) (t : Int) : Prop := ∀ a r ds, Cand T op p t a → r ∈ resS a C → (applyS C a.op r).2 = true → ¬ Way T op acc (incS p t) (applyS C a.op r).1 ds
def DeadTwo (T : Calls) (op : Bool) (acc : List Chan → Prop) (p : List Int) (C : List Chan) (t u : Int) : Prop := ∀ a b x y ds, Cand T op p t a → Cand T op p u b → u ≠ t → pairS C a.op x b.op y = true → fitsS a x → fitsS b y → ¬ Way T op acc (incS (incS p t) u) C ds
theorem noway (hs : (∃ c, unpl T p c ∧ 0 ≤ c.coming) ∨ ¬ acc C) (h : ∀ t, DeadOne T op acc p C t ∧ ∀ u, DeadTwo T op acc p C t u) : ∀ ds, ¬ Way T op acc p C ds := by
  intro ds hw
  cases hw with
  | stop h1 ha =>
    rcases hs with ⟨c, c1, c2⟩ | hs
    · have := h1 c c1; omega
    · exact hs ha
  | one h1 hr ha hw => exact (h _).1 _ _ _ h1 hr ha hw
  | two h1 h2 hne hp hx hy hw => exact (h _).2 _ _ _ _ _ _ h1 h2 hne hp hx hy hw
theorem Cand.rng {t : Int} {a : Linear_call} (h : Cand T op p t a) : 0 ≤ t ∧ t < (T.length : Int) := by
  obtain ⟨l, n, h1, _⟩ := h.nxt
  exact getI_lt h1
theorem Cand.rngp {t : Int} {a : Linear_call} (h : Cand T op p t a) : 0 ≤ t ∧ t < (p.length : Int) := by
  obtain ⟨l, n, _, h1, _⟩ := h.nxt
  exact getI_lt h1
theorem Sound.put {f : ByteArray → Option Bool} (h : Sound T op acc caps f) (hp : WfP T p) (hC : ChW caps C) (hn : ∀ ds, ¬ Way T op acc p C ds) : Sound T op acc caps (upd f (descB p C) true) := by
  intro q D hq hD hl
  unfold lookD upd at hl
  by_cases e : descB q D = descB p C
  · obtain ⟨e1, e2⟩ := descB_inj (by rw [hq.len, hp.len]) hD hC e
    subst e1 e2; exact hn
  · rw [if_neg e] at hl
    exact h q D hq hD hl
theorem two_rem {t u : Int} {a b : Linear_call} (h : Nxt T p t a) (h' : Nxt T p u b) (hne : u ≠ t) : Nxt T (incS p t) u b := by
  obtain ⟨l, n, h1, h2, h3⟩ := h
  obtain ⟨l', n', g1, g2, g3⟩ := h'
  exact ⟨l', n', g1, by rw [getI_incS h2, if_neg hne]; exact g2, g3⟩
theorem WfP.nums (h : WfP T p) : (∀ n ∈ p, 0 ≤ n ∧ n ≤ 1000) ∧ p.length ≤ 1000 := by
  refine ⟨fun n hn => ?_, by rw [h.len]; exact h.lt⟩
  obtain ⟨i, hi⟩ := List.mem_iff_getElem?.1 hn
  have hi2 := (List.getElem?_eq_some_iff.1 hi).1
  rw [h.len] at hi2
  obtain ⟨l, hl⟩ : ∃ l, getI T (i : Int) = some l := ⟨_, getI_eq (by omega) (by omega)⟩
  have := h.each i l n hl (by rw [getI_nat]; exact hi)
  omega
end
theorem run_ok {T : Calls} {op : Bool} {caps : List Int} (hT : CallsOk T) (hcaps : caps.length ≤ 10) : ∀ (fu : Nat) (p : List Int) (C : List Chan) (f : ByteArray → Option Bool) (order : List Done), WfP T p → ChW caps C → Sound T op (fun _ => True) caps f → remS T p < fu → order.length + remS T p ≤ 1000 → Ok (M_linear_search_run fu T op f order p C) fun r => RunS T op (fun _ => True) caps p C order r
  | 0, _, _, _, _, _, _, _, h, _ => by omega
  | fu + 1, p, C, f, order, hp, hC, hf, hfu, hord => by
    have hpn := hp.nums
    have hpn1 : ∀ n ∈ p, 0 ≤ n ∧ n ≤ 1000000 := fun n hn => by have := hpn.1 n hn; omega
    have hTl := hp.lt
    have ih := fun p C f order => run_ok (op := op) hT hcaps fu p C f order
    show Ok (M_linear_search_run_B (M_linear_search_run fu) T op f order p C) _
    generalize hrc : M_linear_search_run fu = rc at *
    unfold M_linear_search_run_B
    refine Ok.bd2 (limit_ok hp) fun least any hL => ?_
    simp only at hL
    refine Ok.ite (fun hany => ?_) fun hany => ?_
    rotate_left
    · rcases hL with ⟨_, h2⟩ | ⟨h1, _⟩
      · exact Ok.some ⟨hf, fun _ => ⟨[], .stop h2 trivial, by simp⟩, fun h => by cases h⟩
      · exact absurd h1 hany
    subst hany
    have hex : ∃ c, unpl T p c ∧ 0 ≤ c.coming := by
      rcases hL with ⟨h1, _⟩ | ⟨_, ⟨c, c1, c2, _⟩, _⟩
      · cases h1
      · exact ⟨c, c1, c2⟩
    refine Ok.bindEq (describe_eq (by omega) hpn1 hC hcaps) ?_
    refine Ok.ite (fun hk => Ok.some ⟨hf, fun h => (by cases h), fun _ => ⟨hf p C hp hC hk, rfl⟩⟩) fun _ => ?_
    -- the loop over the first thread
    refine lp3_ok (fun i _ _ => ((T.length : Int) - i).toNat) (fun i m l => 0 ≤ i ∧ i ≤ (T.length : Int) ∧ Sound T op (fun _ => True) caps m ∧ l = order ∧ ∀ t, t < i → DeadOne T op (fun _ => True) p C t ∧ ∀ u, DeadTwo T op (fun _ => True) p C t u) (fun _ _ _ r => RunS T op (fun _ => True) caps p C order r) ?_ BIG 0 f order ⟨by omega, by omega, hf, rfl, fun t ht => ⟨fun a r ds h => by have := h.rng.1; omega, fun u a b x y ds h => by have := h.rng.1; omega⟩⟩ (lt_BIG (by omega))
    intro i m l k ⟨i0, i1, hm, hl, hd⟩ hk
    subst hl
    unfold M_linear_search_run_L1
    refine Ok.ite (fun hi => ?_) fun hi => ?_
    rotate_left
    · unfold M_linear_search_run_J1
      have hno := noway (.inl hex) fun t => by
        by_cases ht : t < i
        · exact hd t ht
        · exact ⟨fun a r ds h => by have := h.rng.2; omega, fun u a b x y ds h => by have := h.rng.2; omega⟩
      exact Ok.some ⟨hm.put hp hC hno, fun h => (by cases h), fun _ => ⟨hno, rfl⟩⟩
    have hJ2 : ∀ m', Sound T op (fun _ => True) caps m' → (DeadOne T op (fun _ => True) p C i ∧ ∀ u, DeadTwo T op (fun _ => True) p C i u) → Ok (M_linear_search_run_J2 p C least (descB p C) T i op k rc m' l) fun r => RunS T op (fun _ => True) caps p C l r := fun m' h1 h2 => by
      unfold M_linear_search_run_J2
      rw [wI_id (by omega) (by omega)]
      refine hk _ _ _ ⟨by omega, by omega, h1, rfl, fun t ht => ?_⟩ (by omega)
      by_cases e : t = i
      · subst e; exact h2
      · exact hd t (by omega)
    refine Ok.bd2 (cand_ok hp i0 hi hL) fun a b ⟨hb1, hb2⟩ => ?_
    simp only at hb1 hb2
    refine Ok.ite (fun hb => ?_) fun hb => ?_
    rotate_left
    · have hno := hb2 (by simpa using hb)
      exact hJ2 m hm ⟨fun a r ds h => absurd h (hno a), fun u a b x y ds h => absurd h (hno a)⟩
    have hca := hb1 hb
    obtain ⟨hao, hav⟩ := hca.nxt.ok hT
    refine Ok.bindEq (lres_eq hC.ok hao) ?_
    have hrl : (resS a C).length ≤ 2002 := by
      unfold resS; split
      · simp
      · exact couldS_le hao
    refine lp3_ok (fun j _ _ => (((resS a C).length : Int) - j).toNat) (fun j m l' => 0 ≤ j ∧ j ≤ ((resS a C).length : Int) ∧ Sound T op (fun _ => True) caps m ∧ l' = l ∧ ∀ r ∈ (resS a C).take j.toNat, (applyS C a.op r).2 = true → ∀ ds, ¬ Way T op (fun _ => True) (incS p i) (applyS C a.op r).1 ds) (fun _ _ _ r => RunS T op (fun _ => True) caps p C l r) ?_ BIG 0 m l ⟨by omega, by omega, hm, rfl, by simp⟩ (lt_BIG (by omega))
    intro j m l' k2 ⟨j0, j1, hm, hl', hdj⟩ hk2
    subst hl'
    unfold M_linear_search_run_L2
    refine Ok.ite (fun hj => ?_) fun hj => ?_
    · obtain ⟨r, hr⟩ : ∃ r, getI (resS a C) j = some r := ⟨_, getI_eq j0 hj⟩
      have hrm := getI_mem hr
      refine Ok.bindEq hr ?_
      refine Ok.bd2 (Q := fun x => x = applyS C a.op r) ⟨_, model_Apply_eq hC.ok hao, rfl⟩ fun C' ok' hC' => ?_
      have e1 : (applyS C a.op r).1 = C' := by rw [← hC']
      have e2 : (applyS C a.op r).2 = ok' := by rw [← hC']
      have hJ4 : ∀ (b : Bool) m' , Sound T op (fun _ => True) caps m' → ((applyS C a.op r).2 = true → ∀ ds, ¬ Way T op (fun _ => True) (incS p i) (applyS C a.op r).1 ds) → Ok (M_linear_search_run_J4 p C least (descB p C) i T (resS a C) j op a k k2 rc false m' l') fun r => RunS T op (fun _ => True) caps p C l' r := by
        intro b m' h1 h2
        unfold M_linear_search_run_J4
        rw [if_neg (by decide), wI_id (by omega) (by omega)]
        refine hk2 _ _ _ ⟨by omega, by omega, h1, rfl, fun r' hr' => ?_⟩ (by omega)
        rw [show (j + 1).toNat = j.toNat + 1 by omega] at hr'
        rcases (mem_take_succ (getI_ix hr).2.1).1 hr' with hr' | rfl
        · exact hdj r' hr'
        · exact h2
      refine Ok.ite (fun hok => ?_) fun hok => ?_
      rotate_left
      · exact hJ4 true m hm fun h => absurd (by rw [← e2]; exact h) hok
      have hap : (applyS C a.op r).2 = true := by rw [e2]; exact hok
      have hCW := applyS_W hC hav hap
      rw [e1] at hCW
      have hre := rem_inc hca.nxt
      refine Ok.bd3 (Q := fun q => Sound T op (fun _ => True) caps q.2.2 ∧ (q.1 = true → ∃ ds, Way T op (fun _ => True) (incS p i) C' ds ∧ q.2.1 = l' ++ [Done.mk i r] ++ ds) ∧ (q.1 = false → (∀ ds, ¬ Way T op (fun _ => True) (incS p i) C' ds) ∧ q.2.1 = l')) ?_ fun b l2 m2 ⟨q1, q2, q3⟩ => ?_
      · refine place_ok (fun d hd => ?_) hpn1 (by simp) (by omega) ?_
        · rw [List.mem_singleton] at hd; subst hd; exact hca.rngp
        · unfold M_linear_search_place_J1
          refine Ok.bindEq (app_eq (by simp; omega)) ?_
          simp only [List.foldl_cons, List.foldl_nil]
          refine Ok.bd3 (ih _ _ _ _ (hp.inc hca.nxt) hCW hm (by omega) (by simp; omega)) fun b l2 m2 hR => ?_
          have hs := hR.sound
          have hy := hR.yes
          have hn := hR.no
          simp only at hs hy hn
          refine Ok.ite (fun hb => Ok.some ⟨hs, fun _ => hy hb, fun h => by cases h⟩) fun hb => ?_
          obtain ⟨h1, h2⟩ := hn (by simpa using hb)
          refine Ok.bindEq (cutI_eq (by omega) (by omega) (by rw [h2]; simp; omega)) ?_
          refine Ok.some ⟨hs, fun h => (by cases h), fun _ => ⟨h1, ?_⟩⟩
          rw [h2]; simp
      · simp only at q1 q2 q3
        by_cases hb : b = true
        · subst hb
          unfold M_linear_search_run_J4
          rw [if_pos rfl]
          obtain ⟨ds, d1, d2⟩ := q2 rfl
          refine Ok.some ⟨q1, fun _ => ⟨Done.mk i r :: ds, ?_, by simpa using d2⟩, fun h => by cases h⟩
          exact .one hca hrm hap (by rw [e1]; exact d1)
        · obtain ⟨h1, h2⟩ := q3 (by simpa using hb)
          have hb : b = false := by simpa using hb
          subst hb h2
          exact hJ4 true m2 q1 fun _ => by rw [e1]; exact h1
    · -- the second thread
      unfold M_linear_search_run_J3
      have hdead : DeadOne T op (fun _ => True) p C i := fun a' r ds h hr ha => by
        have := h.nxt.inj hca.nxt
        subst this
        exact hdj r (by rw [List.take_of_length_le (by omega)]; exact hr) ha ds
      refine lp3_ok (fun u _ _ => ((T.length : Int) - u).toNat) (fun u m l2 => 0 ≤ u ∧ u ≤ (T.length : Int) ∧ Sound T op (fun _ => True) caps m ∧ l2 = l' ∧ ∀ v, v < u → DeadTwo T op (fun _ => True) p C i v) (fun _ _ _ r => RunS T op (fun _ => True) caps p C l' r) ?_ BIG 0 m l' ⟨by omega, by omega, hm, rfl, fun v hv a b x y ds _ h => by have := h.rng.1; omega⟩ (lt_BIG (by omega))
      intro u m l2 k3 ⟨u0, u1, hm, hl2, hdu⟩ hk3
      subst hl2
      unfold M_linear_search_run_L3
      refine Ok.ite (fun hu => ?_) fun hu => ?_
      rotate_left
      · refine hJ2 m hm ⟨hdead, fun v => ?_⟩
        by_cases hv : v < u
        · exact hdu v hv
        · exact fun a b x y ds _ h => by have := h.rng.2; omega
      have hJ5 : ∀ m', Sound T op (fun _ => True) caps m' → DeadTwo T op (fun _ => True) p C i u → Ok (M_linear_search_run_J5 p C least (descB p C) i T u op a k k3 rc m' l2) fun r => RunS T op (fun _ => True) caps p C l2 r := fun m' h1 h2 => by
        unfold M_linear_search_run_J5
        rw [wI_id (by omega) (by omega)]
        refine hk3 _ _ _ ⟨by omega, by omega, h1, rfl, fun v hv => ?_⟩ (by omega)
        by_cases e : v = u
        · subst e; exact h2
        · exact hdu v (by omega)
      refine Ok.bd2 (cand_ok hp u0 hu hL) fun c b2 ⟨hc1, hc2⟩ => ?_
      simp only at hc1 hc2
      have hskip : DeadTwo T op (fun _ => True) p C i u → Ok (M_linear_search_run_J6 p C least (descB p C) i u T op l2 c a m k k3 rc true) fun r => RunS T op (fun _ => True) caps p C l2 r := fun h => by
        unfold M_linear_search_run_J6
        rw [if_pos rfl]
        exact hJ5 m hm h
      refine Ok.ite (fun hb2 => ?_) fun hb2 => ?_
      rotate_left
      · have hno := hc2 (by simpa using hb2)
        exact hskip fun a b x y ds _ h => absurd h (hno b)
      have hcc := hc1 hb2
      by_cases hui : u = i
      · rw [show dcd (u = i) = true from dcd_tt.2 hui]
        exact hskip fun a b x y ds _ _ h => absurd hui h
      rw [show dcd (u = i) = false from dcd_ff.2 hui]
      obtain ⟨hco, hcv⟩ := hcc.nxt.ok hT
      unfold M_linear_search_run_J6
      rw [if_neg (by decide)]
      refine Ok.bind (meetings_ok hao hco) fun ms ⟨hml, hms⟩ => ?_
      have hre := rem_inc hca.nxt
      have hre2 := rem_inc (two_rem hca.nxt hcc.nxt hui)
      refine lp3_ok (fun q _ _ => ((ms.length : Int) - q).toNat) (fun q m l3 => 0 ≤ q ∧ q ≤ (ms.length : Int) ∧ Sound T op (fun _ => True) caps m ∧ l3 = l2 ∧ (0 < q → ∀ ds, ¬ Way T op (fun _ => True) (incS (incS p i) u) C ds)) (fun _ _ _ r => RunS T op (fun _ => True) caps p C l2 r) ?_ BIG 0 m l2 ⟨by omega, by omega, hm, rfl, fun h => by omega⟩ (lt_BIG (by omega))
      intro q m l3 k4 ⟨g0, g1, hm, hl3, hdq⟩ hk4
      subst hl3
      unfold M_linear_search_run_L4
      refine Ok.ite (fun hq => ?_) fun hq => ?_
      rotate_left
      · refine hJ5 m hm fun a' b' x y ds h1 h2 hne hpq hx hy hw => ?_
        have e3 := h1.nxt.inj hca.nxt
        have e4 := h2.nxt.inj hcc.nxt
        subst e3 e4
        have : A2Result.mk x y ∈ ms := (hms _).2 ⟨hpq, hx, hy⟩
        have := List.length_pos_of_mem this
        exact hdq (by omega) ds hw
      obtain ⟨z, hz⟩ : ∃ z, getI ms q = some z := ⟨_, getI_eq g0 hq⟩
      obtain ⟨z1, z2, z3⟩ := (hms z).1 (getI_mem hz)
      refine Ok.bindEq hz ?_
      refine Ok.bd3 (Q := fun w => Sound T op (fun _ => True) caps w.2.2 ∧ (w.1 = true → ∃ ds, Way T op (fun _ => True) (incS (incS p i) u) C ds ∧ w.2.1 = l3 ++ [Done.mk i z.x0, Done.mk u z.x1] ++ ds) ∧ (w.1 = false → (∀ ds, ¬ Way T op (fun _ => True) (incS (incS p i) u) C ds) ∧ w.2.1 = l3)) ?_ fun b l4 m4 ⟨q1, q2, q3⟩ => ?_
      · refine place_ok (fun d hd => ?_) hpn1 (by simp) (by omega) ?_
        · simp only [List.mem_cons, List.not_mem_nil, or_false] at hd
          rcases hd with rfl | rfl
          · exact hca.rngp
          · exact hcc.rngp
        · unfold M_linear_search_place_J1
          refine Ok.bindEq (app_eq (by simp; omega)) ?_
          simp only [List.foldl_cons, List.foldl_nil]
          refine Ok.bd3 (ih _ _ _ _ ((hp.inc hca.nxt).inc (two_rem hca.nxt hcc.nxt hui)) hC hm (by omega) (by simp; omega)) fun b l5 m5 hR => ?_
          have hs := hR.sound
          have hy := hR.yes
          have hn := hR.no
          simp only at hs hy hn
          refine Ok.ite (fun hb => Ok.some ⟨hs, fun _ => hy hb, fun h => by cases h⟩) fun hb => ?_
          obtain ⟨h1, h2⟩ := hn (by simpa using hb)
          refine Ok.bindEq (cutI_eq (by omega) (by omega) (by rw [h2]; simp; omega)) ?_
          refine Ok.some ⟨hs, fun h => (by cases h), fun _ => ⟨h1, ?_⟩⟩
          rw [h2]; simp
      · simp only at q1 q2 q3
        refine Ok.ite (fun hb => ?_) fun hb => ?_
        · obtain ⟨ds, d1, d2⟩ := q2 hb
          refine Ok.some ⟨q1, fun _ => ⟨Done.mk i z.x0 :: Done.mk u z.x1 :: ds, ?_, by simpa using d2⟩, fun h => by cases h⟩
          exact .two hca hcc hui z1 z2 z3 d1
        · obtain ⟨h1, h2⟩ := q3 (by simpa using hb)
          rw [wI_id (by omega) (by omega)]
          exact hk4 _ _ _ ⟨by omega, by omega, q1, h2, fun _ => h1⟩ (by omega)
end Go.Hx

namespace Go.Hx
open Go
set_option linter.unusedVariables false
set_option linter.unusedSimpArgs false
def callE (o : Op) (l : List Event) (t k : Int) : Linear_call := Linear_call.mk o (retE l t k).1 (findS l t k false) (findS l t k true)
/-- The calls of a thread from one on. -/
def rowS (l : List Event) (t : Int) : List Op → Int → List Linear_call
  | [], _ => []
  | o :: row, k => if findS l t k false < 0 then [] else callE o l t k :: rowS l t row (k + 1)
def threadsS (ops : List (List Op)) (l : List Event) : Calls := ops.mapIdx fun t r => rowS l (t : Int) r 0
section
variable {l : List Event} {t k : Int} {o : Op} {row : List Op} {ops : List (List Op)}
theorem rowS_stop (h : findS l t k false < 0) : rowS l t row k = [] := by
  cases row with
  | nil => rfl
  | cons o row => simp only [rowS]; rw [if_pos h]
theorem rowS_next (h : ¬ findS l t k false < 0) : rowS l t (o :: row) k = callE o l t k :: rowS l t row (k + 1) := by
  simp only [rowS]; rw [if_neg h]
theorem rowS_len (l : List Event) (t : Int) : ∀ (row : List Op) (k : Int), (rowS l t row k).length ≤ row.length
  | [], _ => Nat.le_refl _
  | o :: row, k => by
    simp only [rowS]
    split
    · simp
    · have := rowS_len l t row (k + 1)
      simp; omega
theorem rowS_mem (l : List Event) (t : Int) : ∀ (row : List Op) (k : Int) a, a ∈ rowS l t row k → ∃ o ∈ row, ∃ j, k ≤ j ∧ 0 ≤ findS l t j false ∧ a = callE o l t j
  | [], _, a, h => by cases h
  | o :: row, k, a, h => by
    simp only [rowS] at h
    split at h
    · cases h
    · rcases List.mem_cons.1 h with rfl | h
      · exact ⟨o, .head _, k, by omega, by omega, rfl⟩
      · obtain ⟨o', h1, j, h2, h3⟩ := rowS_mem l t row (k + 1) a h
        exact ⟨o', .tail _ h1, j, by omega, h3⟩
/-- The calls of a thread, by their numbers. -/
theorem rowS_get (l : List Event) (t : Int) : ∀ (row : List Op) (k : Int) (n : Nat) (a : Linear_call), (rowS l t row k)[n]? = some a ↔ ∃ o, row[n]? = some o ∧ a = callE o l t (k + n) ∧ ∀ j : Nat, j ≤ n → 0 ≤ findS l t (k + j) false
  | [], k, n, a => by simp [rowS]
  | o :: row, k, 0, a => by
    simp only [rowS]
    by_cases h : findS l t k false < 0
    · rw [if_pos h]
      simp only [List.getElem?_nil]
      constructor
      · intro h; cases h
      · rintro ⟨_, _, _, h3⟩
        have := h3 0 (by omega)
        simp at this; omega
    · rw [if_neg h]
      simp only [List.getElem?_cons_zero, Option.some.injEq]
      constructor
      · rintro rfl
        exact ⟨o, rfl, by simp, fun j hj => by have : j = 0 := by omega
                                               subst this; simp; omega⟩
      · rintro ⟨_, rfl, h2, _⟩
        rw [h2]; simp
  | o :: row, k, n + 1, a => by
    simp only [rowS]
    by_cases h : findS l t k false < 0
    · rw [if_pos h]
      simp only [List.getElem?_nil]
      constructor
      · intro h; cases h
      · rintro ⟨_, _, _, h3⟩
        have := h3 0 (by omega)
        simp at this; omega
    · rw [if_neg h]
      simp only [List.getElem?_cons_succ]
      rw [rowS_get l t row (k + 1) n a]
      constructor
      · rintro ⟨o', h1, h2, h3⟩
        refine ⟨o', h1, by rw [h2]; congr 1; omega, fun j hj => ?_⟩
        by_cases e : j = 0
        · subst e; simp; omega
        · have := h3 (j - 1) (by omega)
          rw [show k + (j : Int) = k + 1 + ((j - 1 : Nat) : Int) by omega]; exact this
      · rintro ⟨o', h1, h2, h3⟩
        refine ⟨o', h1, by rw [h2]; congr 1; omega, fun j hj => ?_⟩
        have := h3 (j + 1) (by omega)
        rw [show k + 1 + (j : Int) = k + ((j + 1 : Nat) : Int) by omega]; exact this
theorem threadsS_len : (threadsS ops l).length = ops.length := by unfold threadsS; rw [List.length_mapIdx]
theorem threadsS_get (n : Nat) : (threadsS ops l)[n]? = (ops[n]?).map fun r => rowS l (n : Int) r 0 := by unfold threadsS; rw [List.getElem?_mapIdx]
theorem threadsS_row {r : List Op} (h : getI ops t = some r) : getI (threadsS ops l) t = some (rowS l t r 0) := by
  obtain ⟨h0, h1, _⟩ := getI_ix h
  rw [show t = ((t.toNat : Nat) : Int) by omega, getI_nat, threadsS_get, h1]; rfl
theorem threadsS_mem {r : List Linear_call} (h : r ∈ threadsS ops l) : ∃ t row, getI ops t = some row ∧ r = rowS l t row 0 := by
  obtain ⟨n, hn⟩ := List.mem_iff_getElem?.1 h
  rw [threadsS_get] at hn
  cases ho : ops[n]? with
  | none => rw [ho] at hn; cases hn
  | some row => rw [ho] at hn; cases hn; exact ⟨(n : Int), row, by rw [getI_nat]; exact ho, rfl⟩
end
theorem setI_id {α : Type} {l : List α} {i : Int} {a : α} (h : getI l i = some a) : setI l i a = l := by
  obtain ⟨h0, h1, _⟩ := getI_ix h
  obtain ⟨h2, h3⟩ := List.getElem?_eq_some_iff.1 h1
  unfold setI
  rw [← h3, List.set_getElem_self]
theorem setI_two {α : Type} (l : List α) (i : Int) (a b : α) : setI (setI l i a) i b = setI l i b := by
  unfold setI; rw [List.set_set]
theorem begin_ok {ops : List (List Op)} {l : List Event} (hl : l.length ≤ 100000) (ho : ops.length ≤ 1000) (hr : ∀ r ∈ ops, r.length ≤ 1000) : M_linear_begin ops l = some (threadsS ops l, false, mEmpty ByteArray Bool) := by
  refine Ok.eq ?_
  unfold M_linear_begin
  refine Ok.bindEq (mkl_eq (by omega) (by omega)) ?_
  have hfin : ∀ T : Calls, T.length = ops.length → (∀ t r, getI ops t = some r → getI T t = some (rowS l t r 0)) → T = threadsS ops l := fun T h1 h2 => by
    refine List.ext_getElem? fun n => ?_
    rw [threadsS_get]
    cases hn : ops[n]? with
    | none =>
      have hn := List.getElem?_eq_none_iff.1 hn
      rw [List.getElem?_eq_none (by rw [h1]; exact hn)]; rfl
    | some r =>
      have := h2 (n : Int) r (by rw [getI_nat]; exact hn)
      rw [getI_nat] at this
      rw [this]; rfl
  refine lp2_ok (fun i _ => ((ops.length : Int) - i).toNat) (fun i T => 0 ≤ i ∧ i ≤ (ops.length : Int) ∧ T.length = ops.length ∧ (∀ t r, t < i → getI ops t = some r → getI T t = some (rowS l t r 0)) ∧ ∀ t, i ≤ t → t < (ops.length : Int) → getI T t = some []) (fun _ _ r => r = (threadsS ops l, false, mEmpty ByteArray Bool)) ?_ BIG 0 (List.replicate ((ops.length : Int)).toNat []) ⟨by omega, by omega, by simp, fun t r h h2 => by have := (getI_lt h2).1; omega, fun t h0 h1 => ?_⟩ (lt_BIG (by omega))
  rotate_left
  · obtain ⟨x, hx⟩ : ∃ x, getI (List.replicate ((ops.length : Int)).toNat ([] : List Linear_call)) t = some x := ⟨_, getI_eq h0 (by rw [List.length_replicate]; omega)⟩
    rw [hx, (List.mem_replicate.1 (getI_mem hx)).2]
  intro i T k ⟨i0, i1, hT, hA, hB⟩ hk
  unfold M_linear_begin_L1
  refine Ok.ite (fun hi => ?_) fun hi => ?_
  rotate_left
  · unfold M_linear_begin_J1
    refine Ok.some ?_
    rw [hfin T hT fun t r htr => hA t r (by have := (getI_lt htr).2; omega) htr]
  obtain ⟨row, hrow⟩ : ∃ r, getI ops i = some r := ⟨_, getI_eq i0 hi⟩
  have hrl := hr row (getI_mem hrow)
  have hTi := hB i (by omega) hi
  have hJ2 : ∀ c, c = rowS l i row 0 → Ok (M_linear_begin_J2 ops l i k (setI T i c)) fun r => r = (threadsS ops l, false, mEmpty ByteArray Bool) := fun c hc => by
    unfold M_linear_begin_J2
    rw [wI_id (by omega) (by omega)]
    refine hk _ _ ⟨by omega, by omega, by rw [length_setI]; exact hT, fun t r ht htr => ?_, fun t ht0 ht1 => ?_⟩ (by omega)
    · rw [getI_setI i0 (by omega)]
      by_cases e : t = i
      · subst e; rw [if_pos rfl, hc]; rw [hrow] at htr; cases htr; rfl
      · rw [if_neg e]; exact hA t r (by omega) htr
    · rw [getI_setI i0 (by omega), if_neg (by omega)]; exact hB t (by omega) ht1
  refine Ok.bindEq hrow ?_
  refine lp2_ok (fun j _ => ((row.length : Int) - j).toNat) (fun j T' => 0 ≤ j ∧ j ≤ (row.length : Int) ∧ ∃ c, T' = setI T i c ∧ (c.length : Int) = j ∧ rowS l i row 0 = c ++ rowS l i (row.drop j.toNat) j) (fun _ _ r => r = (threadsS ops l, false, mEmpty ByteArray Bool)) ?_ BIG 0 T ⟨by omega, by omega, [], (setI_id hTi).symm, by simp, by simp⟩ (lt_BIG (by omega))
  intro j T' k2 ⟨j0, j1, c, hc1, hc2, hc3⟩ hk2
  subst hc1
  unfold M_linear_begin_L2
  refine Ok.ite (fun hj => ?_) fun hj => ?_
  rotate_left
  · refine hJ2 c ?_
    rw [hc3, List.drop_eq_nil_of_le (by omega)]; simp [rowS]
  obtain ⟨o, ho'⟩ : ∃ o, getI row j = some o := ⟨_, getI_eq j0 hj⟩
  rw [drop_getI ho'] at hc3
  refine Ok.bindEq ho' ?_
  refine Ok.bindEq (Called_eq (by omega)) ?_
  unfold M_linear_begin_J4
  refine Ok.ite (fun hf => ?_) fun hf => ?_
  · refine hJ2 c ?_
    rw [hc3, rowS_stop hf, List.append_nil]
  rw [rowS_next hf] at hc3
  have hg : getI (setI T i c) i = some c := by rw [getI_setI i0 (by omega), if_pos rfl]
  refine Ok.bd2 (Q := fun x => x = retE l i j) ⟨_, Returned_eq (by omega), rfl⟩ fun a b hab => ?_
  have ha : a = (retE l i j).1 := by rw [← hab]
  have hb : b = findS l i j true := by rw [← retE_snd, ← hab]
  refine Ok.bindEq hg ?_
  refine Ok.bindEq (app_eq (by simp; omega)) ?_
  refine Ok.bindEq hg ?_
  unfold M_linear_begin_J3
  rw [setI_two, wI_id (by omega) (by omega)]
  refine hk2 _ _ ⟨by omega, by omega, c ++ [callE o l i j], by rw [ha, hb]; rfl, by simp; omega, ?_⟩ (by omega)
  rw [hc3, List.append_assoc]; rfl
/-! ### what Check and Witness say -/
def zeroP (ops : List (List Op)) : List Int := List.replicate ops.length 0
def newC (x : Config) : List Chan := x.capacities.map fun k => Chan.mk k [] false
theorem model_New_list {x : Config} (hx : x.capacities.length ≤ 1000) : M_model_New x = some (newC x) := by
  refine Ok.eq ?_
  unfold M_model_New
  refine lp2_ok (fun _ i => ((x.capacities.length : Int) - i).toNat) (fun l i => 0 ≤ i ∧ i ≤ (x.capacities.length : Int) ∧ l = (x.capacities.take i.toNat).map fun k => Chan.mk k [] false) (fun _ _ r => r = newC x) ?_ BIG [] 0 ⟨by omega, by omega, by simp⟩ (lt_BIG (by omega))
  intro l i k ⟨h0, h1, h2⟩ hk
  unfold M_model_New_L1
  refine Ok.ite (fun h3 => ?_) fun h3 => ?_
  · obtain ⟨y, hy⟩ : ∃ y, getI x.capacities i = some y := ⟨_, getI_eq h0 h3⟩
    refine Ok.bindEq hy ?_
    refine Ok.bindEq (app_eq (by rw [h2]; simp; omega)) ?_
    rw [wI_id (by omega) (by omega)]
    refine hk _ _ ⟨by omega, by omega, ?_⟩ (by omega)
    rw [take_getI hy, h2]; simp
  · refine Ok.some ?_
    rw [h2, List.take_of_length_le (by omega)]; rfl
structure HistIn (x : Config) (ops : List (List Op)) (l : List Event) : Prop where
  len : l.length ≤ 100000
  thr : ops.length ≤ 4
  rows : ∀ r ∈ ops, r.length ≤ 20
  caps : x.capacities.length ≤ 10
  cap : ∀ k ∈ x.capacities, k ≤ 1000
  ops : ∀ r ∈ ops, ∀ o ∈ r, OpM o ∧ OpV o
theorem remS_le {b : Nat} : ∀ (T : Calls) (p : List Int), (∀ r ∈ T, r.length ≤ b) → remS T p ≤ T.length * b
  | [], p, _ => by simp [remS]
  | l :: T, [], _ => by simp [remS]
  | l :: T, n :: p, h => by
    have h1 := h l (.head _)
    have h2 := remS_le T p fun r hr => h r (.tail _ hr)
    simp only [remS, List.length_cons, Nat.add_mul, Nat.one_mul]; omega
theorem getI_zero {n : Nat} {t m : Int} (h : getI (List.replicate n (0 : Int)) t = some m) : m = 0 := (List.mem_replicate.1 (getI_mem h)).2
section
variable {x : Config} {ops : List (List Op)} {l : List Event}
theorem HistIn.wf (h : HistIn x ops l) : WfP (threadsS ops l) (zeroP ops) := by
  have h1 := h.thr
  refine ⟨by simp [zeroP, threadsS_len], by rw [threadsS_len]; omega, fun t r n hr hn => ?_⟩
  have := getI_zero hn
  obtain ⟨t', row, h2, rfl⟩ := threadsS_mem (getI_mem hr)
  have h3 := rowS_len l t' row 0
  have h4 := h.rows row (getI_mem h2)
  omega
theorem HistIn.calls (h : HistIn x ops l) : CallsOk (threadsS ops l) := fun r hr a ha => by
  obtain ⟨t, row, h2, rfl⟩ := threadsS_mem hr
  obtain ⟨o, h3, j, _, _, rfl⟩ := rowS_mem _ _ _ _ _ ha
  exact h.ops row (getI_mem h2) o h3
theorem HistIn.rem (h : HistIn x ops l) : remS (threadsS ops l) (zeroP ops) ≤ 80 := by
  have h1 := remS_le (b := 20) (threadsS ops l) (zeroP ops) fun r hr => by
    obtain ⟨t, row, h2, rfl⟩ := threadsS_mem hr
    exact Nat.le_trans (rowS_len l t row 0) (h.rows row (getI_mem h2))
  rw [threadsS_len] at h1
  have := h.thr; omega
theorem newC_W (h : HistIn x ops l) : ChW x.capacities (newC x) := by
  have h1 := h.caps
  refine ⟨⟨by simp [newC]; omega, fun c hc => ?_, fun c hc => ?_⟩, by simp [newC, Function.comp_def], fun c hc v hv => ?_⟩
  · obtain ⟨k, _, rfl⟩ := List.mem_map.1 hc; simp
  · obtain ⟨k, hk, rfl⟩ := List.mem_map.1 hc; exact h.cap k hk
  · obtain ⟨k, _, rfl⟩ := List.mem_map.1 hc; cases hv
/-- The ways of a history. -/
def HWay (x : Config) (ops : List (List Op)) (l : List Event) (ds : List Done) : Prop := Way (threadsS ops l) true (fun _ => True) (zeroP ops) (newC x) ds
theorem Witness_ok (h : HistIn x ops l) : Ok (M_linear_Witness x ops l) fun r => (r.2 = true → HWay x ops l r.1) ∧ (r.2 = false → r.1 = [] ∧ ∀ ds, ¬ HWay x ops l ds) := by
  have h1 := h.thr
  have h2 := h.caps
  have hr := h.rem
  unfold M_linear_Witness
  refine Ok.bd3 (Q := fun r => r = (threadsS ops l, false, mEmpty ByteArray Bool)) ⟨_, begin_ok h.len (by omega) (fun r hr => by have := h.rows r hr; omega), rfl⟩ fun T b m e => ?_
  cases e
  refine Ok.bindEq (mkl_eq (by omega) (by omega)) ?_
  refine Ok.bindEq (model_New_list (by omega)) ?_
  have hz : List.replicate ((ops.length : Int)).toNat (0 : Int) = zeroP ops := by simp [zeroP]
  rw [hz]
  refine Ok.bd3 (run_ok h.calls h2 100 (zeroP ops) (newC x) _ [] h.wf (newC_W h) (fun p C _ _ hl => ?_) (by omega) (by simp; omega)) fun b l2 m hR => ?_
  · simp [lookD, mEmpty] at hl
  have hy := hR.yes
  have hn := hR.no
  simp only at hy hn
  unfold M_linear_Witness_J1
  cases b with
  | true =>
    rw [if_neg (by decide)]
    obtain ⟨ds, d1, d2⟩ := hy rfl
    refine Ok.some ⟨fun _ => ?_, fun h => by cases h⟩
    rw [List.nil_append] at d2
    subst d2; exact d1
  | false =>
    rw [if_pos (by decide)]
    exact Ok.some ⟨fun h => (by cases h), fun _ => ⟨rfl, (hn rfl).1⟩⟩
theorem Check_ok (h : HistIn x ops l) : Ok (M_linear_Check x ops l) fun b => b = true ↔ ∃ ds, HWay x ops l ds := by
  unfold M_linear_Check
  refine Ok.bd2 (Witness_ok h) fun ds b ⟨h1, h2⟩ => Ok.some ?_
  simp only at h1 h2
  constructor
  · intro hb; exact ⟨ds, h1 hb⟩
  · rintro ⟨ds', hd⟩
    cases b with
    | true => rfl
    | false => exact absurd hd ((h2 rfl).2 ds')
end
end Go.Hx

namespace Go.Hx
open Go
set_option linter.unusedVariables false
set_option linter.unusedSimpArgs false
theorem awake17 : M_law17_awake = some true := by decide +kernel
theorem mod17 {a n : Int} (h : 1 ≤ n) (h1 : n ≤ 1000) : Ok (M_draw_Mod a n) fun r => 0 ≤ r ∧ r < n := by
  unfold M_draw_Mod
  have hn : remO a n = some (Int.tmod a n) := by unfold remO; rw [if_neg (by omega)]
  refine Ok.bindEq hn ?_
  have h3 : Int.tmod a n < n := Int.tmod_lt_of_pos _ (by omega)
  have h4 : -n < Int.tmod a n := by
    have h5 := Int.tmod_lt_of_pos (-a) (show 0 < n by omega)
    rw [Int.neg_tmod] at h5; omega
  refine Ok.ite (fun h => ?_) fun h => Ok.some ⟨by omega, by omega⟩
  rw [wI_id (by omega) (by omega)]
  exact Ok.some ⟨by omega, by omega⟩
end Go.Hx

namespace Go.Hx
open Go
set_option linter.unusedVariables false
set_option linter.unusedSimpArgs false
def sendR : Result := Result.mk 1 (-1) 0 false 0
def recvR (v : Int) : Result := Result.mk 2 (-1) v true 0
def sendO (v : Int) : Op := Op.mk 1 0 0 v 0 [] []
def recvO : Op := Op.mk 2 0 0 0 0 [] []
def sendC (v a b : Int) : Linear_call := Linear_call.mk (sendO v) sendR a b
def recvC (v a b : Int) : Linear_call := Linear_call.mk recvO (recvR v) a b
section
variable {a0 a1 : Linear_call} {C : List Chan} {ds : List Done} {t : Int} {a : Linear_call}
theorem nxt2 (h : Nxt [[a0], [a1]] [0, 0] t a) : (t = 0 ∧ a = a0) ∨ (t = 1 ∧ a = a1) := by
  obtain ⟨l, n, h1, h2, h3⟩ := h
  obtain ⟨t0, t1⟩ := getI_lt h1
  simp only [List.length_cons, List.length_nil] at t1
  have : t = 0 ∨ t = 1 := by omega
  rcases this with rfl | rfl
  · cases h1; cases h2; cases h3; exact .inl ⟨rfl, rfl⟩
  · cases h1; cases h2; cases h3; exact .inr ⟨rfl, rfl⟩
theorem un0 : unpl [[a0], [a1]] [0, 0] a0 := ⟨0, _, _, rfl, rfl, .head _⟩
theorem un1 : unpl [[a0], [a1]] [0, 0] a1 := ⟨1, _, _, rfl, rfl, .head _⟩
theorem un_cases {p q : Int} {c : Linear_call} (h : unpl [[a0], [a1]] [p, q] c) : (p.toNat = 0 ∧ c = a0) ∨ (q.toNat = 0 ∧ c = a1) := by
  obtain ⟨t, l, n, h1, h2, h3⟩ := h
  obtain ⟨t0, t1⟩ := getI_lt h1
  simp only [List.length_cons, List.length_nil] at t1
  have : t = 0 ∨ t = 1 := by omega
  have hd : ∀ (x : Linear_call) (k : Nat), c ∈ [x].drop k → k = 0 ∧ c = x := fun x k hk => by
    cases k with
    | zero => simpa using hk
    | succ k => simp at hk
  rcases this with rfl | rfl
  · cases h1; cases h2; exact .inl (hd _ _ h3)
  · cases h1; cases h2; exact .inr (hd _ _ h3)
/-- What a way of two calls begins with. -/
theorem way2 (h : Way [[a0], [a1]] true (fun _ => True) [0, 0] C ds) (c0 : 0 ≤ a0.coming) (c1 : 0 ≤ a1.coming) : (a0.called < a1.coming ∧ (applyS C a0.op a0.result).2 = true) ∨ (a1.called < a0.coming ∧ (applyS C a1.op a1.result).2 = true) ∨ (a0.called < a1.coming ∧ a1.called < a0.coming) := by
  cases h with
  | stop h1 ha => have := h1 _ un0; omega
  | one h1 hr ha hw =>
    rcases nxt2 h1.nxt with ⟨rfl, rfl⟩ | ⟨rfl, rfl⟩
    · unfold resS at hr
      rw [if_pos c0, List.mem_singleton] at hr
      subst hr
      exact .inl ⟨h1.early _ un1 c1, ha⟩
    · unfold resS at hr
      rw [if_pos c1, List.mem_singleton] at hr
      subst hr
      exact .inr (.inl ⟨h1.early _ un0 c0, ha⟩)
  | two h1 h2 hne hp hx hy hw =>
    rcases nxt2 h1.nxt with ⟨rfl, rfl⟩ | ⟨rfl, rfl⟩ <;> rcases nxt2 h2.nxt with ⟨rfl, rfl⟩ | ⟨rfl, rfl⟩
    · exact absurd rfl hne
    · exact .inr (.inr ⟨h1.early _ un1 c1, h2.early _ un0 c0⟩)
    · exact .inr (.inr ⟨h2.early _ un1 c1, h1.early _ un0 c0⟩)
    · exact absurd rfl hne
end
section
variable {c v : Int}
theorem send_cap (h : 1 ≤ c) : applyS [Chan.mk c [] false] (sendO v) sendR = ([Chan.mk c [v] false], true) := by
  have h1 : 0 < c := by omega
  simp [applyS, sendO, sendR, caseOf, isSR, oneCase, mdoS, getI, onlyS, setI, h1, dcd]
theorem send_none : (applyS [Chan.mk 0 [] false] (sendO v) sendR).2 = false := by
  simp [applyS, sendO, sendR, caseOf, isSR, oneCase, mdoS, getI, onlyS, setI, dcd]
theorem recv_one : applyS [Chan.mk c [v] false] recvO (recvR v) = ([Chan.mk c [] false], true) := by
  simp [applyS, recvO, recvR, caseOf, isSR, oneCase, mdoS, getI, onlyS, setI, dcd]
theorem recv_none : (applyS [Chan.mk c [] false] recvO (recvR v)).2 = false := by
  simp [applyS, recvO, recvR, caseOf, isSR, oneCase, mdoS, getI, onlyS, setI, dcd]
theorem meet2 : pairS [Chan.mk 0 [] false] (sendO v) sendR recvO (recvR v) = true := by
  simp [pairS, pairC, sendO, sendR, recvO, recvR, caseOf, isSR, oneCase, openS, getI, onlyS, dcd]
/-- A buffered channel: first the one, then the other. -/
theorem way_buf {a b d e : Int} (hc : 1 ≤ c) (h1 : a < b) (h2 : a < e) (h3 : d < e) (h0 : 0 ≤ b) (h5 : 0 ≤ e) : ∃ ds, Way [[sendC v a b], [recvC v d e]] true (fun _ => True) [0, 0] [Chan.mk c [] false] ds := by
  refine ⟨_, .one (t := 0) (a := sendC v a b) (r := sendR) ⟨⟨_, _, rfl, rfl, rfl⟩, fun x hx _ => ?_, .inl rfl⟩ ?_ (by show (applyS [Chan.mk c [] false] (sendO v) sendR).2 = true; rw [send_cap hc]) (.one (t := 1) (a := recvC v d e) (r := recvR v) ⟨⟨_, _, rfl, rfl, rfl⟩, fun x hx _ => ?_, .inl rfl⟩ ?_ ?_ (.stop (fun x hx => ?_) trivial))⟩
  · rcases un_cases hx with ⟨_, rfl⟩ | ⟨_, rfl⟩
    · exact h1
    · exact h2
  · unfold resS; rw [if_pos (show 0 ≤ (sendC v a b).coming from h0)]; exact List.mem_singleton.2 rfl
  · rcases un_cases (p := 1) (q := 0) hx with ⟨h, rfl⟩ | ⟨_, rfl⟩
    · cases h
    · exact h3
  · unfold resS; rw [if_pos (show 0 ≤ (recvC v d e).coming from h5)]; exact List.mem_singleton.2 rfl
  · show (applyS (applyS [Chan.mk c [] false] (sendO v) sendR).1 recvO (recvR v)).2 = true
    rw [send_cap hc, recv_one]
  · rcases un_cases (p := 1) (q := 1) hx with ⟨h, rfl⟩ | ⟨h, rfl⟩
    · cases h
    · cases h
theorem way_meet {a b d e : Int} (h1 : a < b) (h2 : a < e) (h3 : d < e) (h4 : d < b) : ∃ ds, Way [[sendC v a b], [recvC v d e]] true (fun _ => True) [0, 0] [Chan.mk 0 [] false] ds := by
  refine ⟨_, .two (t := 0) (u := 1) (a := sendC v a b) (b := recvC v d e) (x := sendR) (y := recvR v) ⟨⟨_, _, rfl, rfl, rfl⟩, fun x hx _ => ?_, .inl rfl⟩ ⟨⟨_, _, rfl, rfl, rfl⟩, fun x hx _ => ?_, .inl rfl⟩ (by decide) meet2 (.inr rfl) (.inr rfl) (.stop (fun x hx => ?_) trivial)⟩
  · rcases un_cases hx with ⟨_, rfl⟩ | ⟨_, rfl⟩
    · exact h1
    · exact h2
  · rcases un_cases hx with ⟨_, rfl⟩ | ⟨_, rfl⟩
    · exact h4
    · exact h3
  · rcases un_cases (p := 1) (q := 1) hx with ⟨h, rfl⟩ | ⟨h, rfl⟩
    · cases h
    · cases h
end
theorem law_LinearTime (p0 p1 : Int) (p2 : Bool) (h1 : 0 ≤ p1 ∧ p1 < 18446744073709551616) : M_law17_LinearTime p0 p1 p2 = some true := by
  refine Ok.eq ?_
  unfold M_law17_LinearTime
  refine Ok.bindEq awake17 ?_
  rw [if_pos rfl]
  refine Ok.bind (mod17 (by omega) (by omega)) fun k ⟨k0, k1⟩ => ?_
  have hops : ∀ r ∈ [[sendO p1], [recvO]], ∀ o ∈ r, OpM o ∧ OpV o := by
    intro r hr o ho
    have hv : ∀ x : Op, x.cases = [] → W64 x.value → (x.kind = 1 ∨ x.kind = 2) → OpM x ∧ OpV x := fun x hx hv hk => by
      have hs : isSR x = true := by unfold isSR; rcases hk with h | h <;> simp [h]
      refine ⟨⟨fun h => (by rw [hs] at h; cases h), fun _ => hx, by rw [hx]; simp⟩, fun i y hy => ?_⟩
      unfold caseOf at hy
      rw [if_pos hs] at hy
      split at hy
      · cases hy; exact hv
      · cases hy
    rcases List.mem_cons.1 hr with rfl | hr
    · rw [List.mem_singleton] at ho; subst ho
      exact hv _ rfl h1 (.inl rfl)
    · rw [List.mem_singleton] at hr; subst hr
      rw [List.mem_singleton] at ho; subst ho
      exact hv _ rfl ⟨by decide, by decide⟩ (.inr rfl)
  have key : ∀ c : Int, 0 ≤ c → c ≤ 5 → (p2 = true → c = 0) → (p2 = false → 1 ≤ c) → Ok (M_law17_LinearTime_J1 p1 p2 [c]) fun b => b = true := by
    intro c c0 c1 hc0 hc1
    have hin : ∀ l : List Event, l.length ≤ 10 → HistIn (Config.mk [c] [0] 2) [[sendO p1], [recvO]] l := fun l hl =>
      ⟨by omega, by simp, fun r hr => by
        rcases List.mem_cons.1 hr with rfl | hr
        · simp
        · rw [List.mem_singleton] at hr; subst hr; simp, by simp, fun k hk => by
        have hk : k ∈ [c] := hk
        rw [List.mem_singleton] at hk; subst hk; omega, hops⟩
    have e1 : threadsS [[sendO p1], [recvO]] [(Event.mk 0 0 false (Result.mk 0 0 0 false 0)), (Event.mk 0 0 true (Result.mk 1 (-1) 0 false 0)), (Event.mk 1 0 false (Result.mk 0 0 0 false 0)), (Event.mk 1 0 true (Result.mk 2 (-1) p1 true 0))] = [[sendC p1 0 1], [recvC p1 2 3]] := rfl
    have e2 : threadsS [[sendO p1], [recvO]] [(Event.mk 1 0 false (Result.mk 0 0 0 false 0)), (Event.mk 1 0 true (Result.mk 2 (-1) p1 true 0)), (Event.mk 0 0 false (Result.mk 0 0 0 false 0)), (Event.mk 0 0 true (Result.mk 1 (-1) 0 false 0))] = [[sendC p1 2 3], [recvC p1 0 1]] := rfl
    have e3 : threadsS [[sendO p1], [recvO]] [(Event.mk 0 0 false (Result.mk 0 0 0 false 0)), (Event.mk 1 0 false (Result.mk 0 0 0 false 0)), (Event.mk 1 0 true (Result.mk 2 (-1) p1 true 0)), (Event.mk 0 0 true (Result.mk 1 (-1) 0 false 0))] = [[sendC p1 0 3], [recvC p1 1 2]] := rfl
    unfold M_law17_LinearTime_J1
    refine Ok.bindEq (show _ = some (Event.mk 1 0 false (Result.mk 0 0 0 false 0)) from rfl) ?_
    refine Ok.bindEq (show _ = some (Event.mk 1 0 true (Result.mk 2 (-1) p1 true 0)) from rfl) ?_
    refine Ok.bindEq (show _ = some (Event.mk 0 0 false (Result.mk 0 0 0 false 0)) from rfl) ?_
    refine Ok.bindEq (show _ = some (Event.mk 0 0 true (Result.mk 1 (-1) 0 false 0)) from rfl) ?_
    refine Ok.bindEq (show _ = some (Event.mk 0 0 false (Result.mk 0 0 0 false 0)) from rfl) ?_
    refine Ok.bindEq (show _ = some (Event.mk 1 0 false (Result.mk 0 0 0 false 0)) from rfl) ?_
    refine Ok.bindEq (show _ = some (Event.mk 1 0 true (Result.mk 2 (-1) p1 true 0)) from rfl) ?_
    refine Ok.bindEq (show _ = some (Event.mk 0 0 true (Result.mk 1 (-1) 0 false 0)) from rfl) ?_
    refine Ok.bind (Check_ok (hin _ (by simp))) fun b1 hb1 => ?_
    unfold HWay at hb1
    have hb1 : b1 = true ↔ ∃ ds, Way _ true (fun _ => True) [0, 0] [Chan.mk c [] false] ds := hb1
    erw [e1] at hb1
    have hb1' : b1 = !p2 := by
      cases p2 with
      | true =>
        have hc := hc0 rfl; subst hc
        cases b1 with
        | false => rfl
        | true =>
          obtain ⟨ds, hw⟩ := hb1.1 rfl
          have hw : Way [[sendC p1 0 1], [recvC p1 2 3]] true (fun _ => True) [0, 0] [Chan.mk 0 [] false] ds := hw
          rcases way2 hw (show (0 : Int) ≤ 1 by decide) (show (0 : Int) ≤ 3 by decide) with ⟨_, h⟩ | ⟨h, _⟩ | ⟨_, h⟩
          · have h : (applyS [Chan.mk 0 [] false] (sendO p1) sendR).2 = true := h
            rw [send_none] at h; cases h
          · have h : (2 : Int) < 1 := h
            exact absurd h (by decide)
          · have h : (2 : Int) < 1 := h
            exact absurd h (by decide)
      | false => exact hb1.2 (way_buf (hc1 rfl) (by decide) (by decide) (by decide) (by decide) (by decide))
    rw [if_pos (by rw [hb1']; simp)]
    refine Ok.bind (Check_ok (hin _ (by simp))) fun b2 hb2 => ?_
    unfold HWay at hb2
    have hb2 : b2 = true ↔ ∃ ds, Way _ true (fun _ => True) [0, 0] [Chan.mk c [] false] ds := hb2
    erw [e2] at hb2
    have hb2' : b2 = false := by
      cases b2 with
      | false => rfl
      | true =>
        obtain ⟨ds, hw⟩ := hb2.1 rfl
        have hw : Way [[sendC p1 2 3], [recvC p1 0 1]] true (fun _ => True) [0, 0] [Chan.mk c [] false] ds := hw
        rcases way2 hw (show (0 : Int) ≤ 3 by decide) (show (0 : Int) ≤ 1 by decide) with ⟨h, _⟩ | ⟨_, h⟩ | ⟨h, _⟩
        · have h : (2 : Int) < 1 := h
          exact absurd h (by decide)
        · have h : (applyS [Chan.mk c [] false] recvO (recvR p1)).2 = true := h
          rw [recv_none] at h; cases h
        · have h : (2 : Int) < 1 := h
          exact absurd h (by decide)
    rw [if_neg (by rw [hb2']; decide)]
    refine Ok.bind (Check_ok (hin _ (by simp))) fun b3 hb3 => ?_
    unfold HWay at hb3
    have hb3 : b3 = true ↔ ∃ ds, Way _ true (fun _ => True) [0, 0] [Chan.mk c [] false] ds := hb3
    erw [e3] at hb3
    unfold M_law17_LinearTime_J2
    refine Ok.some (hb3.2 ?_)
    by_cases h : 1 ≤ c
    · exact way_buf h (by decide) (by decide) (by decide) (by decide) (by decide)
    · have : c = 0 := by omega
      subst this
      exact way_meet (by decide) (by decide) (by decide) (by decide)
  rw [wI_id (by omega) (by omega)]
  refine Ok.ite (fun h2 => ?_) fun h2 => ?_
  · refine Ok.bindEq (show getI [1 + k] 0 = some (1 + k) from rfl) ?_
    exact key 0 (by omega) (by omega) (fun _ => rfl) fun h => by rw [h2] at h; cases h
  · exact key (1 + k) (by omega) (by omega) (fun h => absurd h h2) fun _ => by omega
end Go.Hx
