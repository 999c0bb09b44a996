/-
  What the laws of the desk begin with.
-/
import Derived.Test.YthokebmjjkjjfaaXDDesk7
namespace Go.Hx
open Go
set_option linter.unusedVariables false
set_option linter.unusedSimpArgs false
theorem New_list {x : Config} (hx : x.capacities.length ≤ 1000) : M_51z x = some (x.capacities.map fun k => Chan.mk k [] false) := by
  unfold M_51z
  have key : ∀ n p i, (0 ≤ i ∧ i ≤ (x.capacities.length : Int) ∧ (p.length : Int) = i) → ((x.capacities.length : Int) - i).toNat < n → Ok (lp2 (M_29z x) n p i) (fun r => r = p ++ (x.capacities.drop i.toNat).map fun k => Chan.mk k [] false) := by
    refine lp2_ok (fun _ i => ((x.capacities.length : Int) - i).toNat) (fun p i => 0 ≤ i ∧ i ≤ (x.capacities.length : Int) ∧ (p.length : Int) = i) (fun p i r => r = p ++ (x.capacities.drop i.toNat).map fun k => Chan.mk k [] false) ?_
    intro p i k ⟨h0, h1, hp⟩ hk
    unfold M_29z
    refine Ok.ite (fun h => ?_) fun h => ?_
    · have hg := getI_eq h0 h
      rw [hg]
      simp only [Option.bind_some]
      rw [drop_getI hg, app_eq (by simp; omega), wI_id (by omega) (by omega)]
      simp only [Option.bind_some]
      refine (hk _ (i + 1) ⟨by omega, by omega, by simp; omega⟩ (by omega)).mono fun r hr => ?_
      rw [hr]; simp
    · unfold M_148z
      refine Ok.some ?_
      rw [List.drop_eq_nil_of_le (by omega)]; simp
  simpa using (key BIG [] 0 ⟨by omega, by omega, by simp⟩ (lt_BIG (by omega))).eq
theorem model_New_list {x : Config} (hx : x.capacities.length ≤ 1000) : M_71z x = some (x.capacities.map fun k => Chan.mk k [] false) := by
  rw [← New_list hx]
  unfold M_71z M_51z
  have : M_70z x = M_29z x := by
    funext k p i
    unfold M_70z M_29z
    rfl
  rw [this]
def newD (x : Config) : Desk := Desk.mk (x.capacities.map fun k => Chan.mk k [] false) [] 0
theorem refNew_eq {x : Config} (hx : x.capacities.length ≤ 1000) : M_98z x = some (newD x) := by
  unfold M_98z; rw [New_list hx]; rfl
theorem deskNew_eq {x : Config} (hx : x.capacities.length ≤ 1000) : M_72z x = some (newD x) := by
  unfold M_72z; rw [model_New_list hx]; rfl
theorem newD_ok {x : Config} (hx : x.capacities.length ≤ 1000) : DI 0 (newD x) := by
  refine ⟨⟨by simpa [newD] using hx, fun c hc => ?_, by simp [newD], by simp [newD], by omega⟩, by simp [newD], by simp [newD, wthrs], by simp [newD], by simp [newD]⟩
  simp only [newD, List.mem_map] at hc
  obtain ⟨k, _, rfl⟩ := hc
  simp
theorem DI.mono {n m : Nat} {d : Desk} (h : DI n d) (hm : n ≤ m) (h9 : m ≤ 900) : DI m d :=
  ⟨⟨h.ok.ch, fun c hc => Nat.le_trans (h.ok.buf c hc) hm, Nat.le_trans h.ok.wt hm, h.ok.ops, h9⟩, h.ws, h.nodup, h.late, h.tick⟩
def opA : Op := Op.mk 1 0 0 5 0 [] []
def opB : Op := Op.mk 2 0 0 0 0 [] []
def dA : Desk := Desk.mk [Chan.mk 0 [] false] [] 0
def dB : Desk := Desk.mk [Chan.mk 0 [] false] [Waiter.mk 0 opA] 0
theorem opA_ok : OpOk opA := ⟨by decide, by decide, by decide, ⟨by decide, by decide⟩, by decide, by decide, fun _ => ⟨rfl, rfl⟩, by decide, by decide, by simp [opA], by simp [opA], by decide, ⟨by decide, by decide⟩⟩
theorem opB_ok : OpOk opB := ⟨by decide, by decide, by decide, ⟨by decide, by decide⟩, by decide, by decide, fun _ => ⟨rfl, rfl⟩, by decide, by decide, by simp [opB], by simp [opB], by decide, ⟨by decide, by decide⟩⟩
theorem awakeD : M_94z = some true := by
  have hA : DI 0 dA := newD_ok (x := Config.mk [0] [0] 2) (by decide)
  have eA : DoD dA 0 opA = (dB, [], true) := by decide +kernel
  have hB : DI 1 dB := by have := hA.thr (t := 0) opA_ok (by simp [dA]) (by omega); rw [eA] at this; exact this
  have eB : DoD dB 1 opB = (dA, [Done.mk 0 (Result.mk 1 (-1) 0 false 0), Done.mk 1 (Result.mk 2 (-1) 5 true 0)], false) := by decide +kernel
  unfold M_94z
  rw [deskNew_eq (by decide)]
  simp only [Option.bind_some]
  rw [show newD (Config.mk [0] [0] 2) = dA from rfl, show Op.mk 1 0 0 5 0 [] [] = opA from rfl, show Op.mk 2 0 0 0 0 [] [] = opB from rfl, deskDo_eq hA opA_ok (by simp [dA]), eA]
  simp only [bd3_some]
  rw [deskDo_eq hB opB_ok (by simp [dB]), eB]
  simp only [bd3_some, if_true]
  unfold M_8z
  decide +kernel
theorem waits_ok {d : Desk} {t : Int} (h : d.waiting.length ≤ 1000) : Ok (M_31z d t) fun b => b = false → ∀ w ∈ d.waiting, w.thread ≠ t := by
  have e : M_31z d t = some (decide (0 ≤ idxI (fun w : Waiter => decide (w.thread = t)) d.waiting)) := by
    unfold M_31z
    refine idx_loop (l := d.waiting) (fun w : Waiter => decide (w.thread = t)) (fun i => some (decide (0 ≤ i))) (by omega) (fun i k w hx => ?_) (fun k => ?_)
    · obtain ⟨g0, g1⟩ := getI_lt hx
      unfold M_105z
      rw [if_pos g1, hx]
      simp only [Option.bind_some]
      rw [wI_id (by omega) (by omega), decide_eq_true g0]
      simp only [decide_eq_true_eq]
    · unfold M_105z M_156z
      rw [if_neg (by omega)]; rfl
  refine Ok.of e fun hb w hw ht => ?_
  simp only [decide_eq_false_iff_not] at hb
  have := idxI_no (p := fun w : Waiter => decide (w.thread = t)) (l := d.waiting) (by omega) w hw
  simp [ht] at this
/-! ### the same -/
theorem words_self {a : List Int} (ha : a.length ≤ 1000) : M_179z a a = some true := by
  refine Ok.eq ?_
  unfold M_179z
  rw [if_pos rfl]
  refine lp1_ok (fun i => ((a.length : Int) - i).toNat) (fun i => 0 ≤ i ∧ i ≤ (a.length : Int)) (fun _ => _) ?_ BIG 0 ⟨by omega, by omega⟩ (lt_BIG (by omega))
  intro i k ⟨h0, h1⟩ hk
  unfold M_196z M_195z
  refine Ok.ite (fun h => ?_) fun h => Ok.some rfl
  obtain ⟨x, hx⟩ : ∃ x, getI a i = some x := ⟨_, getI_eq h0 h⟩
  rw [hx]
  simp only [Option.bind_some, if_true]
  rw [wI_id (by omega) (by omega)]
  exact hk _ ⟨by omega, by omega⟩ (by omega)
theorem chans_self {l : List Chan} (hl : l.length ≤ 1000) (hb : ∀ c ∈ l, c.buffer.length ≤ 1000) : M_180z l l = some true := by
  refine Ok.eq ?_
  unfold M_180z
  rw [if_pos rfl]
  refine lp1_ok (fun i => ((l.length : Int) - i).toNat) (fun i => 0 ≤ i ∧ i ≤ (l.length : Int)) (fun _ => _) ?_ BIG 0 ⟨by omega, by omega⟩ (lt_BIG (by omega))
  intro i k ⟨h0, h1⟩ hk
  unfold M_198z M_197z
  refine Ok.ite (fun h => ?_) fun h => Ok.some rfl
  obtain ⟨x, hx⟩ : ∃ x, getI l i = some x := ⟨_, getI_eq h0 h⟩
  rw [hx]
  simp only [Option.bind_some, if_true, beq_self_eq_true]
  rw [words_self (hb x (getI_mem hx))]
  simp only [Option.bind_some]
  unfold M_161z
  rw [if_neg (by decide), wI_id (by omega) (by omega)]
  exact hk _ ⟨by omega, by omega⟩ (by omega)
theorem op_self {o : Op} (h1 : o.cases.length ≤ 1000) (h2 : o.draws.length ≤ 1000) : M_181z o o = some true := by
  refine Ok.eq ?_
  unfold M_181z
  simp only [if_true]
  unfold M_20z
  rw [if_neg (by simp [dcd_eq])]
  refine lp1_ok (fun i => ((o.cases.length : Int) - i).toNat) (fun i => 0 ≤ i ∧ i ≤ (o.cases.length : Int)) (fun _ => _) ?_ BIG 0 ⟨by omega, by omega⟩ (lt_BIG (by omega))
  intro i k ⟨g0, g1⟩ hk
  unfold M_202z M_201z
  refine Ok.ite (fun h => ?_) fun h => ?_
  · obtain ⟨x, hx⟩ : ∃ x, getI o.cases i = some x := ⟨_, getI_eq g0 h⟩
    rw [hx]
    simp only [Option.bind_some, if_true]
    rw [wI_id (by omega) (by omega)]
    exact hk _ ⟨by omega, by omega⟩ (by omega)
  · refine lp1_ok (fun i => ((o.draws.length : Int) - i).toNat) (fun i => 0 ≤ i ∧ i ≤ (o.draws.length : Int)) (fun _ => _) ?_ BIG 0 ⟨by omega, by omega⟩ (lt_BIG (by omega))
    intro i k ⟨g0, g1⟩ hk
    unfold M_200z M_199z
    refine Ok.ite (fun h => ?_) fun h => Ok.some rfl
    obtain ⟨x, hx⟩ : ∃ x, getI o.draws i = some x := ⟨_, getI_eq g0 h⟩
    rw [hx]
    simp only [Option.bind_some, if_true]
    rw [wI_id (by omega) (by omega)]
    exact hk _ ⟨by omega, by omega⟩ (by omega)
theorem waiting_self {l : List Waiter} (hl : l.length ≤ 1000) (hw : ∀ w ∈ l, WOk w) : M_183z l l = some true := by
  refine Ok.eq ?_
  unfold M_183z
  rw [if_pos rfl]
  refine lp1_ok (fun i => ((l.length : Int) - i).toNat) (fun i => 0 ≤ i ∧ i ≤ (l.length : Int)) (fun _ => _) ?_ BIG 0 ⟨by omega, by omega⟩ (lt_BIG (by omega))
  intro i k ⟨h0, h1⟩ hk
  unfold M_204z M_203z
  refine Ok.ite (fun h => ?_) fun h => Ok.some rfl
  obtain ⟨x, hx⟩ : ∃ x, getI l i = some x := ⟨_, getI_eq h0 h⟩
  have hx2 := hw x (getI_mem hx)
  have hx3 := hx2.op.lens
  rw [hx]
  simp only [Option.bind_some, if_true]
  rw [op_self (by omega) (by omega)]
  simp only [Option.bind_some]
  unfold M_182z
  rw [if_neg (by decide), wI_id (by omega) (by omega)]
  exact hk _ ⟨by omega, by omega⟩ (by omega)
theorem same_self {n : Nat} {d : Desk} (h : DI n d) : M_205z d d = some true := by
  have h9 := h.ok.n9
  have hw := h.ok.wt
  unfold M_205z
  rw [if_pos rfl, chans_self h.ok.ch fun c hc => by have := h.ok.buf c hc; omega]
  simp only [Option.bind_some, if_true]
  rw [waiting_self (by omega) h.ws]
  rfl
theorem done_self {l : List Done} (hl : l.length ≤ 100000) : M_211z l l = some true := by
  refine Ok.eq ?_
  unfold M_211z
  rw [if_pos rfl]
  refine lp1_ok (fun i => ((l.length : Int) - i).toNat) (fun i => 0 ≤ i ∧ i ≤ (l.length : Int)) (fun _ => _) ?_ BIG 0 ⟨by omega, by omega⟩ (lt_BIG (by omega))
  intro i k ⟨h0, h1⟩ hk
  unfold M_210z M_209z
  refine Ok.ite (fun h => ?_) fun h => Ok.some rfl
  obtain ⟨x, hx⟩ : ∃ x, getI l i = some x := ⟨_, getI_eq h0 h⟩
  rw [hx]
  simp only [Option.bind_some, if_true]
  rw [wI_id (by omega) (by omega)]
  exact hk _ ⟨by omega, by omega⟩ (by omega)
theorem TickD_len {n : Nat} {d : Desk} (h : DI n d) (k : Int) : (TickD d k).2.length ≤ 1000 := by
  have h9 := h.ok.n9
  have hw := h.ok.wt
  have := tickP_len (timeD d.tick k) d.waiting []
  simp only [List.length_nil] at this
  show (tickP (timeD d.tick k) d.waiting []).2.length ≤ 1000
  omega
theorem DoD_len {n : Nat} {d : Desk} {t : Int} {op : Op} (h : DI n d) (ho : OpOk op) : (DoD d t op).2.1.length ≤ 1000 := by
  have h9 := h.ok.n9
  have hw := h.ok.wt
  rcases Do_perm (d := d) (t := t) ho.len ho.kind with ⟨_, _, h3⟩ | ⟨_, rem, h2, h3⟩
  · rw [h3]; simp
  · have e1 := h2.length_eq
    have e2 := h3.length_eq
    simp only [thrs, wthrs, List.length_map, List.length_cons, List.length_append] at e1 e2
    omega
/-! ### reaching a desk -/
theorem reach_ok {c : Draw_Codes} {x : Config} {m : Int} (hc : Cd c) (hx : CfgOk x) (h0 : 0 ≤ m) (hm : m ≤ 30) : Ok (M_123z c x m) fun r => DI 30 r.1 ∧ AtOk c.list r.2.1 := by
  obtain ⟨hl, ha⟩ := hc
  have hx1 := hx.n3
  have ht2 := hx.t2
  unfold M_123z
  rw [refNew_eq (by omega)]
  simp only [Option.bind_some]
  refine lp6_ok (fun i _ _ _ _ _ => (31 - i).toNat) (fun i a v ch wt tk => 0 ≤ i ∧ i ≤ m ∧ AtOk c.list a ∧ DI i.toNat (Desk.mk ch wt tk)) (fun _ _ _ _ _ _ => _) ?_ BIG 0 _ _ _ _ _ ⟨by omega, by omega, ha, newD_ok (by omega)⟩ (lt_BIG (by omega))
  intro i a v ch wt tk k ⟨g0, g1, ha, hd⟩ hk
  have hwt := hd.ok.wt
  have hfin : Ok (M_122z c a v ch wt tk) fun r => DI 30 r.1 ∧ AtOk c.list r.2.1 := by
    unfold M_122z
    exact Ok.some ⟨hd.mono (by omega) (by omega), ha⟩
  have hJ3 : i < m → ∀ a' v' ch' wt' tk', AtOk c.list a' → DI (i + 1).toNat (Desk.mk ch' wt' tk') → Ok (M_37z m i c x k a' v' ch' wt' tk') fun r => DI 30 r.1 ∧ AtOk c.list r.2.1 := by
    intro hi a' v' ch' wt' tk' ha' hd'
    unfold M_37z
    rw [wI_id (by omega) (by omega)]
    exact hk _ _ _ _ _ _ ⟨by omega, by omega, ha', hd'⟩ (by omega)
  unfold M_160z
  refine Ok.ite (fun hi => ?_) fun hi => ?_
  · refine Ok.bindEq (Left_eq _) ?_
    unfold M_67z
    refine Ok.ite (fun h2 => ?_) fun h2 => hfin
    refine Ok.bd2 (Next_ok (c := Draw_Codes.mk c.list a v) ⟨hl, ha⟩ (by omega)) fun n1 a1 ⟨b0, b1, ha1, _⟩ => ?_
    simp only at b0 b1 ha1
    refine Ok.ite (fun h3 => ?_) fun h3 => ?_
    · refine Ok.bd2 (Next_ok (c := Draw_Codes.mk c.list a1 v) ⟨hl, ha1⟩ (by omega)) fun n2 a2 ⟨b2, b3, ha2, _⟩ => ?_
      simp only at b2 b3 ha2
      refine Ok.bd2 (Ok.of (refTick_eq hd (by omega)) rfl) fun d1 l1 e => ?_
      have e1 : d1 = (TickD (Desk.mk ch wt tk) n2).1 := (congrArg Prod.fst e).symm
      subst e1
      exact hJ3 hi _ _ _ _ _ ha2 ((hd.tk n2).mono (by omega) (by omega))
    · refine Ok.bd2 (Next_ok (c := Draw_Codes.mk c.list a1 v) ⟨hl, ha1⟩ (by omega)) fun t a2 ⟨b2, b3, ha2, _⟩ => ?_
      simp only at b2 b3 ha2
      refine Ok.bd3 (Op_ok (c := Draw_Codes.mk c.list a2 v) ⟨hl, ha2⟩ (by omega)) fun op a3 v3 ⟨ho, ha3⟩ => ?_
      simp only at ho ha3
      refine Ok.bind (waits_ok (d := Desk.mk ch wt tk) (by omega)) fun b hb => ?_
      refine Ok.ite (fun h4 => ?_) fun h4 => ?_
      · exact hJ3 hi _ _ _ _ _ ha3 (hd.mono (by omega) (by omega))
      · refine Ok.bd3 (Ok.of (Do_eq hd.ok ho.len ho.kind) rfl) fun d1 l1 w1 e => ?_
        have e1 : d1 = (DoD (Desk.mk ch wt tk) t op).1 := (congrArg Prod.fst e).symm
        subst e1
        have := hd.thr ho (hb (by simpa using h4)) (by omega)
        exact hJ3 hi _ _ _ _ _ ha3 (by rw [show (i + 1).toNat = i.toNat + 1 by omega]; exact this)
  · unfold M_67z
    rw [if_neg (by decide)]
    exact hfin
theorem Mod_ok {a n : Int} (h : 1 ≤ n) (h1 : n ≤ 1000) : Ok (M_124z a n) fun r => 0 ≤ r ∧ r < n := by
  unfold M_124z
  have hn : remO a n = some (Int.tmod a n) := by unfold remO; rw [if_neg (by omega)]
  refine Ok.bindEq hn ?_
  have h3 : Int.tmod a n < n := Int.tmod_lt_of_pos _ (by omega)
  have h4 : -n < Int.tmod a n := by
    have h5 := Int.tmod_lt_of_pos (-a) (show 0 < n by omega)
    rw [Int.neg_tmod] at h5; omega
  refine Ok.ite (fun h => ?_) fun h => Ok.some ⟨by omega, by omega⟩
  rw [wI_id (by omega) (by omega)]
  exact Ok.some ⟨by omega, by omega⟩
end Go.Hx
