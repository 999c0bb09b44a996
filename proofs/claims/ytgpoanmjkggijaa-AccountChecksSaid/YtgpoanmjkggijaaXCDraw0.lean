/-
  Drawing: the next choice, a list of choices.
-/
import Derived.Test.YtgpoanmjkggijaaXCM
import Derived.Test.YtgpoanmjkggijaaHxPure
namespace Go.Hx
open Go
set_option linter.unusedVariables false
set_option linter.unusedSimpArgs false

/-- A list of choices that is not too long. -/
structure Lst (l : List Int) : Prop where
  len : l.length ≤ 1000
  rng : ∀ b ∈ l, 0 ≤ b ∧ b < 256
structure AtOk (l : List Int) (a : Int) : Prop where
  lo : 0 ≤ a
  hi : a ≤ (l.length : Int)
def Cd (c : Draw_Codes) : Prop := Lst c.list ∧ AtOk c.list c.at_

theorem Left_eq (c : Draw_Codes) : M_59z c = some (dcd (c.at_ < (c.list.length : Int))) := rfl

theorem Next_ok {c : Draw_Codes} {n : Int} (hc : Cd c) (h1 : 1 ≤ n) : Ok (M_0z c n) fun r => 0 ≤ r.1 ∧ r.1 < n ∧ AtOk c.list r.2 ∧ c.at_ ≤ r.2 ∧ (c.at_ < (c.list.length : Int) → r.2 = c.at_ + 1) := by
  obtain ⟨⟨hlen, hrng⟩, hlo, hhi⟩ := hc
  unfold M_0z
  rw [Left_eq]
  simp only [Option.bind_some]
  refine Ok.ite (fun h => ?_) fun h => ?_
  · rw [dcd_tt] at h
    rw [wI_id (x := c.at_ + 1) (by omega) (by omega), wI_id (x := c.at_ + 1 - 1) (by omega) (by omega)]
    refine Ok.bind (Ok.getI (P := fun x => 0 ≤ x ∧ x < 256) (by omega) (by omega) fun x _ hx => hrng x hx) fun x ⟨hx0, hx1⟩ => ?_
    rw [wI_id (x := x) (by omega) (by omega)]
    have hn : remO x n = some (Int.tmod x n) := by unfold remO; rw [if_neg (by omega)]
    rw [hn]
    refine Ok.some ⟨?_, ?_, ⟨by simp only; omega, by simp only; omega⟩, by simp only; omega, fun _ => rfl⟩
    · simp only; exact Int.tmod_nonneg _ hx0
    · simp only; exact Int.tmod_lt_of_pos _ (by omega)
  · rw [dcd_tt] at h
    refine Ok.some ⟨by simp only; omega, by simp only; omega, ⟨hlo, hhi⟩, by simp only; omega, fun h' => absurd h' h⟩

theorem New_ok {l : List Int} {m : Int} (hl : ∀ b ∈ l, 0 ≤ b ∧ b < 256) (h0 : 0 ≤ m) (hm : m ≤ 1000) : Ok (M_97z l m) fun c => Cd c ∧ c.at_ = 0 ∧ c.value = 0 ∧ c.list = l.take m.toNat := by
  unfold M_97z
  refine Ok.ite (fun h => ?_) fun h => ?_
  · rw [cutI_eq (by omega) (by omega) (by omega)]
    refine Ok.some ⟨⟨⟨by simp; omega, fun b hb => hl b (List.mem_of_mem_take (by simpa using hb))⟩, by simp, by simp only; omega⟩, rfl, rfl, by simp⟩
  · refine Ok.some ⟨⟨⟨by simp only; omega, hl⟩, by simp, by simp only; omega⟩, rfl, rfl, ?_⟩
    rw [List.take_of_length_le (by omega)]

theorem mem_setI {α : Type} {l : List α} {i : Int} {x y : α} (h : y ∈ setI l i x) : y = x ∨ y ∈ l := by
  unfold setI at h
  rcases List.mem_or_eq_of_mem_set h with h | h
  · exact .inr h
  · exact .inl h
theorem length_setI {α : Type} {l : List α} {i : Int} {x : α} : (setI l i x).length = l.length := by simp [setI]
end Go.Hx

namespace Go.Hx
open Go
set_option linter.unusedVariables false
set_option linter.unusedSimpArgs false

/-- A drawn configuration. -/
structure CfgOk (x : Config) : Prop where
  n1 : 1 ≤ x.capacities.length
  n3 : x.capacities.length ≤ 3
  ns : x.starts.length = x.capacities.length
  t2 : 2 ≤ x.threads
  t4 : x.threads ≤ 4
  cap : ∀ k ∈ x.capacities, 0 ≤ k ∧ k ≤ 3
  st : ∀ k ∈ x.starts, 0 ≤ k ∧ k < 9223372036854775808

theorem Config_ok {c : Draw_Codes} (hc : Cd c) : Ok (M_98z c) fun r => CfgOk r.1 ∧ AtOk c.list r.2.1 := by
  obtain ⟨hl, ha⟩ := hc
  unfold M_98z
  refine lp5_ok (fun i _ _ _ _ => (4 - i).toNat) (fun i a v p q => 0 ≤ i ∧ i ≤ 3 ∧ AtOk c.list a ∧ (p.length : Int) = i ∧ (q.length : Int) = i ∧ (∀ k ∈ p, 0 ≤ k ∧ k ≤ 3) ∧ ∀ k ∈ q, 0 ≤ k ∧ k < 9223372036854775808) (fun _ _ _ _ _ => _) ?_ BIG 0 _ _ _ _ ⟨by omega, by omega, ha, by simp, by simp, by simp, by simp⟩ (lt_BIG (by omega))
  intro i a v p q k ⟨h0, h3, ha, hp, hq, hpk, hqk⟩ hk
  unfold M_158z
  refine Ok.bd2 (Next_ok ⟨hl, ha⟩ (by omega)) fun n1 a1 ⟨b0, b1, ha1, _⟩ => ?_
  simp only at b0 b1 ha1
  refine Ok.ite (fun h => ?_) fun h => ?_
  · refine Ok.bd2 (Next_ok ⟨hl, ha1⟩ (by omega)) fun n2 a2 ⟨b2, b3, ha2, _⟩ => ?_
    simp only at b2 b3 ha2
    refine Ok.bind (Ok.getI (P := fun x => 0 ≤ x ∧ x ≤ 3) b2 (by simpa using b3) fun x _ hx => ?_) fun x hx => ?_
    · simp only [List.mem_cons, List.not_mem_nil, or_false] at hx
      rcases hx with rfl | rfl | rfl | rfl | rfl | rfl <;> omega
    rw [app_eq (by simp; omega)]
    simp only [Option.bind_some]
    unfold M_157z
    refine Ok.bd2 (Next_ok ⟨hl, ha2⟩ (by omega)) fun n4 a4 ⟨b4, b5, ha4, _⟩ => ?_
    simp only at b4 b5 ha4
    refine Ok.bind (Ok.getI (P := fun x => 0 ≤ x ∧ x < 9223372036854775808) b4 (by simpa using b5) fun x _ hx => ?_) fun y hy => ?_
    · simp only [List.mem_cons, List.not_mem_nil, or_false] at hx
      rcases hx with rfl | rfl | rfl | rfl | rfl | rfl <;> omega
    rw [app_eq (by simp; omega)]
    simp only [Option.bind_some]
    unfold M_156z
    rw [wI_id (by omega) (by omega)]
    refine hk _ _ _ _ _ ⟨by omega, by omega, ha4, by simp; omega, by simp; omega, fun k hk => ?_, fun k hk => ?_⟩ (by omega)
    · rcases List.mem_append.1 hk with hk | hk
      · exact hpk k hk
      · simp at hk; subst hk; exact hx
    · rcases List.mem_append.1 hk with hk | hk
      · exact hqk k hk
      · simp at hk; subst hk; exact hy
  · unfold M_155z
    refine Ok.bd2 (Next_ok ⟨hl, ha1⟩ (by omega)) fun n2 a2 ⟨b2, b3, ha2, _⟩ => ?_
    simp only at b2 b3 ha2
    refine Ok.some ⟨⟨?_, ?_, ?_, ?_, ?_, hpk, hqk⟩, ha2⟩
    · simp only; omega
    · simp only; omega
    · simp only; omega
    · simp only; rw [wI_id (by omega) (by omega)]; omega
    · simp only; rw [wI_id (by omega) (by omega)]; omega

def ChOk (n : Int) : Prop := -1 ≤ n ∧ n ≤ 7
theorem channel_ok {c : Draw_Codes} {x : Config} (hc : Cd c) (hx : x.capacities.length ≤ 8) : Ok (M_3z c x) fun r => ChOk r.1 ∧ AtOk c.list r.2.1 ∧ r.2.2 = c.value := by
  obtain ⟨hl, ha⟩ := hc
  unfold M_3z
  refine Ok.bd2 (Next_ok ⟨hl, ha⟩ (by omega)) fun n1 a1 ⟨b0, b1, ha1, _⟩ => ?_
  simp only at b0 b1 ha1
  refine Ok.ite (fun h => ?_) fun h => Ok.ite (fun h' => ?_) fun h' => ?_
  · refine Ok.bd2 (Next_ok ⟨hl, ha1⟩ (by omega)) fun n2 a2 ⟨b2, b3, ha2, _⟩ => ?_
    simp only at b2 b3 ha2
    rw [wI_id (by omega) (by omega)]
    exact Ok.some ⟨⟨by simp only; omega, by simp only; omega⟩, ha2, rfl⟩
  · exact Ok.some ⟨⟨by simp only; omega, by simp only; omega⟩, ha1, rfl⟩
  · refine Ok.bd2 (Next_ok ⟨hl, ha1⟩ (by omega)) fun n2 a2 ⟨b2, b3, ha2, _⟩ => ?_
    simp only at b2 b3 ha2
    exact Ok.some ⟨⟨by simp only; omega, by simp only; omega⟩, ha2, rfl⟩

def ValOk (v : Int) : Prop := 0 ≤ v ∧ v < 18446744073709551616
theorem Value_ok {c : Draw_Codes} : Ok (M_99z c) fun r => ValOk r.1 ∧ r.1 = wU (c.value + 1) ∧ r.2 = wU (c.value + 1) := Ok.some ⟨wU_rng _, rfl, rfl⟩

structure CaseOk (c : Case) : Prop where
  ch : ChOk c.channel
  v0 : c.send = false → c.value = 0
  v : ValOk c.value
/-- A drawn operation. -/
structure OpOk (o : Op) : Prop where
  kind : 1 ≤ o.kind ∧ o.kind ≤ 6
  mode : 0 ≤ o.mode ∧ o.mode ≤ 2
  plain : o.kind = 3 ∨ o.kind = 5 ∨ o.kind = 6 → o.mode = 0
  ch : ChOk o.channel
  dead : 0 ≤ o.deadline ∧ o.deadline ≤ 4
  timed : o.deadline ≠ 0 → o.mode = 2
  nosel : o.kind ≠ 4 → o.cases = [] ∧ o.draws = []
  sel : o.kind = 4 → o.channel = 0 ∧ o.value = 0
  lens : o.draws.length = o.cases.length ∧ o.cases.length ≤ 6
  draws : ∀ (i : Nat) (d : Int), o.draws[i]? = some d → 0 ≤ d ∧ d ≤ (i : Int)
  cases : ∀ c ∈ o.cases, CaseOk c
  val0 : o.kind ≠ 1 → o.value = 0
  val : ValOk o.value

/-- Everything but the mode and the deadline. -/
structure OpPre (o : Op) : Prop where
  kind : o.kind = 1 ∨ o.kind = 2 ∨ o.kind = 4
  m0 : o.mode = 0
  d0 : o.deadline = 0
  ch : ChOk o.channel
  nosel : o.kind ≠ 4 → o.cases = [] ∧ o.draws = []
  sel : o.kind = 4 → o.channel = 0 ∧ o.value = 0
  lens : o.draws.length = o.cases.length ∧ o.cases.length ≤ 6
  draws : ∀ (i : Nat) (d : Int), o.draws[i]? = some d → 0 ≤ d ∧ d ≤ (i : Int)
  cases : ∀ c ∈ o.cases, CaseOk c
  val0 : o.kind ≠ 1 → o.value = 0
  val : ValOk o.value

theorem OpPre.ok {o : Op} (h : OpPre o) {m d : Int} (hm : 0 ≤ m ∧ m ≤ 2) (hd : 0 ≤ d ∧ d ≤ 4) (ht : d ≠ 0 → m = 2) : OpOk (Op.mk o.kind m o.channel o.value d o.cases o.draws) :=
  ⟨by have := h.kind; simp only; omega, hm, by have := h.kind; simp only; omega, h.ch, hd, ht, h.nosel, h.sel, h.lens, h.draws, h.cases, h.val0, h.val⟩

theorem mode_ok {c : Draw_Codes} {o : Op} (hc : Cd c) (ho : OpPre o) : Ok (M_16z c o) fun r => OpOk r.1 ∧ AtOk c.list r.2.1 ∧ r.2.2 = c.value ∧ r.1.kind = o.kind ∧ r.1.cases = o.cases := by
  obtain ⟨hl, ha⟩ := hc
  unfold M_16z
  refine Ok.bd2 (Next_ok ⟨hl, ha⟩ (by omega)) fun n1 a1 ⟨b0, b1, ha1, _⟩ => ?_
  simp only at b0 b1 ha1
  have key : ∀ t, Ok (M_60z n1 c a1 o t) fun r => OpOk r.1 ∧ AtOk c.list r.2.1 ∧ r.2.2 = c.value ∧ r.1.kind = o.kind ∧ r.1.cases = o.cases := by
    intro t
    unfold M_60z
    refine Ok.ite (fun h => ?_) fun h => Ok.ite (fun h' => ?_) fun h' => ?_
    · unfold M_15z
      exact Ok.some ⟨by rw [ho.d0]; exact ho.ok (by omega) (by omega) (by omega), ha1, rfl, rfl, rfl⟩
    · refine Ok.bd2 (Next_ok ⟨hl, ha1⟩ (by omega)) fun n2 a2 ⟨b2, b3, ha2, _⟩ => ?_
      simp only at b2 b3 ha2
      unfold M_15z
      exact Ok.some ⟨ho.ok (by omega) (by omega) (by omega), ha2, rfl, rfl, rfl⟩
    · unfold M_15z
      exact Ok.some ⟨by rw [ho.d0, ho.m0]; exact ho.ok (by omega) (by omega) (by omega), ha1, rfl, rfl, rfl⟩
  exact Ok.ite (fun _ => key _) fun _ => key _

theorem draws_app {l : List Int} {d i : Int} (h : ∀ (j : Nat) (e : Int), l[j]? = some e → 0 ≤ e ∧ e ≤ (j : Int)) (hi : (l.length : Int) = i) (h0 : 0 ≤ d) (h1 : d < i + 1) : ∀ (j : Nat) (e : Int), (l ++ [d])[j]? = some e → 0 ≤ e ∧ e ≤ (j : Int) := by
  intro j e he
  rw [List.getElem?_append] at he
  split at he
  · exact h j e he
  · have hj : j - l.length = 0 := by
      rcases Nat.eq_zero_or_pos (j - l.length) with h | h
      · exact h
      · rw [List.getElem?_eq_none (by simp; omega)] at he; cases he
    rw [hj] at he; simp at he; subst he; omega

theorem Select_ok {c : Draw_Codes} {x : Config} {m : Int} (hc : Cd c) (hx : x.capacities.length ≤ 8) (h0 : 0 ≤ m) (hm : m ≤ 6) : Ok (M_33z c x m) fun r => OpOk r.1 ∧ AtOk c.list r.2.1 ∧ r.1.kind = 4 ∧ (r.1.cases.length : Int) ≤ m := by
  obtain ⟨hl, ha⟩ := hc
  unfold M_33z
  refine lp5_ok (fun i _ _ _ _ => (7 - i).toNat) (fun i a v p q => 0 ≤ i ∧ i ≤ m ∧ AtOk c.list a ∧ (p.length : Int) = i ∧ (q.length : Int) = i ∧ (∀ k ∈ p, CaseOk k) ∧ ∀ (j : Nat) (d : Int), q[j]? = some d → 0 ≤ d ∧ d ≤ (j : Int)) (fun _ _ _ _ _ => _) ?_ BIG 0 _ _ _ _ ⟨by omega, by omega, ha, by simp, by simp, by simp, by simp⟩ (lt_BIG (by omega))
  intro i a v p q k ⟨h0, h3, ha, hp, hq, hpk, hqk⟩ hk
  unfold M_103z
  rw [wI_id (by omega) (by omega)]
  refine Ok.bd2 (Next_ok ⟨hl, ha⟩ (by omega)) fun n1 a1 ⟨b0, b1, ha1, _⟩ => ?_
  simp only at b0 b1 ha1
  refine Ok.ite (fun h => ?_) fun h => ?_
  · refine Ok.bd2 (Next_ok ⟨hl, ha1⟩ (by omega)) fun n2 a2 ⟨b2, b3, ha2, _⟩ => ?_
    simp only at b2 b3 ha2
    refine Ok.bd3 (channel_ok ⟨hl, ha2⟩ hx) fun n4 a4 v4 ⟨b4, ha4, _⟩ => ?_
    simp only at b4 ha4
    have key : ∀ a5 v5 w, AtOk c.list a5 → ValOk w → (dcd (n2 = 1) = false → w = 0) → Ok (M_17z m i c (dcd (n2 = 1)) n4 p q x k a5 v5 w) fun r => OpOk r.1 ∧ AtOk c.list r.2.1 ∧ r.1.kind = 4 ∧ (r.1.cases.length : Int) ≤ m := by
      intro a5 v5 w ha5 hw hw0
      unfold M_17z
      rw [app_eq (by simp; omega), wI_id (by omega) (by omega)]
      simp only [Option.bind_some]
      refine Ok.bd2 (Next_ok ⟨hl, ha5⟩ (by omega)) fun n6 a6 ⟨b6, b7, ha6, _⟩ => ?_
      simp only at b6 b7 ha6
      rw [app_eq (by simp; omega)]
      simp only [Option.bind_some]
      unfold M_101z
      rw [wI_id (by omega) (by omega)]
      refine hk _ _ _ _ _ ⟨by omega, by omega, ha6, by simp; omega, by simp; omega, fun y hy => ?_, draws_app hqk hq b6 b7⟩ (by omega)
      rcases List.mem_append.1 hy with hy | hy
      · exact hpk y hy
      · simp at hy; subst hy; exact ⟨b4, hw0, hw⟩
    unfold M_102z
    refine Ok.ite (fun h' => ?_) fun h' => ?_
    · refine Ok.bd2 Value_ok fun n6 a6 ⟨b6, _⟩ => ?_
      exact key _ _ _ ha4 b6 (fun e => by rw [h'] at e; cases e)
    · exact key _ _ _ ha4 ⟨by omega, by omega⟩ fun _ => rfl
  · unfold M_100z
    refine Ok.bd3 (mode_ok (c := Draw_Codes.mk c.list a1 _) ⟨hl, ha1⟩ ⟨.inr (.inr rfl), rfl, rfl, ⟨by simp only; omega, by simp only; omega⟩, fun h => absurd rfl h, fun _ => ⟨rfl, rfl⟩, ⟨by simp only; omega, by simp only; omega⟩, hqk, hpk, fun _ => rfl, ⟨by simp only; omega, by simp only; omega⟩⟩) fun o a7 v7 ⟨ho, ha7, _, hkd, hcs⟩ => ?_
    exact Ok.some ⟨ho, ha7, hkd, by simp only at hcs ⊢; rw [hcs]; omega⟩

theorem Op_ok {c : Draw_Codes} {x : Config} (hc : Cd c) (hx : x.capacities.length ≤ 8) : Ok (M_34z c x) fun r => OpOk r.1 ∧ AtOk c.list r.2.1 := by
  obtain ⟨hl, ha⟩ := hc
  have chc : ∀ {k : Int} {n : Int}, ChOk n → k = 3 ∨ k = 5 ∨ k = 6 → OpOk (Op.mk k 0 n 0 0 [] []) := fun {k n} hn hk =>
    ⟨by simp only; omega, ⟨by simp only; omega, by simp only; omega⟩, fun _ => rfl, hn, ⟨by simp only; omega, by simp only; omega⟩, fun h => absurd rfl h, fun _ => ⟨rfl, rfl⟩, fun h => by simp only at h; omega, ⟨rfl, by simp⟩, by simp, by simp, fun _ => rfl, ⟨by simp only; omega, by simp only; omega⟩⟩
  unfold M_34z
  refine Ok.bd2 (Next_ok ⟨hl, ha⟩ (by omega)) fun n1 a1 ⟨b0, b1, ha1, _⟩ => ?_
  simp only at b0 b1 ha1
  refine Ok.ite (fun h => ?_) fun h => Ok.ite (fun h' => ?_) fun h' => Ok.ite (fun h2 => ?_) fun h2 => Ok.ite (fun h3 => ?_) fun h3 => Ok.ite (fun h4 => ?_) fun h4 => ?_
  · refine Ok.bd3 (channel_ok (c := Draw_Codes.mk c.list a1 _) ⟨hl, ha1⟩ hx) fun n2 a2 v2 ⟨b2, ha2, _⟩ => ?_
    refine Ok.bd2 Value_ok fun n3 a3 ⟨b3, _⟩ => ?_
    refine Ok.bd3 (mode_ok (c := Draw_Codes.mk c.list a2 _) ⟨hl, ha2⟩ ⟨.inl rfl, rfl, rfl, b2, fun _ => ⟨rfl, rfl⟩, fun h => by simp at h, ⟨rfl, by simp⟩, by simp, by simp, fun h => absurd rfl h, b3⟩) fun o a4 v4 ⟨ho, ha4, _⟩ => ?_
    exact Ok.some ⟨ho, ha4⟩
  · refine Ok.bd3 (channel_ok (c := Draw_Codes.mk c.list a1 _) ⟨hl, ha1⟩ hx) fun n2 a2 v2 ⟨b2, ha2, _⟩ => ?_
    refine Ok.bd3 (mode_ok (c := Draw_Codes.mk c.list a2 _) ⟨hl, ha2⟩ ⟨.inr (.inl rfl), rfl, rfl, b2, fun _ => ⟨rfl, rfl⟩, fun h => by simp at h, ⟨rfl, by simp⟩, by simp, by simp, fun _ => rfl, ⟨by simp only; omega, by simp only; omega⟩⟩) fun o a4 v4 ⟨ho, ha4, _⟩ => ?_
    exact Ok.some ⟨ho, ha4⟩
  · refine Ok.bd3 (Select_ok (c := Draw_Codes.mk c.list a1 _) ⟨hl, ha1⟩ hx (by omega) (by omega)) fun o a2 v2 ⟨ho, ha2, _⟩ => ?_
    exact Ok.some ⟨ho, ha2⟩
  · refine Ok.bd3 (channel_ok (c := Draw_Codes.mk c.list a1 _) ⟨hl, ha1⟩ hx) fun n2 a2 v2 ⟨b2, ha2, _⟩ => ?_
    exact Ok.some ⟨chc b2 (.inl rfl), ha2⟩
  · refine Ok.bd3 (channel_ok (c := Draw_Codes.mk c.list a1 _) ⟨hl, ha1⟩ hx) fun n2 a2 v2 ⟨b2, ha2, _⟩ => ?_
    exact Ok.some ⟨chc b2 (.inr (.inl rfl)), ha2⟩
  · refine Ok.bd3 (channel_ok (c := Draw_Codes.mk c.list a1 _) ⟨hl, ha1⟩ hx) fun n2 a2 v2 ⟨b2, ha2, _⟩ => ?_
    exact Ok.some ⟨chc b2 (.inr (.inr rfl)), ha2⟩
end Go.Hx
