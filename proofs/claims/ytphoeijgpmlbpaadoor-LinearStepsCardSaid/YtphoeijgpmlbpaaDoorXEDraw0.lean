
import Derived.Test.YtphoeijgpmlbpaaDoorXEM
import Derived.Test.YtphoeijgpmlbpaaDoorHxPure
namespace Go.Hx
open Go
set_option linter.unusedVariables false
set_option linter.unusedSimpArgs false

structure Lst (l : List Int) : Prop where
  len : l.length ≤ 1000
  rng : ∀ b ∈ l, 0 ≤ b ∧ b < 256
structure cZ (l : List Int) (a : Int) : Prop where
  lo : 0 ≤ a
  hi : a ≤ (l.length : Int)
def Cd (c : Draw_Codes) : Prop := Lst c.list ∧ cZ c.list c.at_

theorem fv (c : Draw_Codes) : ji c = some (dcd (c.at_ < (c.list.length : Int))) := rfl

theorem bA {c : Draw_Codes} {n : Int} (hc : Cd c) (h1 : 1 ≤ n) : Ok (db c n) fun r => 0 ≤ r.1 ∧ r.1 < n ∧ cZ c.list r.2 ∧ c.at_ ≤ r.2 ∧ (c.at_ < (c.list.length : Int) → r.2 = c.at_ + 1) := by
  obtain ⟨⟨hlen, hrng⟩, hlo, hhi⟩ := hc
  unfold db
  rw [fv]
  simp only [Option.bind_some]
  refine Ok.ite (fun h => ?_) fun h => ?_
  · rw [bF] at h
    rw [bi (x := c.at_ + 1) (by omega) (by omega), bi (x := c.at_ + 1 - 1) (by omega) (by omega)]
    refine Ok.bind (Ok.getI (P := fun x => 0 ≤ x ∧ x < 256) (by omega) (by omega) fun x _ hx => hrng x hx) fun x ⟨hx0, hx1⟩ => ?_
    rw [bi (x := x) (by omega) (by omega)]
    have hn : fF x n = some (Int.tmod x n) := by unfold fF; rw [if_neg (by omega)]
    rw [hn]
    refine Ok.some ⟨?_, ?_, ⟨by simp only; omega, by simp only; omega⟩, by simp only; omega, fun _ => rfl⟩
    · simp only; exact Int.tmod_nonneg _ hx0
    · simp only; exact Int.tmod_lt_of_pos _ (by omega)
  · rw [bF] at h
    refine Ok.some ⟨by simp only; omega, by simp only; omega, ⟨hlo, hhi⟩, by simp only; omega, fun h' => absurd h' h⟩

theorem qm {l : List Int} {m : Int} (hl : ∀ b ∈ l, 0 ≤ b ∧ b < 256) (h0 : 0 ≤ m) (hm : m ≤ 1000) : Ok (gn l m) fun c => Cd c ∧ c.at_ = 0 ∧ c.value = 0 ∧ c.list = l.take m.toNat := by
  unfold gn
  refine Ok.ite (fun h => ?_) fun h => ?_
  · rw [ct (by omega) (by omega) (by omega)]
    refine Ok.some ⟨⟨⟨by simp; omega, fun b hb => hl b (List.mem_of_mem_take (by simpa using hb))⟩, by simp, by simp only; omega⟩, rfl, rfl, by simp⟩
  · refine Ok.some ⟨⟨⟨by simp only; omega, hl⟩, by simp, by simp only; omega⟩, rfl, rfl, ?_⟩
    rw [List.take_of_length_le (by omega)]

theorem cl {α : Type} {l : List α} {i : Int} {x y : α} (h : y ∈ aI l i x) : y = x ∨ y ∈ l := by
  unfold aI at h
  rcases List.mem_or_eq_of_mem_set h with h | h
  · exact .inr h
  · exact .inl h
theorem aL {α : Type} {l : List α} {i : Int} {x : α} : (aI l i x).length = l.length := by simp [aI]
end Go.Hx

namespace Go.Hx
open Go
set_option linter.unusedVariables false
set_option linter.unusedSimpArgs false

structure pg (x : Config) : Prop where
  n1 : 1 ≤ x.capacities.length
  n3 : x.capacities.length ≤ 3
  ns : x.starts.length = x.capacities.length
  t2 : 2 ≤ x.threads
  t4 : x.threads ≤ 4
  cap : ∀ k ∈ x.capacities, 0 ≤ k ∧ k ≤ 3
  st : ∀ k ∈ x.starts, 0 ≤ k ∧ k < 9223372036854775808

theorem nV {c : Draw_Codes} (hc : Cd c) : Ok (fN c) fun r => pg r.1 ∧ cZ c.list r.2.1 := by
  obtain ⟨hl, ha⟩ := hc
  unfold fN
  refine fY (fun i _ _ _ _ => (4 - i).toNat) (fun i a v p q => 0 ≤ i ∧ i ≤ 3 ∧ cZ c.list a ∧ (p.length : Int) = i ∧ (q.length : Int) = i ∧ (∀ k ∈ p, 0 ≤ k ∧ k ≤ 3) ∧ ∀ k ∈ q, 0 ≤ k ∧ k < 9223372036854775808) (fun _ _ _ _ _ => _) ?_ BIG 0 _ _ _ _ ⟨by omega, by omega, ha, by simp, by simp, by simp, by simp⟩ (bI (by omega))
  intro i a v p q k ⟨h0, h3, ha, hp, hq, hpk, hqk⟩ hk
  unfold jR
  refine Ok.bd2 (bA ⟨hl, ha⟩ (by omega)) fun n1 a1 ⟨b0, b1, ha1, _⟩ => ?_
  simp only at b0 b1 ha1
  refine Ok.ite (fun h => ?_) fun h => ?_
  · refine Ok.bd2 (bA ⟨hl, ha1⟩ (by omega)) fun n2 a2 ⟨b2, b3, ha2, _⟩ => ?_
    simp only at b2 b3 ha2
    refine Ok.bind (Ok.getI (P := fun x => 0 ≤ x ∧ x ≤ 3) b2 (by simpa using b3) fun x _ hx => ?_) fun x hx => ?_
    · simp only [List.mem_cons, List.not_mem_nil, or_false] at hx
      rcases hx with rfl | rfl | rfl | rfl | rfl | rfl <;> omega
    rw [bn (by simp; omega)]
    simp only [Option.bind_some]
    unfold jF
    refine Ok.bd2 (bA ⟨hl, ha2⟩ (by omega)) fun n4 a4 ⟨b4, b5, ha4, _⟩ => ?_
    simp only at b4 b5 ha4
    refine Ok.bind (Ok.getI (P := fun x => 0 ≤ x ∧ x < 9223372036854775808) b4 (by simpa using b5) fun x _ hx => ?_) fun y hy => ?_
    · simp only [List.mem_cons, List.not_mem_nil, or_false] at hx
      rcases hx with rfl | rfl | rfl | rfl | rfl | rfl <;> omega
    rw [bn (by simp; omega)]
    simp only [Option.bind_some]
    unfold kq
    rw [bi (by omega) (by omega)]
    refine hk _ _ _ _ _ ⟨by omega, by omega, ha4, by simp; omega, by simp; omega, fun k hk => ?_, fun k hk => ?_⟩ (by omega)
    · rcases List.mem_append.1 hk with hk | hk
      · exact hpk k hk
      · simp at hk; subst hk; exact hx
    · rcases List.mem_append.1 hk with hk | hk
      · exact hqk k hk
      · simp at hk; subst hk; exact hy
  · unfold jP
    refine Ok.bd2 (bA ⟨hl, ha1⟩ (by omega)) fun n2 a2 ⟨b2, b3, ha2, _⟩ => ?_
    simp only at b2 b3 ha2
    refine Ok.some ⟨⟨?_, ?_, ?_, ?_, ?_, hpk, hqk⟩, ha2⟩
    · simp only; omega
    · simp only; omega
    · simp only; omega
    · simp only; rw [bi (by omega) (by omega)]; omega
    · simp only; rw [bi (by omega) (by omega)]; omega

def oY (n : Int) : Prop := -1 ≤ n ∧ n ≤ 7
theorem bG {c : Draw_Codes} {x : Config} (hc : Cd c) (hx : x.capacities.length ≤ 8) : Ok (dG c x) fun r => oY r.1 ∧ cZ c.list r.2.1 ∧ r.2.2 = c.value := by
  obtain ⟨hl, ha⟩ := hc
  unfold dG
  refine Ok.bd2 (bA ⟨hl, ha⟩ (by omega)) fun n1 a1 ⟨b0, b1, ha1, _⟩ => ?_
  simp only at b0 b1 ha1
  refine Ok.ite (fun h => ?_) fun h => Ok.ite (fun h' => ?_) fun h' => ?_
  · refine Ok.bd2 (bA ⟨hl, ha1⟩ (by omega)) fun n2 a2 ⟨b2, b3, ha2, _⟩ => ?_
    simp only at b2 b3 ha2
    rw [bi (by omega) (by omega)]
    exact Ok.some ⟨⟨by simp only; omega, by simp only; omega⟩, ha2, rfl⟩
  · exact Ok.some ⟨⟨by simp only; omega, by simp only; omega⟩, ha1, rfl⟩
  · refine Ok.bd2 (bA ⟨hl, ha1⟩ (by omega)) fun n2 a2 ⟨b2, b3, ha2, _⟩ => ?_
    simp only at b2 b3 ha2
    exact Ok.some ⟨⟨by simp only; omega, by simp only; omega⟩, ha2, rfl⟩

def iE (v : Int) : Prop := 0 ≤ v ∧ v < 18446744073709551616
theorem d8 {c : Draw_Codes} : Ok (gt c) fun r => iE r.1 ∧ r.1 = wU (c.value + 1) ∧ r.2 = wU (c.value + 1) := Ok.some ⟨qC _, rfl, rfl⟩

structure jJ (c : Case) : Prop where
  ch : oY c.channel
  v0 : c.send = false → c.value = 0
  v : iE c.value
structure OpOk (o : Op) : Prop where
  kind : 1 ≤ o.kind ∧ o.kind ≤ 6
  mode : 0 ≤ o.mode ∧ o.mode ≤ 2
  plain : o.kind = 3 ∨ o.kind = 5 ∨ o.kind = 6 → o.mode = 0
  ch : oY o.channel
  dead : 0 ≤ o.deadline ∧ o.deadline ≤ 4
  timed : o.deadline ≠ 0 → o.mode = 2
  nosel : o.kind ≠ 4 → o.cases = [] ∧ o.draws = []
  sel : o.kind = 4 → o.channel = 0 ∧ o.value = 0
  lens : o.draws.length = o.cases.length ∧ o.cases.length ≤ 6
  draws : ∀ (i : Nat) (d : Int), o.draws[i]? = some d → 0 ≤ d ∧ d ≤ (i : Int)
  cases : ∀ c ∈ o.cases, jJ c
  val0 : o.kind ≠ 1 → o.value = 0
  val : iE o.value

structure OpPre (o : Op) : Prop where
  kind : o.kind = 1 ∨ o.kind = 2 ∨ o.kind = 4
  m0 : o.mode = 0
  d0 : o.deadline = 0
  ch : oY o.channel
  nosel : o.kind ≠ 4 → o.cases = [] ∧ o.draws = []
  sel : o.kind = 4 → o.channel = 0 ∧ o.value = 0
  lens : o.draws.length = o.cases.length ∧ o.cases.length ≤ 6
  draws : ∀ (i : Nat) (d : Int), o.draws[i]? = some d → 0 ≤ d ∧ d ≤ (i : Int)
  cases : ∀ c ∈ o.cases, jJ c
  val0 : o.kind ≠ 1 → o.value = 0
  val : iE o.value

theorem OpPre.ok {o : Op} (h : OpPre o) {m d : Int} (hm : 0 ≤ m ∧ m ≤ 2) (hd : 0 ≤ d ∧ d ≤ 4) (ht : d ≠ 0 → m = 2) : OpOk (Op.mk o.kind m o.channel o.value d o.cases o.draws) :=
  ⟨by have := h.kind; simp only; omega, hm, by have := h.kind; simp only; omega, h.ch, hd, ht, h.nosel, h.sel, h.lens, h.draws, h.cases, h.val0, h.val⟩

theorem fB {c : Draw_Codes} {o : Op} (hc : Cd c) (ho : OpPre o) : Ok (eN c o) fun r => OpOk r.1 ∧ cZ c.list r.2.1 ∧ r.2.2 = c.value ∧ r.1.kind = o.kind ∧ r.1.cases = o.cases := by
  obtain ⟨hl, ha⟩ := hc
  unfold eN
  refine Ok.bd2 (bA ⟨hl, ha⟩ (by omega)) fun n1 a1 ⟨b0, b1, ha1, _⟩ => ?_
  simp only at b0 b1 ha1
  have key : ∀ t, Ok (iP n1 c a1 o t) fun r => OpOk r.1 ∧ cZ c.list r.2.1 ∧ r.2.2 = c.value ∧ r.1.kind = o.kind ∧ r.1.cases = o.cases := by
    intro t
    unfold iP
    refine Ok.ite (fun h => ?_) fun h => Ok.ite (fun h' => ?_) fun h' => ?_
    · unfold eK
      exact Ok.some ⟨by rw [ho.d0]; exact ho.ok (by omega) (by omega) (by omega), ha1, rfl, rfl, rfl⟩
    · refine Ok.bd2 (bA ⟨hl, ha1⟩ (by omega)) fun n2 a2 ⟨b2, b3, ha2, _⟩ => ?_
      simp only at b2 b3 ha2
      unfold eK
      exact Ok.some ⟨ho.ok (by omega) (by omega) (by omega), ha2, rfl, rfl, rfl⟩
    · unfold eK
      exact Ok.some ⟨by rw [ho.d0, ho.m0]; exact ho.ok (by omega) (by omega) (by omega), ha1, rfl, rfl, rfl⟩
  exact Ok.ite (fun _ => key _) fun _ => key _

theorem jh {l : List Int} {d i : Int} (h : ∀ (j : Nat) (e : Int), l[j]? = some e → 0 ≤ e ∧ e ≤ (j : Int)) (hi : (l.length : Int) = i) (h0 : 0 ≤ d) (h1 : d < i + 1) : ∀ (j : Nat) (e : Int), (l ++ [d])[j]? = some e → 0 ≤ e ∧ e ≤ (j : Int) := by
  intro j e he
  rw [List.getElem?_append] at he
  split at he
  · exact h j e he
  · have hj : j - l.length = 0 := by
      rcases Nat.eq_zero_or_pos (j - l.length) with h | h
      · exact h
      · rw [List.getElem?_eq_none (by simp; omega)] at he; cases he
    rw [hj] at he; simp at he; subst he; omega

theorem nX {c : Draw_Codes} {x : Config} {m : Int} (hc : Cd c) (hx : x.capacities.length ≤ 8) (h0 : 0 ≤ m) (hm : m ≤ 6) : Ok (gF c x m) fun r => OpOk r.1 ∧ cZ c.list r.2.1 ∧ r.1.kind = 4 ∧ (r.1.cases.length : Int) ≤ m := by
  obtain ⟨hl, ha⟩ := hc
  unfold gF
  refine fY (fun i _ _ _ _ => (7 - i).toNat) (fun i a v p q => 0 ≤ i ∧ i ≤ m ∧ cZ c.list a ∧ (p.length : Int) = i ∧ (q.length : Int) = i ∧ (∀ k ∈ p, jJ k) ∧ ∀ (j : Nat) (d : Int), q[j]? = some d → 0 ≤ d ∧ d ≤ (j : Int)) (fun _ _ _ _ _ => _) ?_ BIG 0 _ _ _ _ ⟨by omega, by omega, ha, by simp, by simp, by simp, by simp⟩ (bI (by omega))
  intro i a v p q k ⟨h0, h3, ha, hp, hq, hpk, hqk⟩ hk
  unfold gP
  rw [bi (by omega) (by omega)]
  refine Ok.bd2 (bA ⟨hl, ha⟩ (by omega)) fun n1 a1 ⟨b0, b1, ha1, _⟩ => ?_
  simp only at b0 b1 ha1
  refine Ok.ite (fun h => ?_) fun h => ?_
  · refine Ok.bd2 (bA ⟨hl, ha1⟩ (by omega)) fun n2 a2 ⟨b2, b3, ha2, _⟩ => ?_
    simp only at b2 b3 ha2
    refine Ok.bd3 (bG ⟨hl, ha2⟩ hx) fun n4 a4 v4 ⟨b4, ha4, _⟩ => ?_
    simp only at b4 ha4
    have key : ∀ a5 v5 w, cZ c.list a5 → iE w → (dcd (n2 = 1) = false → w = 0) → Ok (eR m i c (dcd (n2 = 1)) n4 p q x k a5 v5 w) fun r => OpOk r.1 ∧ cZ c.list r.2.1 ∧ r.1.kind = 4 ∧ (r.1.cases.length : Int) ≤ m := by
      intro a5 v5 w ha5 hw hw0
      unfold eR
      rw [bn (by simp; omega), bi (by omega) (by omega)]
      simp only [Option.bind_some]
      refine Ok.bd2 (bA ⟨hl, ha5⟩ (by omega)) fun n6 a6 ⟨b6, b7, ha6, _⟩ => ?_
      simp only at b6 b7 ha6
      rw [bn (by simp; omega)]
      simp only [Option.bind_some]
      unfold gh
      rw [bi (by omega) (by omega)]
      refine hk _ _ _ _ _ ⟨by omega, by omega, ha6, by simp; omega, by simp; omega, fun y hy => ?_, jh hqk hq b6 b7⟩ (by omega)
      rcases List.mem_append.1 hy with hy | hy
      · exact hpk y hy
      · simp at hy; subst hy; exact ⟨b4, hw0, hw⟩
    unfold gv
    refine Ok.ite (fun h' => ?_) fun h' => ?_
    · refine Ok.bd2 d8 fun n6 a6 ⟨b6, _⟩ => ?_
      exact key _ _ _ ha4 b6 (fun e => by rw [h'] at e; cases e)
    · exact key _ _ _ ha4 ⟨by omega, by omega⟩ fun _ => rfl
  · unfold hE
    refine Ok.bd3 (fB (c := Draw_Codes.mk c.list a1 _) ⟨hl, ha1⟩ ⟨.inr (.inr rfl), rfl, rfl, ⟨by simp only; omega, by simp only; omega⟩, fun h => absurd rfl h, fun _ => ⟨rfl, rfl⟩, ⟨by simp only; omega, by simp only; omega⟩, hqk, hpk, fun _ => rfl, ⟨by simp only; omega, by simp only; omega⟩⟩) fun o a7 v7 ⟨ho, ha7, _, hkd, hcs⟩ => ?_
    exact Ok.some ⟨ho, ha7, hkd, by simp only at hcs ⊢; rw [hcs]; omega⟩

theorem qc {c : Draw_Codes} {x : Config} (hc : Cd c) (hx : x.capacities.length ≤ 8) : Ok (gI c x) fun r => OpOk r.1 ∧ cZ c.list r.2.1 := by
  obtain ⟨hl, ha⟩ := hc
  have chc : ∀ {k : Int} {n : Int}, oY n → k = 3 ∨ k = 5 ∨ k = 6 → OpOk (Op.mk k 0 n 0 0 [] []) := fun {k n} hn hk =>
    ⟨by simp only; omega, ⟨by simp only; omega, by simp only; omega⟩, fun _ => rfl, hn, ⟨by simp only; omega, by simp only; omega⟩, fun h => absurd rfl h, fun _ => ⟨rfl, rfl⟩, fun h => by simp only at h; omega, ⟨rfl, by simp⟩, by simp, by simp, fun _ => rfl, ⟨by simp only; omega, by simp only; omega⟩⟩
  unfold gI
  refine Ok.bd2 (bA ⟨hl, ha⟩ (by omega)) fun n1 a1 ⟨b0, b1, ha1, _⟩ => ?_
  simp only at b0 b1 ha1
  refine Ok.ite (fun h => ?_) fun h => Ok.ite (fun h' => ?_) fun h' => Ok.ite (fun h2 => ?_) fun h2 => Ok.ite (fun h3 => ?_) fun h3 => Ok.ite (fun h4 => ?_) fun h4 => ?_
  · refine Ok.bd3 (bG (c := Draw_Codes.mk c.list a1 _) ⟨hl, ha1⟩ hx) fun n2 a2 v2 ⟨b2, ha2, _⟩ => ?_
    refine Ok.bd2 d8 fun n3 a3 ⟨b3, _⟩ => ?_
    refine Ok.bd3 (fB (c := Draw_Codes.mk c.list a2 _) ⟨hl, ha2⟩ ⟨.inl rfl, rfl, rfl, b2, fun _ => ⟨rfl, rfl⟩, fun h => by simp at h, ⟨rfl, by simp⟩, by simp, by simp, fun h => absurd rfl h, b3⟩) fun o a4 v4 ⟨ho, ha4, _⟩ => ?_
    exact Ok.some ⟨ho, ha4⟩
  · refine Ok.bd3 (bG (c := Draw_Codes.mk c.list a1 _) ⟨hl, ha1⟩ hx) fun n2 a2 v2 ⟨b2, ha2, _⟩ => ?_
    refine Ok.bd3 (fB (c := Draw_Codes.mk c.list a2 _) ⟨hl, ha2⟩ ⟨.inr (.inl rfl), rfl, rfl, b2, fun _ => ⟨rfl, rfl⟩, fun h => by simp at h, ⟨rfl, by simp⟩, by simp, by simp, fun _ => rfl, ⟨by simp only; omega, by simp only; omega⟩⟩) fun o a4 v4 ⟨ho, ha4, _⟩ => ?_
    exact Ok.some ⟨ho, ha4⟩
  · refine Ok.bd3 (nX (c := Draw_Codes.mk c.list a1 _) ⟨hl, ha1⟩ hx (by omega) (by omega)) fun o a2 v2 ⟨ho, ha2, _⟩ => ?_
    exact Ok.some ⟨ho, ha2⟩
  · refine Ok.bd3 (bG (c := Draw_Codes.mk c.list a1 _) ⟨hl, ha1⟩ hx) fun n2 a2 v2 ⟨b2, ha2, _⟩ => ?_
    exact Ok.some ⟨chc b2 (.inl rfl), ha2⟩
  · refine Ok.bd3 (bG (c := Draw_Codes.mk c.list a1 _) ⟨hl, ha1⟩ hx) fun n2 a2 v2 ⟨b2, ha2, _⟩ => ?_
    exact Ok.some ⟨chc b2 (.inr (.inl rfl)), ha2⟩
  · refine Ok.bd3 (bG (c := Draw_Codes.mk c.list a1 _) ⟨hl, ha1⟩ hx) fun n2 a2 v2 ⟨b2, ha2, _⟩ => ?_
    exact Ok.some ⟨chc b2 (.inr (.inr rfl)), ha2⟩
end Go.Hx

namespace Go.Hx
open Go
set_option linter.unusedVariables false
set_option linter.unusedSimpArgs false

structure bO (l : List Chan) : Prop where
  len : l.length ≤ 1000
  buf : ∀ c ∈ l, c.buffer.length ≤ 1000
  cap : ∀ c ∈ l, c.capacity ≤ 1000

def gm : Case := Case.mk false 0 0
def cw (op : Op) : Bool := decide (op.kind = 1) || decide (op.kind = 2)
def cv (op : Op) : Case := Case.mk (dcd (op.kind = 1)) op.channel op.value
theorem iN (op : Op) : gS op = some (if cw op = true then cv op else gm, cw op) := by
  unfold gS k9 cw cv gm
  by_cases h1 : op.kind = 1 <;> by_cases h2 : op.kind = 2 <;> simp [h1, h2, bl]
theorem dD (op : Op) : fW op = some (if cw op = true then cv op else gm, cw op) := by
  unfold fW iV cw cv gm
  by_cases h1 : op.kind = 1 <;> by_cases h2 : op.kind = 2 <;> simp [h1, h2, bl]
def bC (op : Op) (i : Int) : Option Case := if cw op = true then (if i = -1 then some (cv op) else none) else if op.kind = 4 then getI op.cases i else none
def nw (op : Op) (i : Int) : Case := if cw op = true then cv op else (bC op i).getD gm
theorem jo {op : Op} (h : op.kind = 4) : cw op = false := by simp [cw, h]
theorem jX (op : Op) (i : Int) : gb op i = some (nw op i, (bC op i).isSome) := by
  unfold gb iM nw bC
  rw [iN]
  simp only [cd]
  by_cases h : cw op = true
  · rw [if_pos h, if_pos h, if_pos h, if_pos h]
    by_cases hi : i = -1 <;> simp [hi, bl]
  · rw [if_neg h, if_neg h, if_neg h]
    by_cases h4 : op.kind = 4
    · rw [if_pos h4, if_pos h4]
      by_cases h0 : i < 0
      · rw [if_pos h0, bb (.inl h0)]; rfl
      · rw [if_neg h0]
        by_cases h1 : i ≥ (op.cases.length : Int)
        · rw [bF.2 h1, bb (.inr h1)]; rfl
        · rw [cX.2 h1, aH (by omega) (by omega)]; rfl
    · rw [if_neg h4, if_neg h4]; rfl
theorem eF (op : Op) (r : Result) : ∃ x, d9 op r = some (x, (bC op r.case_).isSome) ∧ ∀ y, bC op r.case_ = some y → x = y := by
  unfold d9 fG bC
  rw [dD]
  simp only [cd]
  by_cases h4 : op.kind = 4
  · rw [if_pos h4, jo h4, if_pos h4]
    simp only [Bool.false_eq_true, if_false]
    by_cases h0 : r.case_ < 0
    · rw [if_pos h0, bb (.inl h0)]; exact ⟨_, rfl, fun y h => by cases h⟩
    · rw [if_neg h0]
      by_cases h1 : r.case_ ≥ (op.cases.length : Int)
      · rw [bF.2 h1, bb (.inr h1)]; exact ⟨_, rfl, fun y h => by cases h⟩
      · rw [cX.2 h1, aH (by omega) (by omega)]; exact ⟨_, rfl, fun y h => by cases h; rfl⟩
  · rw [if_neg h4, if_neg h4]
    by_cases h : cw op = true
    · rw [if_pos h, if_pos h, if_pos h]
      by_cases hi : r.case_ = -1
      · exact ⟨cv op, by simp [hi, bl], fun y hy => by rw [if_pos hi] at hy; cases hy; rfl⟩
      · exact ⟨cv op, by simp [hi, bl], fun y hy => by rw [if_neg hi] at hy; cases hy⟩
    · rw [if_neg h, if_neg h]
      rw [Bool.not_eq_true] at h
      rw [h]
      exact ⟨_, rfl, fun y hy => by simp at hy⟩
theorem cP {op : Op} {i : Int} {x : Case} (h : bC op i = some x) : nw op i = x := by
  unfold nw
  by_cases hs : cw op = true
  · rw [if_pos hs]
    unfold bC at h
    rw [if_pos hs] at h
    split at h
    · cases h; rfl
    · cases h
  · rw [if_neg hs, h]; rfl
def cu (l : List Chan) (i : Int) : Chan := (getI l i).getD (Chan.mk 0 [] false)
theorem ku (l : List Chan) (i : Int) : eg l i = some (cu l i, (getI l i).isSome) := by
  unfold eg lU cu
  by_cases h0 : i < 0
  · rw [if_pos h0, bb (.inl h0)]; rfl
  · rw [if_neg h0]
    by_cases h1 : i ≥ (l.length : Int)
    · rw [bF.2 h1, bb (.inr h1)]; rfl
    · rw [cX.2 h1, aH (by omega) (by omega)]; rfl
theorem cI (l : List Chan) (i : Int) : gB l i = some (getI l i).isSome := by
  unfold gB
  by_cases h0 : i ≥ 0
  · rw [if_pos h0]
    by_cases h1 : i < (l.length : Int)
    · rw [bF.2 h1, aH h0 h1]; rfl
    · rw [cX.2 h1, bb (.inr (by omega))]; rfl
  · rw [if_neg h0, bb (.inl (by omega))]; rfl
def f9 (l : List Chan) (x : Case) : Bool := match getI l x.channel with
  | none => false
  | some c => if x.send = true then c.closed || decide ((c.buffer.length : Int) < c.capacity) else c.closed || decide ((c.buffer.length : Int) > 0)
theorem oT (l : List Chan) (x : Case) : lR l x = some (f9 l x) := by
  unfold lR f9
  rw [ku]
  simp only [cd, cu]
  cases getI l x.channel with
  | none => rfl
  | some c => cases hs : x.send <;> cases hc : c.closed <;> simp [bl, hc]
theorem jw (l : List Chan) (x : Case) : fa l x = some (f9 l x) := by
  unfold fa f9
  rw [cI]
  simp only [Option.bind_some]
  cases getI l x.channel with
  | none => rfl
  | some c => cases hs : x.send <;> cases hc : c.closed <;> simp [bl, hc]

def bc (r : Result) (v n : Bool) : Bool := (v || (decide (r.value = 0) && !r.ok)) && (n || decide (r.number = 0))
theorem cF (r : Result) (v n : Bool) : dz r v n = some (bc r v n) := by
  unfold dz eh bc
  cases v <;> cases n <;> by_cases h : r.value = 0 <;> cases h2 : r.ok <;> simp [h, bl]
theorem ou {l : List Chan} (h : l.length ≤ 1000) : lj l = some l := by
  unfold lj; rw [bn (by simp; omega)]; rfl
theorem kC {l : List Chan} {i : Int} {c c' : Chan} (h : l.length ≤ 1000) (hi : getI l i = some c) : dA l i c' = some (aI l i c') := by
  unfold dA; rw [ou h]; simp only [Option.bind_some]; rw [hi]; rfl
theorem mX {l : List Chan} {i : Int} {c c' : Chan} (h : l.length ≤ 1000) (hi : getI l i = some c) : gq l i c' = some (aI l i c') := by
  unfold gq; rw [bn (by simp; omega)]; simp only [Option.bind_some, List.nil_append]; rw [hi]; rfl
def bv (l : List Chan) (cs : List Case) : Bool := cs.any (f9 l)
theorem ow {l : List Chan} {cs : List Case} (hc : cs.length ≤ 1000) : Ok (lb cs l) fun r => -1 ≤ r ∧ (r ≥ 0 ↔ bv l cs = true) := by
  unfold lb
  refine dN (fun i => ((cs.length : Int) - i).toNat) (fun i => 0 ≤ i ∧ i ≤ (cs.length : Int) ∧ (bv l cs = true ↔ bv l (cs.drop i.toNat) = true)) (fun _ => _) ?_ BIG 0 ⟨by omega, by omega, by simp⟩ (bI (by omega))
  intro i k ⟨h0, h1, h2⟩ hk
  unfold jW
  refine Ok.ite (fun h => ?_) fun h => ?_
  · have hg := aH h0 h
    rw [hg]
    simp only [Option.bind_some]
    rw [bK hg] at h2
    generalize cs[i.toNat]'(by omega) = x at *
    unfold kN
    rw [oT]
    simp only [Option.bind_some]
    refine Ok.ite (fun hr => Ok.some ⟨by omega, ?_⟩) fun hr => ?_
    · rw [h2]; simp only [bv, List.any_cons, hr, Bool.true_or]; exact ⟨fun _ => trivial, fun _ => h0⟩
    · rw [bi (by omega) (by omega)]
      refine hk _ ⟨by omega, by omega, ?_⟩ (by omega)
      rw [h2]; simp only [bv, List.any_cons]; simp [hr]
  · unfold jG
    refine Ok.some ⟨by omega, ?_⟩
    rw [h2, List.drop_eq_nil_of_le (by omega)]
    simp [bv]
theorem ld {l : List Chan} {cs : List Case} (hc : cs.length ≤ 1000) : i2 cs l = some (bv l cs) := by
  unfold i2
  obtain ⟨r, hr, h1, h2⟩ := ow (l := l) hc
  rw [hr]
  simp only [Option.bind_some]
  congr 1
  rw [bl, Bool.eq_iff_iff, decide_eq_true_iff]; exact h2
def casesS (op : Op) : List Case := if op.kind = 4 then op.cases else if cw op = true then [cv op] else []
theorem kM (op : Op) : hQ op = some (casesS op) := by
  unfold hQ casesS
  rw [dD]
  by_cases h : op.kind = 4
  · rw [if_pos h, if_pos h]
  · rw [if_neg h, if_neg h]
    simp only [cd]
    by_cases h2 : cw op = true
    · simp only [h2, if_true]
    · rw [if_neg h2, if_neg h2]
theorem qw (op : Op) : iT op = some (if cw op = true then [cv op] else op.cases) := by
  unfold iT
  rw [iN]
  simp only [cd]
  by_cases h2 : cw op = true
  · simp only [h2, if_true]
  · rw [if_neg h2, if_neg h2]
theorem mf {l : List Chan} {op : Op} (hc : (casesS op).length ≤ 1000) : fT l op = some (!bv l (casesS op)) := by
  refine Ok.eq ?_
  unfold fT
  rw [kM]
  simp only [Option.bind_some]
  generalize casesS op = cs at *
  refine dN (fun i => ((cs.length : Int) - i).toNat) (fun i => 0 ≤ i ∧ i ≤ (cs.length : Int) ∧ bv l cs = bv l (cs.drop i.toNat)) (fun _ => _) ?_ BIG 0 ⟨by omega, by omega, by simp⟩ (bI (by omega))
  intro i k ⟨h0, h1, h2⟩ hk
  unfold j9
  refine Ok.ite (fun h => ?_) fun h => ?_
  · have hg := aH h0 h
    rw [hg]
    simp only [Option.bind_some]
    rw [bK hg] at h2
    generalize cs[i.toNat]'(by omega) = x at *
    rw [jw]
    simp only [Option.bind_some]
    refine Ok.ite (fun hr => Ok.some ?_) fun hr => ?_
    · rw [h2]; simp [bv, hr]
    · rw [bi (by omega) (by omega)]
      refine hk _ ⟨by omega, by omega, ?_⟩ (by omega)
      rw [h2]; simp [bv, hr]
  · unfold jT
    refine Ok.some ?_
    rw [h2, List.drop_eq_nil_of_le (by omega)]
    simp [bv]

structure OpM (op : Op) : Prop where
  mode : cw op = false → op.kind ≠ 4 → op.mode = 0
  nc : op.kind ≠ 4 → op.cases = []
  len : op.cases.length ≤ 1000
theorem OpOk.m {op : Op} (h : OpOk op) : OpM op := ⟨fun h1 h2 => h.plain (by
  have := h.kind
  simp [cw] at h1
  omega), fun h2 => (h.nosel h2).1, by have := h.lens; omega⟩
theorem OpM.casesS {op : Op} (h : OpM op) : (if cw op = true then [cv op] else op.cases) = Hx.casesS op := by
  unfold Hx.casesS
  by_cases h4 : op.kind = 4
  · rw [if_pos h4, jo h4]; rfl
  · rw [if_neg h4, h.nc h4]
theorem OpM.casesLen {op : Op} (h : OpM op) : (Hx.casesS op).length ≤ 1000 := by
  unfold Hx.casesS
  have := h.len
  split
  · omega
  · split <;> simp
def dy (l : List Chan) (x : Case) (r : Result) : List Chan × Bool := match getI l x.channel with
  | none => ([], false)
  | some c =>
    if r.kind = 1 then (if (x.send && (bc r false false && (!c.closed && decide ((c.buffer.length : Int) < c.capacity)))) = true then (aI l x.channel (Chan.mk c.capacity (c.buffer ++ [x.value]) c.closed), true) else ([], false))
    else if r.kind = 5 then (if (x.send && (bc r false false && c.closed)) = true then (l, true) else ([], false))
    else if r.kind = 2 then (if x.send = true then ([], false) else if r.ok = true then (if (decide (r.number = 0) && decide (getI c.buffer 0 = some r.value)) = true then (aI l x.channel (Chan.mk c.capacity (c.buffer.drop 1) c.closed), true) else ([], false))
      else (if (decide (r.number = 0) && (decide (r.value = 0) && (c.closed && decide (c.buffer.length = 0)))) = true then (l, true) else ([], false)))
    else ([], false)
def cC (l : List Chan) (op : Op) (r : Result) : Bool := match getI l op.channel with
  | none => true
  | some c => c.closed
def dh (l : List Chan) (op : Op) : Int := match getI l op.channel with
  | none => 0
  | some c => if op.kind = 6 then c.capacity else (c.buffer.length : Int)
def bj (l : List Chan) (op : Op) (r : Result) : List Chan × Bool :=
  if r.kind = 1 ∨ r.kind = 2 ∨ (r.kind = 5 ∧ op.kind ≠ 3) then (match bC op r.case_ with
    | none => ([], false)
    | some x => dy l x r)
  else if r.kind = 5 then (if (decide (r.case_ = -1) && (bc r false false && cC l op r)) = true then (l, true) else ([], false))
  else if r.kind = 6 then (if (decide (op.kind = 3) && (decide (r.case_ = -1) && (bc r false false && !cC l op r))) = true then (match getI l op.channel with
    | none => ([], false)
    | some c => (aI l op.channel (Chan.mk c.capacity c.buffer true), true)) else ([], false))
  else if r.kind = 3 then (if (decide (op.mode = 1) && (decide (r.case_ = -1) && (bc r false false && !bv l (casesS op)))) = true then (l, true) else ([], false))
  else if r.kind = 4 then (if (decide (op.mode = 2) && (decide (r.case_ = -1) && bc r false false)) = true then (l, true) else ([], false))
  else if r.kind = 7 then (if ((decide (op.kind = 5) || decide (op.kind = 6)) && (decide (r.case_ = -1) && (bc r false true && decide (r.number = dh l op)))) = true then (l, true) else ([], false))
  else ([], false)
theorem nU {op : Op} (h : cw op = true) : op.kind = 1 ∨ op.kind = 2 := by simpa [cw] using h
theorem pY {l : List Int} (h : l.length ≤ 1000) : k7 l = some l := by
  unfold k7; rw [bn (by simp; omega)]; rfl
theorem qy {l : List Chan} {x : Case} {r : Result} (hl : bO l) (hk : r.kind = 1 ∨ r.kind = 2 ∨ r.kind = 5) : ∃ m, hO l x r = some (m, (dy l x r).2) ∧ ((dy l x r).2 = true → m = (dy l x r).1) := by
  unfold hO dy
  rw [cI]
  simp only [Option.bind_some]
  cases hc : getI l x.channel with
  | none => exact ⟨[], rfl, fun h => by cases h⟩
  | some c =>
    have hbl := hl.buf c (bf hc)
    have hcl := hl.cap c (bf hc)
    simp only [Option.isSome_some, if_true, Option.bind_some]
    rcases hk with hk | hk | hk
    · rw [if_pos hk, if_pos hk]
      unfold f4 iI kQ gK eQ hZ
      cases hs : x.send
      · simp [hk]
      · rw [bn (by simp; omega)]
        simp only [cF, if_true, Option.bind_some, List.nil_append]
        rw [bn (by simp; omega)]
        simp only [Option.bind_some]
        rw [mX hl.len hc]
        by_cases hr : (c.buffer.length : Int) < c.capacity
        · rw [show dcd ((c.buffer.length : Int) ≥ c.capacity) = false from cX.2 (by omega)]
          by_cases ho : bc r false false = true <;> cases hcd : c.closed <;> simp [ho, hcd, hr]
        · rw [show dcd ((c.buffer.length : Int) ≥ c.capacity) = true from bF.2 (by omega)]
          by_cases ho : bc r false false = true <;> cases hcd : c.closed <;> simp [ho, hcd, hr]
    · rw [if_neg (by omega), if_neg (by omega), if_neg (by omega), if_pos hk]
      unfold f4 gK eQ iF hZ fL
      simp only [cF, Option.bind_some]
      have h15 : ¬ r.kind = 5 := by omega
      cases hs : x.send
      · cases hok : r.ok
        · simp [hk, h15, bc]
          by_cases hn : r.number = 0 <;> by_cases hv : r.value = 0 <;> cases hcd : c.closed <;> by_cases hb : c.buffer = [] <;> simp [hn, hv, hcd, hb, bl]
        · simp [hk, h15, bc]
          by_cases hn : r.number = 0
          · simp [hn]
            by_cases hb : (c.buffer.length : Int) = 0
            · have : c.buffer = [] := List.eq_nil_of_length_eq_zero (by omega)
              simp [this, getI]
            · rw [aH (l := c.buffer) (i := 0) (by omega) (by omega), ct (by omega) (by omega) (by omega)]
              simp [hb, bl]
              rw [mX hl.len hc]
              have hne : ¬ c.buffer = [] := fun e => hb (by rw [e]; rfl)
              by_cases hv : c.buffer[0]'(by omega) = r.value <;> simp [hv, hne]
          · simp [hn]
      · simp [hk, h15]
    · have h1 : ¬ r.kind = 1 := by omega
      have h2 : ¬ r.kind = 2 := by omega
      rw [if_neg h1, if_neg h1, if_pos hk]
      unfold f4 gK eQ hZ
      simp only [cF, Option.bind_some]
      cases hs : x.send
      · simp [hk, h2]
      · simp [hk]
        cases ho : bc r false false <;> cases hcd : c.closed <;> simp
theorem qi {o : Option (List Chan × Bool)} {a : List Chan × Bool} (h : ∃ m, o = some (m, a.2) ∧ (a.2 = true → m = a.1)) (h0 : a.2 = false → a.1 = []) : (bd2 o fun x b => if b = true then some (x, true) else some ([], false)) = some a := by
  obtain ⟨m, h1, h2⟩ := h
  obtain ⟨a1, a2⟩ := a
  rw [h1]
  simp only [cd]
  cases a2
  · simp only [Bool.false_eq_true, if_false]
    rw [show a1 = [] from h0 rfl]
  · simp only [if_true]
    rw [show m = a1 from h2 rfl]
theorem pH (l : List Chan) (x : Case) (r : Result) : (dy l x r).2 = false → (dy l x r).1 = [] := by
  unfold dy
  repeat' split
  all_goals simp
section
variable {l : List Chan} {op : Op} {r : Result}
theorem dr (h : r.kind = 1 ∨ r.kind = 2 ∨ (r.kind = 5 ∧ op.kind ≠ 3)) : bj l op r = (match bC op r.case_ with
    | none => ([], false)
    | some x => dy l x r) := by unfold bj; rw [if_pos h]
theorem lK (h : r.kind = 5) (h3 : op.kind = 3) : bj l op r = if (decide (r.case_ = -1) && (bc r false false && cC l op r)) = true then (l, true) else ([], false) := by
  unfold bj; rw [if_neg (by omega), if_pos h]
theorem lZ (h : r.kind = 6) : bj l op r = if (decide (op.kind = 3) && (decide (r.case_ = -1) && (bc r false false && !cC l op r))) = true then (match getI l op.channel with
    | none => ([], false)
    | some c => (aI l op.channel (Chan.mk c.capacity c.buffer true), true)) else ([], false) := by
  unfold bj; rw [if_neg (by omega), if_neg (by omega), if_pos h]
theorem lL (h : r.kind = 3) : bj l op r = if (decide (op.mode = 1) && (decide (r.case_ = -1) && (bc r false false && !bv l (casesS op)))) = true then (l, true) else ([], false) := by
  unfold bj; rw [if_neg (by omega), if_neg (by omega), if_neg (by omega), if_pos h]
theorem lC (h : r.kind = 4) : bj l op r = if (decide (op.mode = 2) && (decide (r.case_ = -1) && bc r false false)) = true then (l, true) else ([], false) := by
  unfold bj; rw [if_neg (by omega), if_neg (by omega), if_neg (by omega), if_neg (by omega), if_pos h]
theorem ly (h : r.kind = 7) : bj l op r = if ((decide (op.kind = 5) || decide (op.kind = 6)) && (decide (r.case_ = -1) && (bc r false true && decide (r.number = dh l op)))) = true then (l, true) else ([], false) := by
  unfold bj; rw [if_neg (by omega), if_neg (by omega), if_neg (by omega), if_neg (by omega), if_neg (by omega), if_pos h]
theorem je (h : r.kind < 1 ∨ 7 < r.kind) : bj l op r = ([], false) := by
  unfold bj; rw [if_neg (by omega), if_neg (by omega), if_neg (by omega), if_neg (by omega), if_neg (by omega), if_neg (by omega)]
end
theorem kH {l : List Chan} {op : Op} {r : Result} (hl : bO l) (ho : OpM op) : fD l op r = some (bj l op r) := by
  have key : ∀ (t : Bool), (t = (cw op || decide (op.kind = 4))) → (bd2 (gy l r op t) fun x b => if b = true then some (x, true) else some ([], false)) = some (bj l op r) := by
    intro t ht
    have hchosen : ∀ (b : Bool), (r.kind = 1 ∨ r.kind = 2 ∨ (r.kind = 5 ∧ op.kind ≠ 3)) → (bd2 (bd2 (d9 op r) fun x299 x300 => (if x300 = true then bd2 (hO l x299 r) fun x305 x306 => some (x305, x306) else some ([], false))) fun x b => if b = true then some (x, true) else some ([], false)) = some (bj l op r) := by
      intro _ hk
      obtain ⟨x, hx, hxe⟩ := eF op r
      rw [hx, dr hk]
      simp only [cd]
      cases hc : bC op r.case_ with
      | none => rfl
      | some y =>
        obtain rfl := hxe y hc
        simp only [Option.isSome_some, if_true]
        obtain ⟨m, h1, h2⟩ := qy (x := x) (r := r) hl (by omega)
        refine qi ⟨m, ?_, h2⟩ (pH _ _ _)
        rw [h1]; rfl
    unfold gy
    have hJ2 : ∀ b, (b = true ↔ (r.kind = 1 ∨ r.kind = 2)) → (bd2 (jm l t r op b) fun x b => if b = true then some (x, true) else some ([], false)) = some (bj l op r) := by
      intro b hb
      unfold jm
      by_cases h12 : r.kind = 1 ∨ r.kind = 2
      · rw [if_pos (hb.2 h12)]
        exact hchosen b (by omega)
      rw [if_neg (fun h => h12 (hb.1 h))]
      by_cases h5 : r.kind = 5
      · rw [if_pos h5]
        by_cases h3 : op.kind = 3
        · rw [if_pos h3, lK h5 h3]
          unfold ir
          simp only [cF, cI, Option.bind_some]
          by_cases hca : r.case_ = -1
          · cases hon : bc r false false
            · simp [hca, hon]
            · cases hc : getI l op.channel with
              | none => simp [hca, hon, cC, hc]
              | some c => cases hcd : c.closed <;> simp [hca, hon, cC, hc, hcd]
          · simp [hca]
        · rw [if_neg h3]
          exact hchosen b (by omega)
      rw [if_neg h5]
      by_cases h6 : r.kind = 6
      · rw [if_pos h6, lZ h6]
        unfold ff
        simp only [cF, cI, Option.bind_some]
        by_cases h3 : op.kind = 3
        · by_cases hca : r.case_ = -1
          · cases hon : bc r false false
            · simp [hca, hon, h3]
            · cases hc : getI l op.channel with
              | none => simp [hca, hon, cC, hc, h3]
              | some c => cases hcd : c.closed <;> simp [hca, hon, cC, hc, hcd, h3, mX hl.len hc]
          · simp [hca, h3]
        · simp [h3]
      rw [if_neg h6]
      by_cases h3 : r.kind = 3
      · rw [if_pos h3, lL h3]
        unfold eX
        simp only [cF, Option.bind_some, mf ho.casesLen]
        by_cases hm : op.mode = 1
        · have htt : t = true := by
            rw [ht]
            cases hsr : cw op
            · by_cases h4 : op.kind = 4
              · simp [h4]
              · have := ho.mode hsr h4; omega
            · rfl
          by_cases hca : r.case_ = -1
          · cases hon : bc r false false <;> cases har : bv l (casesS op) <;> simp [hm, htt, hca, hon, har]
          · simp [hca, hm]
        · cases t <;> simp [hm]
      rw [if_neg h3]
      by_cases h4 : r.kind = 4
      · rw [if_pos h4, lC h4]
        unfold fX
        simp only [cF, Option.bind_some]
        by_cases hm : op.mode = 2
        · have htt : t = true := by
            rw [ht]
            cases hsr : cw op
            · by_cases h4 : op.kind = 4
              · simp [h4]
              · have := ho.mode hsr h4; omega
            · rfl
          by_cases hca : r.case_ = -1
          · cases hon : bc r false false <;> simp [hm, htt, hca, hon]
          · simp [hca, hm]
        · cases t <;> simp [hm]
      rw [if_neg h4]
      by_cases h7 : r.kind = 7
      · rw [if_pos h7, ly h7]
        unfold jd dC
        simp only [cF, cI, Option.bind_some]
        by_cases hca : r.case_ = -1
        · cases hon : bc r false true
          · cases hc : getI l op.channel <;> by_cases k5 : op.kind = 5 <;> by_cases k6 : op.kind = 6 <;> simp [hca, hon, hc, k5, k6]
          · cases hc : getI l op.channel with
            | none => by_cases k5 : op.kind = 5 <;> by_cases k6 : op.kind = 6 <;> simp [hca, hon, hc, k5, k6, dh, bl] <;> (split <;> rfl)
            | some c => by_cases k5 : op.kind = 5 <;> by_cases k6 : op.kind = 6 <;> simp [hca, hon, hc, k5, k6, dh, bl] <;> (split <;> rfl)
        · cases hc : getI l op.channel <;> by_cases k5 : op.kind = 5 <;> by_cases k6 : op.kind = 6 <;> simp [hca, k5, k6]
      · rw [if_neg h7, je (by omega)]; rfl
    by_cases h1 : r.kind = 1
    · rw [if_pos h1]
      exact hJ2 _ (by rw [bF]; omega)
    · rw [if_neg h1]
      exact hJ2 _ (by rw [bF]; omega)
  unfold fD kF
  by_cases h1 : op.kind = 1
  · rw [if_pos h1]; exact key _ (by simp [cw, h1])
  · rw [if_neg h1]
    by_cases h2 : op.kind = 2
    · rw [if_pos h2]; exact key _ (by simp [cw, h2])
    · rw [if_neg h2]; exact key _ (by simp [cw, h1, h2, bl])
theorem dm {op : Op} {i : Int} {x : Case} (h : bC op i = some x) : op.kind ≠ 3 := by
  unfold bC at h
  split at h
  · rename_i hs
    have := nU hs
    omega
  · split at h
    · omega
    · cases h
theorem hP {l : List Chan} {op : Op} {r : Result} (hl : bO l) (ho : OpM op) : hM l op r = some (bj l op r) := by
  unfold hM
  rw [jX]
  simp only [cd]
  have e1 : ∀ k, (r = Result.mk k r.case_ 0 false 0) = (r.kind = k ∧ bc r false false = true) := fun k => by
    obtain ⟨a, b, c, d, e⟩ := r
    simp [bc]
    intros; rw [and_assoc]
  have e2 : (r = Result.mk 2 r.case_ r.value true 0) = (r.kind = 2 ∧ r.ok = true ∧ r.number = 0) := by
    obtain ⟨a, b, c, d, e⟩ := r; simp
  have e6 : ∀ k, (r = Result.mk k (-1) 0 false 0) = (r.kind = k ∧ r.case_ = -1 ∧ bc r false false = true) := fun k => by
    obtain ⟨a, b, c, d, e⟩ := r
    simp [bc]
    intros; rw [and_assoc]
  have e7 : (r = Result.mk 7 (-1) 0 false r.number) = (r.kind = 7 ∧ r.case_ = -1 ∧ bc r false true = true) := by
    obtain ⟨a, b, c, d, e⟩ := r
    simp [bc]
  have hz : bc r false false = true → r.value = 0 ∧ r.ok = false ∧ r.number = 0 := fun h => by
    simp [bc] at h; exact ⟨h.1.1, h.1.2, h.2⟩
  unfold hX
  simp only [ku, cd, e1, e2, e6, e7]
  by_cases h1 : r.kind = 1
  · rw [dr (.inl h1)]
    cases hc : bC op r.case_ with
    | none =>
      by_cases h3 : op.kind = 3 <;> cases hon : bc r false false <;> simp [h1, h3, hon, bR, eb]
    | some x =>
      have h3 := dm hc
      rw [cP hc, if_neg h3]
      unfold dy
      cases hg : getI l x.channel with
      | none => cases hon : bc r false false <;> cases hs : x.send <;> simp [h1, hon, hs, hg, bR, eb]
      | some c =>
        have hbl := hl.buf c (bf hg)
        have hf : cu l x.channel = c := by unfold cu; rw [hg]; rfl
        have hp : ∀ c', dA l x.channel c' = some (aI l x.channel c') := fun c' => kC hl.len hg
        have ha : app c.buffer [x.value] = some (c.buffer ++ [x.value]) := bn (by simp; omega)
        cases hon : bc r false false <;> cases hs : x.send <;> cases hcd : c.closed <;> by_cases hr : (c.buffer.length : Int) < c.capacity <;>
          simp [h1, hon, hs, hcd, hr, hg, hf, hp, ha, pY hbl, jB, bR, eb, js, bl]
  by_cases h2 : r.kind = 2
  · rw [dr (.inr (.inl h2))]
    cases hc : bC op r.case_ with
    | none =>
      by_cases h3 : op.kind = 3 <;> cases hok : r.ok <;> by_cases hn : r.number = 0 <;> cases hon : bc r false false <;> simp [h2, h3, hok, hn, hon, bR, fl, fM]
    | some x =>
      have h3 := dm hc
      rw [cP hc, if_neg h3]
      unfold dy
      cases hg : getI l x.channel with
      | none => cases hok : r.ok <;> by_cases hn : r.number = 0 <;> cases hon : bc r false false <;> cases hs : x.send <;> simp [h2, hok, hn, hon, hs, hg, bR, fl, fM]
      | some c =>
        have hbl := hl.buf c (bf hg)
        have hf : cu l x.channel = c := by unfold cu; rw [hg]; rfl
        have hp : ∀ c', dA l x.channel c' = some (aI l x.channel c') := fun c' => kC hl.len hg
        by_cases hn : r.number = 0
        · cases hok : r.ok
          · cases hon : bc r false false
            · have hv : ¬ r.value = 0 := fun hv => by simp [bc, hn, hok, hv] at hon
              cases hs : x.send <;> simp [h2, hon, hs, hok, hn, hv, hg, bR, fM]
            · have hv := (hz hon).1
              cases hs : x.send <;> cases hcd : c.closed <;> by_cases hb : c.buffer = [] <;> simp [h2, hon, hs, hok, hn, hv, hcd, hb, hg, hf, bR, fM]
          · have hon : bc r false false = false := by simp [bc, hok]
            cases hs : x.send
            · by_cases hb : c.buffer = []
              · have hg0 : getI c.buffer 0 = none := by rw [hb]; rfl
                simp [h2, hon, hs, hok, hn, hg, hf, hg0, bR, fl, show ¬ 0 < c.buffer.length by rw [hb]; simp]
              · have hpos : 0 < c.buffer.length := List.length_pos_iff.2 hb
                have hgb := aH (l := c.buffer) (i := 0) (by omega) (by omega)
                have hcut : cR c.buffer 1 (c.buffer.length : Int) = some (c.buffer.drop 1) := by
                  rw [ct (by omega) (by omega) (by omega)]; simp
                by_cases hv : c.buffer[0]'hpos = r.value <;> simp [h2, hon, hs, hok, hn, hg, hf, hgb, hp, hv, hpos, hcut, bR, fl, bl]
            · simp [h2, hon, hs, hok, hn, hg, bR, fl]
        · have hon : bc r false false = false := by simp [bc, hn]
          cases hs : x.send <;> cases hok : r.ok <;> simp [h2, hon, hs, hok, hn, hg, bR]
  by_cases h5 : r.kind = 5
  · by_cases h3 : op.kind = 3
    · rw [lK h5 h3, if_pos h3]
      have hnc : bC op r.case_ = none := by
        cases hc : bC op r.case_ with
        | none => rfl
        | some x => exact absurd h3 (dm hc)
      cases hon : bc r false false
      · simp [h5, hon, bR]
      · by_cases hca : r.case_ = -1
        · cases hg : getI l op.channel with
          | none => simp [h5, hon, hca, h3, hg, hnc, cC, cN]
          | some c =>
            have hf : cu l op.channel = c := by unfold cu; rw [hg]; rfl
            cases hcd : c.closed <;> simp [h5, hon, hca, h3, hg, hnc, hf, hcd, cC, cN, bR]
        · simp [h5, hon, hca, h3, hnc, cN, bR]
    · rw [dr (.inr (.inr ⟨h5, h3⟩)), if_neg h3]
      cases hc : bC op r.case_ with
      | none => cases hon : bc r false false <;> simp [h5, hon, h3, bR, cN]
      | some x =>
        rw [cP hc]
        unfold dy
        cases hg : getI l x.channel with
        | none => cases hon : bc r false false <;> cases hs : x.send <;> simp [h5, h3, hon, hs, hg, bR, cN]
        | some c =>
          have hf : cu l x.channel = c := by unfold cu; rw [hg]; rfl
          cases hon : bc r false false <;> cases hs : x.send <;> cases hcd : c.closed <;> simp [h5, h3, hon, hs, hg, hf, hcd, bR, cN]
  have hsame : ∀ (a b : Option (List Chan × Bool)), (if op.kind = 3 then a else b) = (if op.kind = 3 then a else b) := fun _ _ => rfl
  by_cases h6 : r.kind = 6
  · rw [lZ h6]
    by_cases h3 : op.kind = 3
    · rw [if_pos h3]
      by_cases hca : r.case_ = -1
      · cases hon : bc r false false
        · simp [h6, hon, hca, h3, bR]
        · cases hg : getI l op.channel with
          | none => simp [h6, hon, hca, h3, hg, cC, eT, bR]
          | some c =>
            have hf : cu l op.channel = c := by unfold cu; rw [hg]; rfl
            have hp : ∀ c', dA l op.channel c' = some (aI l op.channel c') := fun c' => kC hl.len hg
            cases hcd : c.closed <;> simp [h6, hon, hca, h3, hg, hf, hp, hcd, cC, eT, bR]
      · simp [h6, hca, bR]
    · rw [if_neg h3]
      simp [h6, h3, bR, eT]
  by_cases h3 : r.kind = 3
  · rw [lL h3]
    have hcc : ∀ cs, cs = casesS op → i2 cs l = some (bv l (casesS op)) := fun cs e => by rw [e]; exact ld ho.casesLen
    by_cases k3 : op.kind = 3 <;> by_cases hca : r.case_ = -1 <;> cases hon : bc r false false <;> by_cases hm : op.mode = 1 <;> cases har : bv l (casesS op) <;>
      simp [h3, k3, hca, hon, hm, har, qw, ho.casesS, hcc, bR, gw]
  by_cases h4 : r.kind = 4
  · rw [lC h4]
    by_cases k3 : op.kind = 3 <;> by_cases hca : r.case_ = -1 <;> cases hon : bc r false false <;> by_cases hm : op.mode = 2 <;> simp [h4, k3, hca, hon, hm, bR]
  by_cases h7 : r.kind = 7
  · rw [ly h7]
    by_cases hca : r.case_ = -1
    · cases hon : bc r false true
      · by_cases k3 : op.kind = 3 <;> simp [h7, hca, hon, bR]
      · cases hg : getI l op.channel with
        | none =>
          have hf : cu l op.channel = Chan.mk 0 [] false := by unfold cu; rw [hg]; rfl
          by_cases k3 : op.kind = 3 <;> by_cases k5 : op.kind = 5 <;> by_cases k6 : op.kind = 6 <;> by_cases hn : r.number = 0 <;> simp [h7, hca, hon, k3, k5, k6, hf, hg, hn, dh, bR, gk, bl] <;> omega
        | some c =>
          have hf : cu l op.channel = c := by unfold cu; rw [hg]; rfl
          by_cases k5 : op.kind = 5
          · by_cases hn : r.number = (c.buffer.length : Int) <;> simp [h7, hca, hon, k5, hf, hg, hn, dh, bR, gk, bl]
          · by_cases k6 : op.kind = 6
            · by_cases hn : r.number = c.capacity <;> simp [h7, hca, hon, k6, hf, hg, hn, dh, bR, gk, bl]
            · by_cases k3 : op.kind = 3 <;> simp [h7, hca, hon, k3, k5, k6, hf, hg, dh, bR, gk, bl]
    · by_cases k3 : op.kind = 3 <;> simp [h7, hca, bR]
  · rw [je (by omega)]
    by_cases k3 : op.kind = 3 <;> simp [h1, h2, h3, h4, h5, h6, h7, bR]
end Go.Hx

namespace Go.Hx
open Go
set_option linter.unusedVariables false
set_option linter.unusedSimpArgs false

theorem kT {l : List Chan} {i : Int} {c : Chan} (hl : bO l) (h1 : c.buffer.length ≤ 1000) (h2 : c.capacity ≤ 1000) : bO (aI l i c) := by
  refine ⟨by rw [aL]; exact hl.len, fun x hx => ?_, fun x hx => ?_⟩
  · rcases cl hx with rfl | hx
    · exact h1
    · exact hl.buf x hx
  · rcases cl hx with rfl | hx
    · exact h2
    · exact hl.cap x hx
theorem dw {l : List Chan} {op : Op} {r : Result} (hl : bO l) (h : (bj l op r).2 = true) : bO (bj l op r).1 ∧ (bj l op r).1.length = l.length := by
  have hdo : ∀ x, (dy l x r).2 = true → bO (dy l x r).1 ∧ (dy l x r).1.length = l.length := by
    intro x h
    unfold dy at h ⊢
    cases hg : getI l x.channel with
    | none => rw [hg] at h; simp at h
    | some c =>
      rw [hg] at h
      have hb := hl.buf c (bf hg)
      have hc := hl.cap c (bf hg)
      simp only at h ⊢
      repeat' split at h
      all_goals first
        | (simp at h; done)
        | skip
      · rename_i h1 h2
        simp only [h1, h2, if_true]
        simp only [Bool.and_eq_true, decide_eq_true_eq] at h2
        exact ⟨kT hl (by simp; omega) hc, aL⟩
      · rename_i h1 h2 h3
        simp only [h1, h2, h3, if_true, if_false]
        exact ⟨hl, rfl⟩
      · rename_i h1 h2 h3 h4 h5 h6
        simp only [h1, h2, h3, h4, h5, h6, if_true, if_false]
        exact ⟨kT hl (by simp; omega) hc, aL⟩
      · rename_i h1 h2 h3 h4 h5 h6
        simp only [h1, h2, h3, h4, h5, h6, if_true, if_false]
        exact ⟨hl, rfl⟩
  unfold bj at h ⊢
  by_cases h1 : r.kind = 1 ∨ r.kind = 2 ∨ (r.kind = 5 ∧ op.kind ≠ 3)
  · rw [if_pos h1] at h ⊢
    cases hc : bC op r.case_ with
    | none => rw [hc] at h; simp at h
    | some x => rw [hc] at h; exact hdo x h
  · rw [if_neg h1] at h ⊢
    by_cases h5 : r.kind = 5
    · rw [if_pos h5] at h ⊢
      split at h
      · rename_i hh; rw [if_pos hh]; exact ⟨hl, rfl⟩
      · cases h
    rw [if_neg h5] at h ⊢
    by_cases h6 : r.kind = 6
    · rw [if_pos h6] at h ⊢
      split at h
      · rename_i hh; rw [if_pos hh]
        cases hg : getI l op.channel with
        | none => rw [hg] at h; cases h
        | some c => exact ⟨kT hl (hl.buf c (bf hg)) (hl.cap c (bf hg)), aL⟩
      · cases h
    rw [if_neg h6] at h ⊢
    by_cases h3 : r.kind = 3
    · rw [if_pos h3] at h ⊢
      split at h
      · rename_i hh; rw [if_pos hh]; exact ⟨hl, rfl⟩
      · cases h
    rw [if_neg h3] at h ⊢
    by_cases h4 : r.kind = 4
    · rw [if_pos h4] at h ⊢
      split at h
      · rename_i hh; rw [if_pos hh]; exact ⟨hl, rfl⟩
      · cases h
    rw [if_neg h4] at h ⊢
    by_cases h7 : r.kind = 7
    · rw [if_pos h7] at h ⊢
      split at h
      · rename_i hh; rw [if_pos hh]; exact ⟨hl, rfl⟩
      · cases h
    rw [if_neg h7] at h
    cases h

def pn (l : List Chan) (i : Int) : Bool := match getI l i with
  | none => false
  | some c => !c.closed && decide (c.capacity ≤ 0)
def nA (l : List Chan) (s r : Case) (x y : Result) : Bool :=
  s.send && (!r.send && (decide (s.channel = r.channel) && (pn l s.channel && ((decide (x.kind = 1) && bc x false false) && (decide (y.kind = 2) && (y.ok && (decide (y.number = 0) && decide (y.value = s.value))))))))
def ck (l : List Chan) (a : Op) (x : Result) (b : Op) (y : Result) : Bool := match bC a x.case_, bC b y.case_ with
  | some s, some r => nA l s r x y
  | _, _ => false
theorem nz (l : List Chan) (a : Op) (x : Result) (b : Op) (y : Result) : jj l a x b y = some (ck l a x b y) := by
  have e1 : (x = Result.mk 1 x.case_ 0 false 0) = (x.kind = 1 ∧ bc x false false = true) := by
    obtain ⟨p, q, c, d, e⟩ := x
    simp [bc]
    intros; rw [and_assoc]
  have e2 : ∀ v, (y = Result.mk 2 y.case_ v true 0) = (y.kind = 2 ∧ y.value = v ∧ y.ok = true ∧ y.number = 0) := fun v => by
    obtain ⟨p, q, c, d, e⟩ := y
    simp
  unfold jj eH ck
  rw [jX, jX]
  simp only [cd, ku, e1, e2]
  cases hs : bC a x.case_ with
  | none => simp
  | some s =>
    rw [cP hs]
    cases hr : bC b y.case_ with
    | none => simp
    | some r =>
      rw [cP hr]
      unfold nA pn
      cases h1 : s.send
      · simp [h1]
      cases h2 : r.send
      rotate_left
      · simp [h1, h2]
      by_cases h3 : s.channel = r.channel
      rotate_left
      · simp [h1, h2, h3]
      cases hg : getI l s.channel with
      | none => rw [← h3]; simp [h1, h2, hg]
      | some c =>
        have hf : cu l s.channel = c := by unfold cu; rw [hg]; rfl
        rw [← h3]
        cases hcd : c.closed <;> by_cases hcap : c.capacity ≤ 0 <;> by_cases hk : x.kind = 1 <;> cases hon : bc x false false <;> by_cases hk2 : y.kind = 2 <;> by_cases hv : y.value = s.value <;> cases hok : y.ok <;> by_cases hn : y.number = 0 <;>
          simp [h1, h2, hg, hf, hcd, hcap, hk, hon, hk2, hv, hok, hn, bl] <;> exact h3
theorem nJ (l : List Chan) (a : Op) (x : Result) (b : Op) (y : Result) : iY l a x b y = some (ck l a x b y) := by
  unfold iY
  have hno : (ck l a x b y = true → x.kind = 1 ∧ y.kind = 2 ∧ bc x false false = true ∧ y.ok = true ∧ y.number = 0) := fun h => by
    unfold ck at h
    split at h
    · unfold nA at h
      simp only [Bool.and_eq_true, decide_eq_true_eq] at h
      exact ⟨h.2.2.2.2.1.1, h.2.2.2.2.2.1, h.2.2.2.2.1.2, h.2.2.2.2.2.2.1, h.2.2.2.2.2.2.2.1⟩
    · cases h
  have hbad : ¬ (x.kind = 1 ∧ y.kind = 2 ∧ bc x false false = true ∧ y.ok = true ∧ y.number = 0) → dS l y b x a true = some (ck l a x b y) := fun h => by
    have : ck l a x b y = false := by
      cases hp : ck l a x b y with
      | false => rfl
      | true => exact absurd (hno hp) h
    rw [this]; rfl
  simp only [cF, Option.bind_some]
  by_cases hk : x.kind = 1
  rotate_left
  · rw [if_neg hk]; exact hbad fun h => hk h.1
  rw [if_pos hk]
  by_cases hk2 : y.kind = 2
  rotate_left
  · rw [if_neg hk2]; exact hbad fun h => hk2 h.2.1
  rw [if_pos hk2]
  by_cases hon : bc x false false = true
  rotate_left
  · rw [if_neg hon]; exact hbad fun h => hon h.2.2.1
  rw [if_pos hon]
  by_cases hn : y.number = 0
  rotate_left
  · rw [if_neg (by simp [bc, hn])]; exact hbad fun h => hn h.2.2.2.2
  rw [if_pos (by simp [bc, hn])]
  cases hok : y.ok
  · exact hbad fun h => by rw [hok] at h; simp at h
  unfold dS d7 i6
  simp only [Bool.not_true, Bool.false_eq_true, if_false]
  obtain ⟨s, hs, hse⟩ := eF a x
  obtain ⟨r, hr, hre⟩ := eF b y
  rw [hs, hr]
  simp only [cd, cI, Option.bind_some]
  unfold ck
  cases hcs : bC a x.case_ with
  | none => simp
  | some s' =>
    obtain rfl := hse s' hcs
    cases hcr : bC b y.case_ with
    | none => simp
    | some r' =>
      obtain rfl := hre r' hcr
      unfold nA pn
      cases h1 : s.send
      · simp [h1]
      cases h2 : r.send
      rotate_left
      · simp [h1, h2]
      by_cases h3 : s.channel = r.channel
      rotate_left
      · simp [h1, h2, h3]
      rw [← h3]
      cases hg : getI l s.channel with
      | none => simp [h1, h2, hg]
      | some c =>
        cases hcd : c.closed <;> by_cases hcap : c.capacity ≤ 0 <;> by_cases hv : y.value = s.value <;> simp [h1, h2, hg, hcd, hcap, hk, hon, hk2, hv, hok, hn, bl] <;> exact h3
theorem pQ (l : List Chan) (a : Op) (x : Result) (b : Op) (y : Result) : iK l a x b y = some (ck l a x b y || ck l b y a x) := by
  unfold iK
  rw [nz, nz]
  simp only [Option.bind_some]
  cases ck l a x b y <;> simp
theorem lF (l : List Chan) (a : Op) (x : Result) (b : Op) (y : Result) : gC l a x b y = some (ck l a x b y || ck l b y a x) := by
  unfold gC
  rw [nJ, nJ]
  simp only [Option.bind_some]
  cases ck l a x b y <;> simp

theorem fP (l : List Int) (hl : l.length ≤ 1000000000) : gz l l = some true := by
  refine Ok.eq ?_
  unfold gz
  rw [if_pos rfl]
  refine dN (fun i => ((l.length : Int) - i).toNat) (fun i => 0 ≤ i ∧ i ≤ (l.length : Int)) (fun _ => _) ?_ BIG 0 ⟨by omega, by omega⟩ (bI (by omega))
  intro i k ⟨h0, h1⟩ hk
  unfold jy
  refine Ok.ite (fun h => ?_) fun h => Ok.some rfl
  rw [aH h0 h]
  simp only [Option.bind_some, if_true]
  rw [bi (by omega) (by omega)]
  exact hk _ (by omega) (by omega)
theorem iW {l : List Chan} (hl : bO l) : f8 l l = some true := by
  have hlen := hl.len
  refine Ok.eq ?_
  unfold f8
  rw [if_pos rfl]
  refine dN (fun i => ((l.length : Int) - i).toNat) (fun i => 0 ≤ i ∧ i ≤ (l.length : Int)) (fun _ => _) ?_ BIG 0 ⟨by omega, by omega⟩ (bI (by omega))
  intro i k ⟨h0, h1⟩ hk
  unfold kr
  refine Ok.ite (fun h => ?_) fun h => Ok.some rfl
  have hg := aH h0 h
  have hb := hl.buf _ (bf hg)
  rw [hg]
  simp only [Option.bind_some, if_true, beq_self_eq_true]
  rw [fP _ (by omega)]
  simp only [Option.bind_some]
  unfold jb
  simp only [Bool.not_true, Bool.false_eq_true, if_false]
  rw [bi (by omega) (by omega)]
  exact hk _ (by omega) (by omega)
theorem lJ : f8 [] [] = some true := iW ⟨by simp, by simp, by simp⟩
end Go.Hx

namespace Go.Hx
open Go
set_option linter.unusedVariables false
set_option linter.unusedSimpArgs false
theorem lI {x : Config} (hx : x.capacities.length ≤ 1000) : ep x = some (x.capacities.map fun k => Chan.mk k [] false) := by
  unfold ep
  have key : ∀ n p i, (0 ≤ i ∧ i ≤ (x.capacities.length : Int) ∧ (p.length : Int) = i) → ((x.capacities.length : Int) - i).toNat < n → Ok (lp2 (jf x) n p i) (fun r => r = p ++ (x.capacities.drop i.toNat).map fun k => Chan.mk k [] false) := by
    refine dj (fun _ i => ((x.capacities.length : Int) - i).toNat) (fun p i => 0 ≤ i ∧ i ≤ (x.capacities.length : Int) ∧ (p.length : Int) = i) (fun p i r => r = p ++ (x.capacities.drop i.toNat).map fun k => Chan.mk k [] false) ?_
    intro p i k ⟨h0, h1, hp⟩ hk
    unfold jf
    refine Ok.ite (fun h => ?_) fun h => ?_
    · have hg := aH h0 h
      rw [hg]
      simp only [Option.bind_some]
      rw [bK hg, bn (by simp; omega), bi (by omega) (by omega)]
      simp only [Option.bind_some]
      refine (hk _ (i + 1) ⟨by omega, by omega, by simp; omega⟩ (by omega)).mono fun r hr => ?_
      rw [hr]; simp
    · unfold j7
      refine Ok.some ?_
      rw [List.drop_eq_nil_of_le (by omega)]; simp
  simpa using (key BIG [] 0 ⟨by omega, by omega, by simp⟩ (bI (by omega))).eq
end Go.Hx
