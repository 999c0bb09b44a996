
import Derived.Test.YtphoeijgpmlbpaaGreatDoorHxLoops
import Derived.Lib.ItoaLen
import Derived.Test.YtphoeijgpmlbpaaGreatDoorXYM
set_option linter.unusedVariables false
set_option linter.unusedSimpArgs false
namespace Go.Hx
open Go
theorem qB {k : Nat} (h : k < 10) : (UInt8.ofNat (48 + k)).toNat = 48 + k := by
 rw [UInt8.toNat_ofNat']; omega
def GE (l : List UInt8) : Nat := l.foldl (fun a b => a * 10 + (b.toNat - 48)) 0
theorem ny (u : Nat) : Lib.decDigits u = if u < 10 then [UInt8.ofNat (48 + u)] else Lib.decDigits (u / 10) ++ [UInt8.ofNat (48 + u % 10)] := by
 rw [Lib.decDigits]
 split <;> rfl
theorem BS (u : Nat) : GE (Lib.decDigits u) = u := by
 induction u using Nat.strongRecOn with
 | _ u ih =>
  rw [ny]
  by_cases h : u < 10
  ·rw [if_pos h]
   show 0 * 10 + ((UInt8.ofNat (48 + u)).toNat - 48) = u
   rw [qB h]; omega
  ·rw [if_neg h]
   unfold GE
   rw [List.foldl_append]
   show (GE (Lib.decDigits (u / 10))) * 10 + ((UInt8.ofNat (48 + u % 10)).toNat - 48) = u
   rw [ih _ (by omega), qB (by omega)]; omega
theorem xP {a b : Nat} (h : Lib.decDigits a = Lib.decDigits b) : a = b := by rw [← BS a, ← BS b, h]
theorem md (u : Nat) : ∀ b ∈ Lib.decDigits u, 48 ≤ b.toNat ∧ b.toNat ≤ 57 := by
 induction u using Nat.strongRecOn with
 | _ u ih =>
  intro b hb
  rw [ny] at hb
  by_cases h : u < 10
  ·rw [if_pos h, List.mem_singleton] at hb
   subst hb; rw [qB h]; omega
  ·rw [if_neg h] at hb
   rcases List.mem_append.1 hb with hb | hb
   ·exact ih _ (by omega) b hb
   ·rw [List.mem_singleton] at hb
    subst hb; rw [qB (by omega)]; omega
theorem zd (n : Int) : ∀ b ∈ Lib.itoa n, 45 ≤ b.toNat ∧ b.toNat ≤ 57 := by
 intro b hb
 unfold Lib.itoa at hb
 split at hb
 ·rcases List.mem_cons.1 hb with hb | hb
  ·subst hb; decide
  ·have := md _ b hb; omega
 ·have := md _ b hb; omega
theorem EJ {a b : Int} (h : Lib.itoa a = Lib.itoa b) : a = b := by
 unfold Lib.itoa at h
 split at h <;> split at h
 ·have := xP (List.cons.inj h).2; omega
 ·exfalso
  have := md b.toNat 45 (by rw [← h]; exact .head _)
  revert this; decide
 ·exfalso
  have := md a.toNat 45 (by rw [h]; exact .head _)
  revert this; decide
 ·have := xP h; omega
theorem BJ {c : UInt8} : ∀ {p q s t : List UInt8}, (∀ b ∈ p, b ≠ c) → (∀ b ∈ q, b ≠ c) → p ++ c :: s = q ++ c :: t → p = q ∧ s = t
 | [], [], s, t, _, _, h => ⟨rfl, (List.cons.inj h).2⟩
 | [], y :: q, s, t, _, hq, h => absurd (List.cons.inj h).1.symm (hq y (.head _))
 | x :: p, [], s, t, hp, _, h => absurd (List.cons.inj h).1 (hp x (.head _))
 | x :: p, y :: q, s, t, hp, hq, h => by
  obtain ⟨h1, h2⟩ := List.cons.inj h
  obtain ⟨e1, e2⟩ := BJ (fun b hb => hp b (.tail _ hb)) (fun b hb => hq b (.tail _ hb)) h2
  exact ⟨by rw [h1, e1], e2⟩
theorem u2 {l : List UInt8} {c : UInt8} (h : ∀ b ∈ l, 45 ≤ b.toNat ∧ b.toNat ≤ 57) (hc : ¬ (45 ≤ c.toNat ∧ c.toNat ≤ 57)) : ∀ b ∈ l, b ≠ c := fun b hb e => hc (by rw [← e]; exact h b hb)
def jY : List Int → List UInt8
 | [] => []
 | n :: l => Lib.itoa n ++ 32 :: jY l
theorem u4 : ∀ {a b : List Int} {s t : List UInt8}, a.length = b.length → jY a ++ s = jY b ++ t → a = b ∧ s = t
 | [], [], s, t, _, h => ⟨rfl, h⟩
 | [], _ :: _, _, _, h, _ => by simp at h
 | _ :: _, [], _, _, h, _ => by simp at h
 | x :: a, y :: b, s, t, hl, h => by
  simp only [jY, List.append_assoc, List.cons_append] at h
  obtain ⟨e1, e2⟩ := BJ (u2 (zd _) (by decide)) (u2 (zd _) (by decide)) h
  obtain ⟨e3, e4⟩ := u4 (by simpa using hl) e2
  exact ⟨by rw [EJ e1, e3], e4⟩
def js : List Int → List UInt8
 | [] => []
 | v :: l => 32 :: (Lib.decDigits v.toNat ++ js l)
def AV (s : List UInt8) : Prop := s = [] ∨ ∃ t, s = 47 :: t
theorem y7 : ∀ {p q s t : List UInt8}, (∀ b ∈ p, 48 ≤ b.toNat ∧ b.toNat ≤ 57) → (∀ b ∈ q, 48 ≤ b.toNat ∧ b.toNat ≤ 57) → (s = [] ∨ ∃ c r, s = c :: r ∧ ¬ (48 ≤ c.toNat ∧ c.toNat ≤ 57)) → (t = [] ∨ ∃ c r, t = c :: r ∧ ¬ (48 ≤ c.toNat ∧ c.toNat ≤ 57)) → p ++ s = q ++ t → p = q ∧ s = t
 | [], [], s, t, _, _, _, _, h => ⟨rfl, h⟩
 | [], y :: q, s, t, _, hq, hs, _, h => by
  have hy := hq y (.head _)
  rcases hs with hs | ⟨c, r, hs, hc⟩
  ·rw [hs] at h; simp at h
  ·rw [hs] at h
   have := (List.cons.inj h).1
   rw [← this] at hy; exact absurd hy hc
 | x :: p, [], s, t, hp, _, _, ht, h => by
  have hx := hp x (.head _)
  rcases ht with ht | ⟨c, r, ht, hc⟩
  ·rw [ht] at h; simp at h
  ·rw [ht] at h
   have := (List.cons.inj h).1
   rw [this] at hx; exact absurd hx hc
 | x :: p, y :: q, s, t, hp, hq, hs, ht, h => by
  obtain ⟨h1, h2⟩ := List.cons.inj h
  obtain ⟨e1, e2⟩ := y7 (fun b hb => hp b (.tail _ hb)) (fun b hb => hq b (.tail _ hb)) hs ht h2
  exact ⟨by rw [h1, e1], e2⟩
theorem qi {l : List Int} {s : List UInt8} (hs : AV s) : js l ++ s = [] ∨ ∃ c r, js l ++ s = c :: r ∧ ¬ (48 ≤ c.toNat ∧ c.toNat ≤ 57) := by
 cases l with
 | nil =>
  rcases hs with h | ⟨t, h⟩
  ·exact .inl h
  ·exact .inr ⟨47, t, h, by decide⟩
 | cons v l => exact .inr ⟨32, _, rfl, by decide⟩
theorem uD : ∀ {a b : List Int} {s t : List UInt8}, (∀ v ∈ a, 0 ≤ v) → (∀ v ∈ b, 0 ≤ v) → AV s → AV t → js a ++ s = js b ++ t → a = b ∧ s = t
 | [], [], s, t, _, _, _, _, h => ⟨rfl, h⟩
 | [], y :: b, s, t, _, _, hs, _, h => by
  rcases hs with hs | ⟨r, hs⟩
  ·rw [hs] at h; cases h
  ·rw [hs] at h; exact absurd (List.cons.inj h).1 (by decide)
 | x :: a, [], s, t, _, _, _, ht, h => by
  rcases ht with ht | ⟨r, ht⟩
  ·rw [ht] at h; cases h
  ·rw [ht] at h; exact absurd (List.cons.inj h).1 (by decide)
 | x :: a, y :: b, s, t, ha, hb, hs, ht, h => by
  simp only [js, List.cons_append, List.append_assoc] at h
  obtain ⟨e1, e2⟩ := y7 (md _) (md _) (qi hs) (qi ht) (List.cons.inj h).2
  obtain ⟨e3, e4⟩ := uD (fun v hv => ha v (.tail _ hv)) (fun v hv => hb v (.tail _ hv)) hs ht e2
  have hx := ha x (.head _)
  have hy := hb y (.head _)
  have := xP e1
  exact ⟨by rw [e3, show x = y by omega], e4⟩
def boolT (b : Bool) : List UInt8 := if b = true then [116, 114, 117, 101] else [102, 97, 108, 115, 101]
def jp : List (Bool × List Int) → List UInt8
 | [] => []
 | c :: l => 47 :: (boolT c.1 ++ (js c.2 ++ jp l))
theorem nw (l : List (Bool × List Int)) : AV (jp l) := by
 cases l with
 | nil => exact .inl rfl
 | cons c l => exact .inr ⟨_, rfl⟩
theorem tR : ∀ {a b : List (Bool × List Int)}, (∀ c ∈ a, ∀ v ∈ c.2, 0 ≤ v) → (∀ c ∈ b, ∀ v ∈ c.2, 0 ≤ v) → a.length = b.length → jp a = jp b → a = b
 | [], [], _, _, _, _ => rfl
 | [], _ :: _, _, _, h, _ => by simp at h
 | _ :: _, [], _, _, h, _ => by simp at h
 | (c, x) :: a, (d, y) :: b, ha, hb, hl, h => by
  simp only [jp] at h
  have h := (List.cons.inj h).2
  have hcd : c = d := by
   cases c <;> cases d
   ·rfl
   ·exact absurd (List.cons.inj h).1 (by decide)
   ·exact absurd (List.cons.inj h).1 (by decide)
   ·rfl
  subst hcd
  have h := List.append_cancel_left h
  obtain ⟨e1, e2⟩ := uD (ha _ (.head _)) (hb _ (.head _)) (nw _) (nw _) h
  have e3 := tR (fun c hc => ha c (.tail _ hc)) (fun c hc => hb c (.tail _ hc)) (by simpa using hl) e2
  rw [show x = y from e1, e3]
theorem CE {p q : List Int} {a b : List (Bool × List Int)} (hp : p.length = q.length) (hl : a.length = b.length) (ha : ∀ c ∈ a, ∀ v ∈ c.2, 0 ≤ v) (hb : ∀ c ∈ b, ∀ v ∈ c.2, 0 ≤ v) (h : jY p ++ jp a = jY q ++ jp b) : p = q ∧ a = b := by
 obtain ⟨e1, e2⟩ := u4 hp h
 exact ⟨e1, tR ha hb hl e2⟩
structure Lst (l : List Int) : Prop where
 len : l.length ≤ 1000
 rng : ∀ b ∈ l, 0 ≤ b ∧ b < 256
structure j6 (l : List Int) (a : Int) : Prop where
 lo : 0 ≤ a
 hi : a ≤ (l.length : Int)
def Cd (c : fg) : Prop := Lst c.list ∧ j6 c.list c.at_
theorem mW (c : fg) : oj c = some (dcd (c.at_ < (c.list.length : Int))) := rfl
theorem ia {c : fg} {n : Int} (hc : Cd c) (h1 : 1 ≤ n) : Ok (k9 c n) fun r => 0 ≤ r.1 ∧ r.1 < n ∧ j6 c.list r.2 ∧ c.at_ ≤ r.2 ∧ (c.at_ < (c.list.length : Int) → r.2 = c.at_ + 1) := by
 obtain ⟨⟨hlen, hrng⟩, hlo, hhi⟩ := hc
 unfold k9
 rw [mW]
 simp only [Option.bind_some]
 refine Ok.ite (fun h => ?_) fun h => ?_
 ·rw [ip] at h
  rw [gl (x := c.at_ + 1) (by omega) (by omega), gl (x := c.at_ + 1 - 1) (by omega) (by omega)]
  refine Ok.bind (Ok.getI (P := fun x => 0 ≤ x ∧ x < 256) (by omega) (by omega) fun x _ hx => hrng x hx) fun x ⟨hx0, hx1⟩ => ?_
  rw [gl (x := x) (by omega) (by omega)]
  have hn : uq x n = some (Int.tmod x n) := by unfold uq; rw [if_neg (by omega)]
  rw [hn]
  refine Ok.some ⟨?_, ?_, ⟨by simp only; omega, by simp only; omega⟩, by simp only; omega, fun _ => rfl⟩
  ·simp only; exact Int.tmod_nonneg _ hx0
  ·simp only; exact Int.tmod_lt_of_pos _ (by omega)
 ·rw [ip] at h
  refine Ok.some ⟨by simp only; omega, by simp only; omega, ⟨hlo, hhi⟩, by simp only; omega, fun h' => absurd h' h⟩
theorem Gm {l : List Int} {m : Int} (hl : ∀ b ∈ l, 0 ≤ b ∧ b < 256) (h0 : 0 ≤ m) (hm : m ≤ 1000) : Ok (ri l m) fun c => Cd c ∧ c.at_ = 0 ∧ c.value = 0 ∧ c.list = l.take m.toNat := by
 unfold ri
 refine Ok.ite (fun h => ?_) fun h => ?_
 ·rw [iY (by omega) (by omega) (by omega)]
  refine Ok.some ⟨⟨⟨by simp; omega, fun b hb => hl b (List.mem_of_mem_take (by simpa using hb))⟩, by simp, by simp only; omega⟩, rfl, rfl, by simp⟩
 ·refine Ok.some ⟨⟨⟨by simp only; omega, hl⟩, by simp, by simp only; omega⟩, rfl, rfl, ?_⟩
  rw [List.take_of_length_le (by omega)]
theorem iN {α : Type} {l : List α} {i : Int} {x y : α} (h : y ∈ gb l i x) : y = x ∨ y ∈ l := by
 unfold gb at h
 rcases List.mem_or_eq_of_mem_set h with h | h
 ·exact .inr h
 ·exact .inl h
theorem gk {α : Type} {l : List α} {i : Int} {x : α} : (gb l i x).length = l.length := by simp [gb]
structure yh (x : fQ) : Prop where
 n1 : 1 ≤ x.capacities.length
 n3 : x.capacities.length ≤ 3
 ns : x.starts.length = x.capacities.length
 t2 : 2 ≤ x.threads
 t4 : x.threads ≤ 4
 cap : ∀ k ∈ x.capacities, 0 ≤ k ∧ k ≤ 3
 st : ∀ k ∈ x.starts, 0 ≤ k ∧ k < 9223372036854775808
theorem BX {c : fg} (hc : Cd c) : Ok (sT c) fun r => yh r.1 ∧ j6 c.list r.2.1 := by
 obtain ⟨hl, ha⟩ := hc
 unfold sT
 refine mN (fun i _ _ _ _ => (4 - i).toNat) (fun i a v p q => 0 ≤ i ∧ i ≤ 3 ∧ j6 c.list a ∧ (p.length : Int) = i ∧ (q.length : Int) = i ∧ (∀ k ∈ p, 0 ≤ k ∧ k ≤ 3) ∧ ∀ k ∈ q, 0 ≤ k ∧ k < 9223372036854775808) (fun _ _ _ _ _ => _) ?_ BIG 0 _ _ _ _ ⟨by omega, by omega, ha, by simp, by simp, by simp, by simp⟩ (gn (by omega))
 intro i a v p q k ⟨h0, h3, ha, hp, hq, hpk, hqk⟩ hk
 unfold rn
 refine Ok.bd2 (ia ⟨hl, ha⟩ (by omega)) fun n1 a1 ⟨b0, b1, ha1, _⟩ => ?_
 simp only at b0 b1 ha1
 refine Ok.ite (fun h => ?_) fun h => ?_
 ·refine Ok.bd2 (ia ⟨hl, ha1⟩ (by omega)) fun n2 a2 ⟨b2, b3, ha2, _⟩ => ?_
  simp only at b2 b3 ha2
  refine Ok.bind (Ok.getI (P := fun x => 0 ≤ x ∧ x ≤ 3) b2 (by simpa using b3) fun x _ hx => ?_) fun x hx => ?_
  ·simp only [List.mem_cons, List.not_mem_nil, or_false] at hx
   rcases hx with rfl | rfl | rfl | rfl | rfl | rfl <;> omega
  rw [gm (by simp; omega)]
  simp only [Option.bind_some]
  unfold rm
  refine Ok.bd2 (ia ⟨hl, ha2⟩ (by omega)) fun n4 a4 ⟨b4, b5, ha4, _⟩ => ?_
  simp only at b4 b5 ha4
  refine Ok.bind (Ok.getI (P := fun x => 0 ≤ x ∧ x < 9223372036854775808) b4 (by simpa using b5) fun x _ hx => ?_) fun y hy => ?_
  ·simp only [List.mem_cons, List.not_mem_nil, or_false] at hx
   rcases hx with rfl | rfl | rfl | rfl | rfl | rfl <;> omega
  rw [gm (by simp; omega)]
  simp only [Option.bind_some]
  unfold rk
  rw [gl (by omega) (by omega)]
  refine hk _ _ _ _ _ ⟨by omega, by omega, ha4, by simp; omega, by simp; omega, fun k hk => ?_, fun k hk => ?_⟩ (by omega)
  ·rcases List.mem_append.1 hk with hk | hk
   ·exact hpk k hk
   ·simp at hk; subst hk; exact hx
  ·rcases List.mem_append.1 hk with hk | hk
   ·exact hqk k hk
   ·simp at hk; subst hk; exact hy
 ·unfold rj
  refine Ok.bd2 (ia ⟨hl, ha1⟩ (by omega)) fun n2 a2 ⟨b2, b3, ha2, _⟩ => ?_
  simp only at b2 b3 ha2
  refine Ok.some ⟨⟨?_, ?_, ?_, ?_, ?_, hpk, hqk⟩, ha2⟩
  ·simp only; omega
  ·simp only; omega
  ·simp only; omega
  ·simp only; rw [gl (by omega) (by omega)]; omega
  ·simp only; rw [gl (by omega) (by omega)]; omega
def C5 (n : Int) : Prop := -1 ≤ n ∧ n ≤ 7
theorem ie {c : fg} {x : fQ} (hc : Cd c) (hx : x.capacities.length ≤ 8) : Ok (mr c x) fun r => C5 r.1 ∧ j6 c.list r.2.1 ∧ r.2.2 = c.value := by
 obtain ⟨hl, ha⟩ := hc
 unfold mr
 refine Ok.bd2 (ia ⟨hl, ha⟩ (by omega)) fun n1 a1 ⟨b0, b1, ha1, _⟩ => ?_
 simp only at b0 b1 ha1
 refine Ok.ite (fun h => ?_) fun h => Ok.ite (fun h' => ?_) fun h' => ?_
 ·refine Ok.bd2 (ia ⟨hl, ha1⟩ (by omega)) fun n2 a2 ⟨b2, b3, ha2, _⟩ => ?_
  simp only at b2 b3 ha2
  rw [gl (by omega) (by omega)]
  exact Ok.some ⟨⟨by simp only; omega, by simp only; omega⟩, ha2, rfl⟩
 ·exact Ok.some ⟨⟨by simp only; omega, by simp only; omega⟩, ha1, rfl⟩
 ·refine Ok.bd2 (ia ⟨hl, ha1⟩ (by omega)) fun n2 a2 ⟨b2, b3, ha2, _⟩ => ?_
  simp only at b2 b3 ha2
  exact Ok.some ⟨⟨by simp only; omega, by simp only; omega⟩, ha2, rfl⟩
def uO (v : Int) : Prop := 0 ≤ v ∧ v < 18446744073709551616
theorem kP {c : fg} : Ok (rp c) fun r => uO r.1 ∧ r.1 = wU (c.value + 1) ∧ r.2 = wU (c.value + 1) := Ok.some ⟨GX _, rfl, rfl⟩
structure CaseOk (c : Case) : Prop where
 ch : C5 c.channel
 v0 : c.send = false → c.value = 0
 v : uO c.value
structure OpOk (o : Op) : Prop where
 kind : 1 ≤ o.kind ∧ o.kind ≤ 6
 mode : 0 ≤ o.mode ∧ o.mode ≤ 2
 plain : o.kind = 3 ∨ o.kind = 5 ∨ o.kind = 6 → o.mode = 0
 ch : C5 o.channel
 dead : 0 ≤ o.deadline ∧ o.deadline ≤ 4
 timed : o.deadline ≠ 0 → o.mode = 2
 nosel : o.kind ≠ 4 → o.cases = [] ∧ o.draws = []
 sel : o.kind = 4 → o.channel = 0 ∧ o.value = 0
 lens : o.draws.length = o.cases.length ∧ o.cases.length ≤ 6
 draws : ∀ (i : Nat) (d : Int), o.draws[i]? = some d → 0 ≤ d ∧ d ≤ (i : Int)
 cases : ∀ c ∈ o.cases, CaseOk c
 val0 : o.kind ≠ 1 → o.value = 0
 val : uO o.value
structure OpPre (o : Op) : Prop where
 kind : o.kind = 1 ∨ o.kind = 2 ∨ o.kind = 4
 m0 : o.mode = 0
 d0 : o.deadline = 0
 ch : C5 o.channel
 nosel : o.kind ≠ 4 → o.cases = [] ∧ o.draws = []
 sel : o.kind = 4 → o.channel = 0 ∧ o.value = 0
 lens : o.draws.length = o.cases.length ∧ o.cases.length ≤ 6
 draws : ∀ (i : Nat) (d : Int), o.draws[i]? = some d → 0 ≤ d ∧ d ≤ (i : Int)
 cases : ∀ c ∈ o.cases, CaseOk c
 val0 : o.kind ≠ 1 → o.value = 0
 val : uO o.value
theorem OpPre.ok {o : Op} (h : OpPre o) {m d : Int} (hm : 0 ≤ m ∧ m ≤ 2) (hd : 0 ≤ d ∧ d ≤ 4) (ht : d ≠ 0 → m = 2) : OpOk (Op.mk o.kind m o.channel o.value d o.cases o.draws) :=
 ⟨by have := h.kind; simp only; omega, hm, by have := h.kind; simp only; omega, h.ch, hd, ht, h.nosel, h.sel, h.lens, h.draws, h.cases, h.val0, h.val⟩
theorem qE {c : fg} {o : Op} (hc : Cd c) (ho : OpPre o) : Ok (mw c o) fun r => OpOk r.1 ∧ j6 c.list r.2.1 ∧ r.2.2 = c.value ∧ r.1.kind = o.kind ∧ r.1.cases = o.cases := by
 obtain ⟨hl, ha⟩ := hc
 unfold mw
 refine Ok.bd2 (ia ⟨hl, ha⟩ (by omega)) fun n1 a1 ⟨b0, b1, ha1, _⟩ => ?_
 simp only at b0 b1 ha1
 have key : ∀ t, Ok (pH n1 c a1 o t) fun r => OpOk r.1 ∧ j6 c.list r.2.1 ∧ r.2.2 = c.value ∧ r.1.kind = o.kind ∧ r.1.cases = o.cases := by
  intro t
  unfold pH
  refine Ok.ite (fun h => ?_) fun h => Ok.ite (fun h' => ?_) fun h' => ?_
  ·unfold lE
   exact Ok.some ⟨by rw [ho.d0]; exact ho.ok (by omega) (by omega) (by omega), ha1, rfl, rfl, rfl⟩
  ·refine Ok.bd2 (ia ⟨hl, ha1⟩ (by omega)) fun n2 a2 ⟨b2, b3, ha2, _⟩ => ?_
   simp only at b2 b3 ha2
   unfold lE
   exact Ok.some ⟨ho.ok (by omega) (by omega) (by omega), ha2, rfl, rfl, rfl⟩
  ·unfold lE
   exact Ok.some ⟨by rw [ho.d0, ho.m0]; exact ho.ok (by omega) (by omega) (by omega), ha1, rfl, rfl, rfl⟩
 exact Ok.ite (fun _ => key _) fun _ => key _
theorem uV {l : List Int} {d i : Int} (h : ∀ (j : Nat) (e : Int), l[j]? = some e → 0 ≤ e ∧ e ≤ (j : Int)) (hi : (l.length : Int) = i) (h0 : 0 ≤ d) (h1 : d < i + 1) : ∀ (j : Nat) (e : Int), (l ++ [d])[j]? = some e → 0 ≤ e ∧ e ≤ (j : Int) := by
 intro j e he
 rw [List.getElem?_append] at he
 split at he
 ·exact h j e he
 ·have hj : j - l.length = 0 := by
   rcases Nat.eq_zero_or_pos (j - l.length) with h | h
   ·exact h
   ·rw [List.getElem?_eq_none (by simp; omega)] at he; cases he
  rw [hj] at he; simp at he; subst he; omega
theorem B8 {c : fg} {x : fQ} {m : Int} (hc : Cd c) (hx : x.capacities.length ≤ 8) (h0 : 0 ≤ m) (hm : m ≤ 6) : Ok (mY c x m) fun r => OpOk r.1 ∧ j6 c.list r.2.1 ∧ r.1.kind = 4 ∧ (r.1.cases.length : Int) ≤ m := by
 obtain ⟨hl, ha⟩ := hc
 unfold mY
 refine mN (fun i _ _ _ _ => (7 - i).toNat) (fun i a v p q => 0 ≤ i ∧ i ≤ m ∧ j6 c.list a ∧ (p.length : Int) = i ∧ (q.length : Int) = i ∧ (∀ k ∈ p, CaseOk k) ∧ ∀ (j : Nat) (d : Int), q[j]? = some d → 0 ≤ d ∧ d ≤ (j : Int)) (fun _ _ _ _ _ => _) ?_ BIG 0 _ _ _ _ ⟨by omega, by omega, ha, by simp, by simp, by simp, by simp⟩ (gn (by omega))
 intro i a v p q k ⟨h0, h3, ha, hp, hq, hpk, hqk⟩ hk
 unfold oq
 rw [gl (by omega) (by omega)]
 refine Ok.bd2 (ia ⟨hl, ha⟩ (by omega)) fun n1 a1 ⟨b0, b1, ha1, _⟩ => ?_
 simp only at b0 b1 ha1
 refine Ok.ite (fun h => ?_) fun h => ?_
 ·refine Ok.bd2 (ia ⟨hl, ha1⟩ (by omega)) fun n2 a2 ⟨b2, b3, ha2, _⟩ => ?_
  simp only at b2 b3 ha2
  refine Ok.bd3 (ie ⟨hl, ha2⟩ hx) fun n4 a4 v4 ⟨b4, ha4, _⟩ => ?_
  simp only at b4 ha4
  have key : ∀ a5 v5 w, j6 c.list a5 → uO w → (dcd (n2 = 1) = false → w = 0) → Ok (my m i c (dcd (n2 = 1)) n4 p q x k a5 v5 w) fun r => OpOk r.1 ∧ j6 c.list r.2.1 ∧ r.1.kind = 4 ∧ (r.1.cases.length : Int) ≤ m := by
   intro a5 v5 w ha5 hw hw0
   unfold my
   rw [gm (by simp; omega), gl (by omega) (by omega)]
   simp only [Option.bind_some]
   refine Ok.bd2 (ia ⟨hl, ha5⟩ (by omega)) fun n6 a6 ⟨b6, b7, ha6, _⟩ => ?_
   simp only at b6 b7 ha6
   rw [gm (by simp; omega)]
   simp only [Option.bind_some]
   unfold om
   rw [gl (by omega) (by omega)]
   refine hk _ _ _ _ _ ⟨by omega, by omega, ha6, by simp; omega, by simp; omega, fun y hy => ?_, uV hqk hq b6 b7⟩ (by omega)
   rcases List.mem_append.1 hy with hy | hy
   ·exact hpk y hy
   ·simp at hy; subst hy; exact ⟨b4, hw0, hw⟩
  unfold oo
  refine Ok.ite (fun h' => ?_) fun h' => ?_
  ·refine Ok.bd2 kP fun n6 a6 ⟨b6, _⟩ => ?_
   exact key _ _ _ ha4 b6 (fun e => by rw [h'] at e; cases e)
  ·exact key _ _ _ ha4 ⟨by omega, by omega⟩ fun _ => rfl
 ·unfold ol
  refine Ok.bd3 (qE (c := fg.mk c.list a1 _) ⟨hl, ha1⟩ ⟨.inr (.inr rfl), rfl, rfl, ⟨by simp only; omega, by simp only; omega⟩, fun h => absurd rfl h, fun _ => ⟨rfl, rfl⟩, ⟨by simp only; omega, by simp only; omega⟩, hqk, hpk, fun _ => rfl, ⟨by simp only; omega, by simp only; omega⟩⟩) fun o a7 v7 ⟨ho, ha7, _, hkd, hcs⟩ => ?_
  exact Ok.some ⟨ho, ha7, hkd, by simp only at hcs ⊢; rw [hcs]; omega⟩
theorem Df {c : fg} {x : fQ} (hc : Cd c) (hx : x.capacities.length ≤ 8) : Ok (mZ c x) fun r => OpOk r.1 ∧ j6 c.list r.2.1 := by
 obtain ⟨hl, ha⟩ := hc
 have chc : ∀ {k : Int} {n : Int}, C5 n → k = 3 ∨ k = 5 ∨ k = 6 → OpOk (Op.mk k 0 n 0 0 [] []) := fun {k n} hn hk =>
  ⟨by simp only; omega, ⟨by simp only; omega, by simp only; omega⟩, fun _ => rfl, hn, ⟨by simp only; omega, by simp only; omega⟩, fun h => absurd rfl h, fun _ => ⟨rfl, rfl⟩, fun h => by simp only at h; omega, ⟨rfl, by simp⟩, by simp, by simp, fun _ => rfl, ⟨by simp only; omega, by simp only; omega⟩⟩
 unfold mZ
 refine Ok.bd2 (ia ⟨hl, ha⟩ (by omega)) fun n1 a1 ⟨b0, b1, ha1, _⟩ => ?_
 simp only at b0 b1 ha1
 refine Ok.ite (fun h => ?_) fun h => Ok.ite (fun h' => ?_) fun h' => Ok.ite (fun h2 => ?_) fun h2 => Ok.ite (fun h3 => ?_) fun h3 => Ok.ite (fun h4 => ?_) fun h4 => ?_
 ·refine Ok.bd3 (ie (c := fg.mk c.list a1 _) ⟨hl, ha1⟩ hx) fun n2 a2 v2 ⟨b2, ha2, _⟩ => ?_
  refine Ok.bd2 kP fun n3 a3 ⟨b3, _⟩ => ?_
  refine Ok.bd3 (qE (c := fg.mk c.list a2 _) ⟨hl, ha2⟩ ⟨.inl rfl, rfl, rfl, b2, fun _ => ⟨rfl, rfl⟩, fun h => by simp at h, ⟨rfl, by simp⟩, by simp, by simp, fun h => absurd rfl h, b3⟩) fun o a4 v4 ⟨ho, ha4, _⟩ => ?_
  exact Ok.some ⟨ho, ha4⟩
 ·refine Ok.bd3 (ie (c := fg.mk c.list a1 _) ⟨hl, ha1⟩ hx) fun n2 a2 v2 ⟨b2, ha2, _⟩ => ?_
  refine Ok.bd3 (qE (c := fg.mk c.list a2 _) ⟨hl, ha2⟩ ⟨.inr (.inl rfl), rfl, rfl, b2, fun _ => ⟨rfl, rfl⟩, fun h => by simp at h, ⟨rfl, by simp⟩, by simp, by simp, fun _ => rfl, ⟨by simp only; omega, by simp only; omega⟩⟩) fun o a4 v4 ⟨ho, ha4, _⟩ => ?_
  exact Ok.some ⟨ho, ha4⟩
 ·refine Ok.bd3 (B8 (c := fg.mk c.list a1 _) ⟨hl, ha1⟩ hx (by omega) (by omega)) fun o a2 v2 ⟨ho, ha2, _⟩ => ?_
  exact Ok.some ⟨ho, ha2⟩
 ·refine Ok.bd3 (ie (c := fg.mk c.list a1 _) ⟨hl, ha1⟩ hx) fun n2 a2 v2 ⟨b2, ha2, _⟩ => ?_
  exact Ok.some ⟨chc b2 (.inl rfl), ha2⟩
 ·refine Ok.bd3 (ie (c := fg.mk c.list a1 _) ⟨hl, ha1⟩ hx) fun n2 a2 v2 ⟨b2, ha2, _⟩ => ?_
  exact Ok.some ⟨chc b2 (.inr (.inl rfl)), ha2⟩
 ·refine Ok.bd3 (ie (c := fg.mk c.list a1 _) ⟨hl, ha1⟩ hx) fun n2 a2 v2 ⟨b2, ha2, _⟩ => ?_
  exact Ok.some ⟨chc b2 (.inr (.inr rfl)), ha2⟩
structure ix (l : List fL) : Prop where
 len : l.length ≤ 1000
 buf : ∀ c ∈ l, c.buffer.length ≤ 1000
 cap : ∀ c ∈ l, c.capacity ≤ 1000
def pt : Case := Case.mk false 0 0
def jA (op : Op) : Bool := decide (op.kind = 1) || decide (op.kind = 2)
def jt (op : Op) : Case := Case.mk (dcd (op.kind = 1)) op.channel op.value
theorem pA (op : Op) : sM op = some (if jA op = true then jt op else pt, jA op) := by
 unfold sM qU jA jt pt
 by_cases h1 : op.kind = 1 <;> by_cases h2 : op.kind = 2 <;> simp [h1, h2, gU]
theorem mI (op : Op) : sU op = some (if jA op = true then jt op else pt, jA op) := by
 unfold sU ov jA jt pt
 by_cases h1 : op.kind = 1 <;> by_cases h2 : op.kind = 2 <;> simp [h1, h2, gU]
def gG (op : Op) (i : Int) : Option Case := if jA op = true then (if i = -1 then some (jt op) else none) else if op.kind = 4 then getI op.cases i else none
def BC (op : Op) (i : Int) : Case := if jA op = true then jt op else (gG op i).getD pt
theorem mh {op : Op} (h : op.kind = 4) : jA op = false := by simp [jA, h]
theorem xU (op : Op) (i : Int) : sO op i = some (BC op i, (gG op i).isSome) := by
 unfold sO nW BC gG
 rw [pA]
 simp only [i6]
 by_cases h : jA op = true
 ·rw [if_pos h, if_pos h, if_pos h, if_pos h]
  by_cases hi : i = -1 <;> simp [hi, gU]
 ·rw [if_neg h, if_neg h, if_neg h]
  by_cases h4 : op.kind = 4
  ·rw [if_pos h4, if_pos h4]
   by_cases h0 : i < 0
   ·rw [if_pos h0, gI (.inl h0)]; rfl
   ·rw [if_neg h0]
    by_cases h1 : i ≥ (op.cases.length : Int)
    ·rw [ip.2 h1, gI (.inr h1)]; rfl
    ·rw [j9.2 h1, fK (by omega) (by omega)]; rfl
  ·rw [if_neg h4, if_neg h4]; rfl
theorem pn (op : Op) (r : Result) : ∃ x, m9 op r = some (x, (gG op r.case_).isSome) ∧ ∀ y, gG op r.case_ = some y → x = y := by
 unfold m9 sc gG
 rw [mI]
 simp only [i6]
 by_cases h4 : op.kind = 4
 ·rw [if_pos h4, mh h4, if_pos h4]
  simp only [Bool.false_eq_true, if_false]
  by_cases h0 : r.case_ < 0
  ·rw [if_pos h0, gI (.inl h0)]; exact ⟨_, rfl, fun y h => by cases h⟩
  ·rw [if_neg h0]
   by_cases h1 : r.case_ ≥ (op.cases.length : Int)
   ·rw [ip.2 h1, gI (.inr h1)]; exact ⟨_, rfl, fun y h => by cases h⟩
   ·rw [j9.2 h1, fK (by omega) (by omega)]; exact ⟨_, rfl, fun y h => by cases h; rfl⟩
 ·rw [if_neg h4, if_neg h4]
  by_cases h : jA op = true
  ·rw [if_pos h, if_pos h, if_pos h]
   by_cases hi : r.case_ = -1
   ·exact ⟨jt op, by simp [hi, gU], fun y hy => by rw [if_pos hi] at hy; cases hy; rfl⟩
   ·exact ⟨jt op, by simp [hi, gU], fun y hy => by rw [if_neg hi] at hy; cases hy⟩
  ·rw [if_neg h, if_neg h]
   rw [Bool.not_eq_true] at h
   rw [h]
   exact ⟨_, rfl, fun y hy => by simp at hy⟩
theorem kx {op : Op} {i : Int} {x : Case} (h : gG op i = some x) : BC op i = x := by
 unfold BC
 by_cases hs : jA op = true
 ·rw [if_pos hs]
  unfold gG at h
  rw [if_pos hs] at h
  split at h
  ·cases h; rfl
  ·cases h
 ·rw [if_neg hs, h]; rfl
def iG (l : List fL) (i : Int) : fL := (getI l i).getD (fL.mk 0 [] false)
theorem nC (l : List fL) (i : Int) : mo l i = some (iG l i, (getI l i).isSome) := by
 unfold mo qV iG
 by_cases h0 : i < 0
 ·rw [if_pos h0, gI (.inl h0)]; rfl
 ·rw [if_neg h0]
  by_cases h1 : i ≥ (l.length : Int)
  ·rw [ip.2 h1, gI (.inr h1)]; rfl
  ·rw [j9.2 h1, fK (by omega) (by omega)]; rfl
theorem jR (l : List fL) (i : Int) : qk l i = some (getI l i).isSome := by
 unfold qk
 by_cases h0 : i ≥ 0
 ·rw [if_pos h0]
  by_cases h1 : i < (l.length : Int)
  ·rw [ip.2 h1, fK h0 h1]; rfl
  ·rw [j9.2 h1, gI (.inr (by omega))]; rfl
 ·rw [if_neg h0, gI (.inl (by omega))]; rfl
def um (l : List fL) (x : Case) : Bool := match getI l x.channel with
 | none => false
 | some c => if x.send = true then c.closed || decide ((c.buffer.length : Int) < c.capacity) else c.closed || decide ((c.buffer.length : Int) > 0)
theorem Do (l : List fL) (x : Case) : qY l x = some (um l x) := by
 unfold qY um
 rw [nC]
 simp only [i6, iG]
 cases getI l x.channel with
 | none => rfl
 | some c => cases hs : x.send <;> cases hc : c.closed <;> simp [gU, hc]
theorem x6 (l : List fL) (x : Case) : pL l x = some (um l x) := by
 unfold pL um
 rw [jR]
 simp only [Option.bind_some]
 cases getI l x.channel with
 | none => rfl
 | some c => cases hs : x.send <;> cases hc : c.closed <;> simp [gU, hc]
def gJ (r : Result) (v n : Bool) : Bool := (v || (decide (r.value = 0) && !r.ok)) && (n || decide (r.number = 0))
theorem kj (r : Result) (v n : Bool) : mi r v n = some (gJ r v n) := by
 unfold mi na gJ
 cases v <;> cases n <;> by_cases h : r.value = 0 <;> cases h2 : r.ok <;> simp [h, gU]
theorem EB {l : List fL} (h : l.length ≤ 1000) : qX l = some l := by
 unfold qX; rw [gm (by simp; omega)]; rfl
theorem xT {l : List fL} {i : Int} {c c' : fL} (h : l.length ≤ 1000) (hi : getI l i = some c) : mp l i c' = some (gb l i c') := by
 unfold mp; rw [EB h]; simp only [Option.bind_some]; rw [hi]; rfl
theorem AO {l : List fL} {i : Int} {c c' : fL} (h : l.length ≤ 1000) (hi : getI l i = some c) : s8 l i c' = some (gb l i c') := by
 unfold s8; rw [gm (by simp; omega)]; simp only [Option.bind_some, List.nil_append]; rw [hi]; rfl
def iy (l : List fL) (cs : List Case) : Bool := cs.any (um l)
theorem EI {l : List fL} {cs : List Case} (hc : cs.length ≤ 1000) : Ok (qZ cs l) fun r => -1 ≤ r ∧ (r ≥ 0 ↔ iy l cs = true) := by
 unfold qZ
 refine jB (fun i => ((cs.length : Int) - i).toNat) (fun i => 0 ≤ i ∧ i ≤ (cs.length : Int) ∧ (iy l cs = true ↔ iy l (cs.drop i.toNat) = true)) (fun _ => _) ?_ BIG 0 ⟨by omega, by omega, by simp⟩ (gn (by omega))
 intro i k ⟨h0, h1, h2⟩ hk
 unfold vA
 refine Ok.ite (fun h => ?_) fun h => ?_
 ·have hg := fK h0 h
  rw [hg]
  simp only [Option.bind_some]
  rw [ig hg] at h2
  generalize cs[i.toNat]'(by omega) = x at *
  unfold vy
  rw [Do]
  simp only [Option.bind_some]
  refine Ok.ite (fun hr => Ok.some ⟨by omega, ?_⟩) fun hr => ?_
  ·rw [h2]; simp only [iy, List.any_cons, hr, Bool.true_or]; exact ⟨fun _ => trivial, fun _ => h0⟩
  ·rw [gl (by omega) (by omega)]
   refine hk _ ⟨by omega, by omega, ?_⟩ (by omega)
   rw [h2]; simp only [iy, List.any_cons]; simp [hr]
 ·unfold vz
  refine Ok.some ⟨by omega, ?_⟩
  rw [h2, List.drop_eq_nil_of_le (by omega)]
  simp [iy]
theorem y4 {l : List fL} {cs : List Case} (hc : cs.length ≤ 1000) : nX cs l = some (iy l cs) := by
 unfold nX
 obtain ⟨r, hr, h1, h2⟩ := EI (l := l) hc
 rw [hr]
 simp only [Option.bind_some]
 congr 1
 rw [gU, Bool.eq_iff_iff, decide_eq_true_iff]; exact h2
def casesS (op : Op) : List Case := if op.kind = 4 then op.cases else if jA op = true then [jt op] else []
theorem ju (op : Op) : nh op = some (casesS op) := by
 unfold nh casesS
 rw [mI]
 by_cases h : op.kind = 4
 ·rw [if_pos h, if_pos h]
 ·rw [if_neg h, if_neg h]
  simp only [i6]
  by_cases h2 : jA op = true
  ·simp only [h2, if_true]
  ·rw [if_neg h2, if_neg h2]
theorem xx (op : Op) : pD op = some (if jA op = true then [jt op] else op.cases) := by
 unfold pD
 rw [pA]
 simp only [i6]
 by_cases h2 : jA op = true
 ·simp only [h2, if_true]
 ·rw [if_neg h2, if_neg h2]
theorem Az {l : List fL} {op : Op} (hc : (casesS op).length ≤ 1000) : sd l op = some (!iy l (casesS op)) := by
 refine Ok.eq ?_
 unfold sd
 rw [ju]
 simp only [Option.bind_some]
 generalize casesS op = cs at *
 refine jB (fun i => ((cs.length : Int) - i).toNat) (fun i => 0 ≤ i ∧ i ≤ (cs.length : Int) ∧ iy l cs = iy l (cs.drop i.toNat)) (fun _ => _) ?_ BIG 0 ⟨by omega, by omega, by simp⟩ (gn (by omega))
 intro i k ⟨h0, h1, h2⟩ hk
 unfold wK
 refine Ok.ite (fun h => ?_) fun h => ?_
 ·have hg := fK h0 h
  rw [hg]
  simp only [Option.bind_some]
  rw [ig hg] at h2
  generalize cs[i.toNat]'(by omega) = x at *
  rw [x6]
  simp only [Option.bind_some]
  refine Ok.ite (fun hr => Ok.some ?_) fun hr => ?_
  ·rw [h2]; simp [iy, hr]
  ·rw [gl (by omega) (by omega)]
   refine hk _ ⟨by omega, by omega, ?_⟩ (by omega)
   rw [h2]; simp [iy, hr]
 ·unfold wJ
  refine Ok.some ?_
  rw [h2, List.drop_eq_nil_of_le (by omega)]
  simp [iy]
structure OpM (op : Op) : Prop where
 mode : jA op = false → op.kind ≠ 4 → op.mode = 0
 nc : op.kind ≠ 4 → op.cases = []
 len : op.cases.length ≤ 1000
theorem OpOk.m {op : Op} (h : OpOk op) : OpM op := ⟨fun h1 h2 => h.plain (by
 have := h.kind
 simp [jA] at h1
 omega), fun h2 => (h.nosel h2).1, by have := h.lens; omega⟩
theorem OpM.casesS {op : Op} (h : OpM op) : (if jA op = true then [jt op] else op.cases) = Hx.casesS op := by
 unfold Hx.casesS
 by_cases h4 : op.kind = 4
 ·rw [if_pos h4, mh h4]; rfl
 ·rw [if_neg h4, h.nc h4]
theorem OpM.casesLen {op : Op} (h : OpM op) : (Hx.casesS op).length ≤ 1000 := by
 unfold Hx.casesS
 have := h.len
 split
 ·omega
 ·split <;> simp
def jH (l : List fL) (x : Case) (r : Result) : List fL × Bool := match getI l x.channel with
 | none => ([], false)
 | some c =>
  if r.kind = 1 then (if (x.send && (gJ r false false && (!c.closed && decide ((c.buffer.length : Int) < c.capacity)))) = true then (gb l x.channel (fL.mk c.capacity (c.buffer ++ [x.value]) c.closed), true) else ([], false))
  else if r.kind = 5 then (if (x.send && (gJ r false false && c.closed)) = true then (l, true) else ([], false))
  else if r.kind = 2 then (if x.send = true then ([], false) else if r.ok = true then (if (decide (r.number = 0) && decide (getI c.buffer 0 = some r.value)) = true then (gb l x.channel (fL.mk c.capacity (c.buffer.drop 1) c.closed), true) else ([], false))
   else (if (decide (r.number = 0) && (decide (r.value = 0) && (c.closed && decide (c.buffer.length = 0)))) = true then (l, true) else ([], false)))
  else ([], false)
def j8 (l : List fL) (op : Op) (r : Result) : Bool := match getI l op.channel with
 | none => true
 | some c => c.closed
def lN (l : List fL) (op : Op) : Int := match getI l op.channel with
 | none => 0
 | some c => if op.kind = 6 then c.capacity else (c.buffer.length : Int)
def gx (l : List fL) (op : Op) (r : Result) : List fL × Bool :=
 if r.kind = 1 ∨ r.kind = 2 ∨ (r.kind = 5 ∧ op.kind ≠ 3) then (match gG op r.case_ with
  | none => ([], false)
  | some x => jH l x r)
 else if r.kind = 5 then (if (decide (r.case_ = -1) && (gJ r false false && j8 l op r)) = true then (l, true) else ([], false))
 else if r.kind = 6 then (if (decide (op.kind = 3) && (decide (r.case_ = -1) && (gJ r false false && !j8 l op r))) = true then (match getI l op.channel with
  | none => ([], false)
  | some c => (gb l op.channel (fL.mk c.capacity c.buffer true), true)) else ([], false))
 else if r.kind = 3 then (if (decide (op.mode = 1) && (decide (r.case_ = -1) && (gJ r false false && !iy l (casesS op)))) = true then (l, true) else ([], false))
 else if r.kind = 4 then (if (decide (op.mode = 2) && (decide (r.case_ = -1) && gJ r false false)) = true then (l, true) else ([], false))
 else if r.kind = 7 then (if ((decide (op.kind = 5) || decide (op.kind = 6)) && (decide (r.case_ = -1) && (gJ r false true && decide (r.number = lN l op)))) = true then (l, true) else ([], false))
 else ([], false)
theorem CG {op : Op} (h : jA op = true) : op.kind = 1 ∨ op.kind = 2 := by simpa [jA] using h
theorem FO {l : List Int} (h : l.length ≤ 1000) : qW l = some l := by
 unfold qW; rw [gm (by simp; omega)]; rfl
theorem GN {l : List fL} {x : Case} {r : Result} (hl : ix l) (hk : r.kind = 1 ∨ r.kind = 2 ∨ r.kind = 5) : ∃ m, te l x r = some (m, (jH l x r).2) ∧ ((jH l x r).2 = true → m = (jH l x r).1) := by
 unfold te jH
 rw [jR]
 simp only [Option.bind_some]
 cases hc : getI l x.channel with
 | none => exact ⟨[], rfl, fun h => by cases h⟩
 | some c =>
  have hbl := hl.buf c (fX hc)
  have hcl := hl.cap c (fX hc)
  simp only [Option.isSome_some, if_true, Option.bind_some]
  rcases hk with hk | hk | hk
  ·rw [if_pos hk, if_pos hk]
   unfold td oS wH tc pQ ta
   cases hs : x.send
   ·simp [hk]
   ·rw [gm (by simp; omega)]
    simp only [kj, if_true, Option.bind_some, List.nil_append]
    rw [gm (by simp; omega)]
    simp only [Option.bind_some]
    rw [AO hl.len hc]
    by_cases hr : (c.buffer.length : Int) < c.capacity
    ·rw [show dcd ((c.buffer.length : Int) ≥ c.capacity) = false from j9.2 (by omega)]
     by_cases ho : gJ r false false = true <;> cases hcd : c.closed <;> simp [ho, hcd, hr]
    ·rw [show dcd ((c.buffer.length : Int) ≥ c.capacity) = true from ip.2 (by omega)]
     by_cases ho : gJ r false false = true <;> cases hcd : c.closed <;> simp [ho, hcd, hr]
  ·rw [if_neg (by omega), if_neg (by omega), if_neg (by omega), if_pos hk]
   unfold td tc pQ oU ta s9
   simp only [kj, Option.bind_some]
   have h15 : ¬ r.kind = 5 := by omega
   cases hs : x.send
   ·cases hok : r.ok
    ·simp [hk, h15, gJ]
     by_cases hn : r.number = 0 <;> by_cases hv : r.value = 0 <;> cases hcd : c.closed <;> by_cases hb : c.buffer = [] <;> simp [hn, hv, hcd, hb, gU]
    ·simp [hk, h15, gJ]
     by_cases hn : r.number = 0
     ·simp [hn]
      by_cases hb : (c.buffer.length : Int) = 0
      ·have : c.buffer = [] := List.eq_nil_of_length_eq_zero (by omega)
       simp [this, getI]
      ·rw [fK (l := c.buffer) (i := 0) (by omega) (by omega), iY (by omega) (by omega) (by omega)]
       simp [hb, gU]
       rw [AO hl.len hc]
       have hne : ¬ c.buffer = [] := fun e => hb (by rw [e]; rfl)
       by_cases hv : c.buffer[0]'(by omega) = r.value <;> simp [hv, hne]
     ·simp [hn]
   ·simp [hk, h15]
  ·have h1 : ¬ r.kind = 1 := by omega
   have h2 : ¬ r.kind = 2 := by omega
   rw [if_neg h1, if_neg h1, if_pos hk]
   unfold td tc pQ ta
   simp only [kj, Option.bind_some]
   cases hs : x.send
   ·simp [hk, h2]
   ·simp [hk]
    cases ho : gJ r false false <;> cases hcd : c.closed <;> simp
theorem GH {o : Option (List fL × Bool)} {a : List fL × Bool} (h : ∃ m, o = some (m, a.2) ∧ (a.2 = true → m = a.1)) (h0 : a.2 = false → a.1 = []) : (bd2 o fun x b => if b = true then some (x, true) else some ([], false)) = some a := by
 obtain ⟨m, h1, h2⟩ := h
 obtain ⟨a1, a2⟩ := a
 rw [h1]
 simp only [i6]
 cases a2
 ·simp only [Bool.false_eq_true, if_false]
  rw [show a1 = [] from h0 rfl]
 ·simp only [if_true]
  rw [show m = a1 from h2 rfl]
theorem FQ (l : List fL) (x : Case) (r : Result) : (jH l x r).2 = false → (jH l x r).1 = [] := by
 unfold jH
 repeat' split
 all_goals simp
section
variable {l : List fL} {op : Op} {r : Result}
theorem kn (h : r.kind = 1 ∨ r.kind = 2 ∨ (r.kind = 5 ∧ op.kind ≠ 3)) : gx l op r = (match gG op r.case_ with
  | none => ([], false)
  | some x => jH l x r) := by unfold gx; rw [if_pos h]
theorem yx (h : r.kind = 5) (h3 : op.kind = 3) : gx l op r = if (decide (r.case_ = -1) && (gJ r false false && j8 l op r)) = true then (l, true) else ([], false) := by
 unfold gx; rw [if_neg (by omega), if_pos h]
theorem yy (h : r.kind = 6) : gx l op r = if (decide (op.kind = 3) && (decide (r.case_ = -1) && (gJ r false false && !j8 l op r))) = true then (match getI l op.channel with
  | none => ([], false)
  | some c => (gb l op.channel (fL.mk c.capacity c.buffer true), true)) else ([], false) := by
 unfold gx; rw [if_neg (by omega), if_neg (by omega), if_pos h]
theorem yu (h : r.kind = 3) : gx l op r = if (decide (op.mode = 1) && (decide (r.case_ = -1) && (gJ r false false && !iy l (casesS op)))) = true then (l, true) else ([], false) := by
 unfold gx; rw [if_neg (by omega), if_neg (by omega), if_neg (by omega), if_pos h]
theorem yw (h : r.kind = 4) : gx l op r = if (decide (op.mode = 2) && (decide (r.case_ = -1) && gJ r false false)) = true then (l, true) else ([], false) := by
 unfold gx; rw [if_neg (by omega), if_neg (by omega), if_neg (by omega), if_neg (by omega), if_pos h]
theorem yz (h : r.kind = 7) : gx l op r = if ((decide (op.kind = 5) || decide (op.kind = 6)) && (decide (r.case_ = -1) && (gJ r false true && decide (r.number = lN l op)))) = true then (l, true) else ([], false) := by
 unfold gx; rw [if_neg (by omega), if_neg (by omega), if_neg (by omega), if_neg (by omega), if_neg (by omega), if_pos h]
theorem uQ (h : r.kind < 1 ∨ 7 < r.kind) : gx l op r = ([], false) := by
 unfold gx; rw [if_neg (by omega), if_neg (by omega), if_neg (by omega), if_neg (by omega), if_neg (by omega), if_neg (by omega)]
end
theorem nJ {l : List fL} {op : Op} {r : Result} (hl : ix l) (ho : OpM op) : oY l op r = some (gx l op r) := by
 have key : ∀ (t : Bool), (t = (jA op || decide (op.kind = 4))) → (bd2 (tj l r op t) fun x b => if b = true then some (x, true) else some ([], false)) = some (gx l op r) := by
  intro t ht
  have hchosen : ∀ (b : Bool), (r.kind = 1 ∨ r.kind = 2 ∨ (r.kind = 5 ∧ op.kind ≠ 3)) → (bd2 (bd2 (m9 op r) fun x299 x300 => (if x300 = true then bd2 (te l x299 r) fun x305 x306 => some (x305, x306) else some ([], false))) fun x b => if b = true then some (x, true) else some ([], false)) = some (gx l op r) := by
   intro _ hk
   obtain ⟨x, hx, hxe⟩ := pn op r
   rw [hx, kn hk]
   simp only [i6]
   cases hc : gG op r.case_ with
   | none => rfl
   | some y =>
    obtain rfl := hxe y hc
    simp only [Option.isSome_some, if_true]
    obtain ⟨m, h1, h2⟩ := GN (x := x) (r := r) hl (by omega)
    refine GH ⟨m, ?_, h2⟩ (FQ _ _ _)
    rw [h1]; rfl
  unfold tj
  have hJ2 : ∀ b, (b = true ↔ (r.kind = 1 ∨ r.kind = 2)) → (bd2 (oW l t r op b) fun x b => if b = true then some (x, true) else some ([], false)) = some (gx l op r) := by
   intro b hb
   unfold oW
   by_cases h12 : r.kind = 1 ∨ r.kind = 2
   ·rw [if_pos (hb.2 h12)]
    exact hchosen b (by omega)
   rw [if_neg (fun h => h12 (hb.1 h))]
   by_cases h5 : r.kind = 5
   ·rw [if_pos h5]
    by_cases h3 : op.kind = 3
    ·rw [if_pos h3, yx h5 h3]
     unfold tf
     simp only [kj, jR, Option.bind_some]
     by_cases hca : r.case_ = -1
     ·cases hon : gJ r false false
      ·simp [hca, hon]
      ·cases hc : getI l op.channel with
       | none => simp [hca, hon, j8, hc]
       | some c => cases hcd : c.closed <;> simp [hca, hon, j8, hc, hcd]
     ·simp [hca]
    ·rw [if_neg h3]
     exact hchosen b (by omega)
   rw [if_neg h5]
   by_cases h6 : r.kind = 6
   ·rw [if_pos h6, yy h6]
    unfold pR
    simp only [kj, jR, Option.bind_some]
    by_cases h3 : op.kind = 3
    ·by_cases hca : r.case_ = -1
     ·cases hon : gJ r false false
      ·simp [hca, hon, h3]
      ·cases hc : getI l op.channel with
       | none => simp [hca, hon, j8, hc, h3]
       | some c => cases hcd : c.closed <;> simp [hca, hon, j8, hc, hcd, h3, AO hl.len hc]
     ·simp [hca, h3]
    ·simp [h3]
   rw [if_neg h6]
   by_cases h3 : r.kind = 3
   ·rw [if_pos h3, yu h3]
    unfold pS
    simp only [kj, Option.bind_some, Az ho.casesLen]
    by_cases hm : op.mode = 1
    ·have htt : t = true := by
      rw [ht]
      cases hsr : jA op
      ·by_cases h4 : op.kind = 4
       ·simp [h4]
       ·have := ho.mode hsr h4; omega
      ·rfl
     by_cases hca : r.case_ = -1
     ·cases hon : gJ r false false <;> cases har : iy l (casesS op) <;> simp [hm, htt, hca, hon, har]
     ·simp [hca, hm]
    ·cases t <;> simp [hm]
   rw [if_neg h3]
   by_cases h4 : r.kind = 4
   ·rw [if_pos h4, yw h4]
    unfold tg
    simp only [kj, Option.bind_some]
    by_cases hm : op.mode = 2
    ·have htt : t = true := by
      rw [ht]
      cases hsr : jA op
      ·by_cases h4 : op.kind = 4
       ·simp [h4]
       ·have := ho.mode hsr h4; omega
      ·rfl
     by_cases hca : r.case_ = -1
     ·cases hon : gJ r false false <;> simp [hm, htt, hca, hon]
     ·simp [hca, hm]
    ·cases t <;> simp [hm]
   rw [if_neg h4]
   by_cases h7 : r.kind = 7
   ·rw [if_pos h7, yz h7]
    unfold oV mA
    simp only [kj, jR, Option.bind_some]
    by_cases hca : r.case_ = -1
    ·cases hon : gJ r false true
     ·cases hc : getI l op.channel <;> by_cases k5 : op.kind = 5 <;> by_cases k6 : op.kind = 6 <;> simp [hca, hon, hc, k5, k6]
     ·cases hc : getI l op.channel with
      | none => by_cases k5 : op.kind = 5 <;> by_cases k6 : op.kind = 6 <;> simp [hca, hon, hc, k5, k6, lN, gU] <;> (split <;> rfl)
      | some c => by_cases k5 : op.kind = 5 <;> by_cases k6 : op.kind = 6 <;> simp [hca, hon, hc, k5, k6, lN, gU] <;> (split <;> rfl)
    ·cases hc : getI l op.channel <;> by_cases k5 : op.kind = 5 <;> by_cases k6 : op.kind = 6 <;> simp [hca, k5, k6]
   ·rw [if_neg h7, uQ (by omega)]; rfl
  by_cases h1 : r.kind = 1
  ·rw [if_pos h1]
   exact hJ2 _ (by rw [ip]; omega)
  ·rw [if_neg h1]
   exact hJ2 _ (by rw [ip]; omega)
 unfold oY wL
 by_cases h1 : op.kind = 1
 ·rw [if_pos h1]; exact key _ (by simp [jA, h1])
 ·rw [if_neg h1]
  by_cases h2 : op.kind = 2
  ·rw [if_pos h2]; exact key _ (by simp [jA, h2])
  ·rw [if_neg h2]; exact key _ (by simp [jA, h1, h2, gU])
theorem lL {op : Op} {i : Int} {x : Case} (h : gG op i = some x) : op.kind ≠ 3 := by
 unfold gG at h
 split at h
 ·rename_i hs
  have := CG hs
  omega
 ·split at h
  ·omega
  ·cases h
theorem lU {l : List fL} {op : Op} {r : Result} (hl : ix l) (ho : OpM op) : sP l op r = some (gx l op r) := by
 unfold sP
 rw [xU]
 simp only [i6]
 have e1 : ∀ k, (r = Result.mk k r.case_ 0 false 0) = (r.kind = k ∧ gJ r false false = true) := fun k => by
  obtain ⟨a, b, c, d, e⟩ := r
  simp [gJ]
  intros; rw [and_assoc]
 have e2 : (r = Result.mk 2 r.case_ r.value true 0) = (r.kind = 2 ∧ r.ok = true ∧ r.number = 0) := by
  obtain ⟨a, b, c, d, e⟩ := r; simp
 have e6 : ∀ k, (r = Result.mk k (-1) 0 false 0) = (r.kind = k ∧ r.case_ = -1 ∧ gJ r false false = true) := fun k => by
  obtain ⟨a, b, c, d, e⟩ := r
  simp [gJ]
  intros; rw [and_assoc]
 have e7 : (r = Result.mk 7 (-1) 0 false r.number) = (r.kind = 7 ∧ r.case_ = -1 ∧ gJ r false true = true) := by
  obtain ⟨a, b, c, d, e⟩ := r
  simp [gJ]
 have hz : gJ r false false = true → r.value = 0 ∧ r.ok = false ∧ r.number = 0 := fun h => by
  simp [gJ] at h; exact ⟨h.1.1, h.1.2, h.2⟩
 unfold q8
 simp only [nC, i6, e1, e2, e6, e7]
 by_cases h1 : r.kind = 1
 ·rw [kn (.inl h1)]
  cases hc : gG op r.case_ with
  | none =>
   by_cases h3 : op.kind = 3 <;> cases hon : gJ r false false <;> simp [h1, h3, hon, iW, mX]
  | some x =>
   have h3 := lL hc
   rw [kx hc, if_neg h3]
   unfold jH
   cases hg : getI l x.channel with
   | none => cases hon : gJ r false false <;> cases hs : x.send <;> simp [h1, hon, hs, hg, iW, mX]
   | some c =>
    have hbl := hl.buf c (fX hg)
    have hf : iG l x.channel = c := by unfold iG; rw [hg]; rfl
    have hp : ∀ c', mp l x.channel c' = some (gb l x.channel c') := fun c' => xT hl.len hg
    have ha : app c.buffer [x.value] = some (c.buffer ++ [x.value]) := gm (by simp; omega)
    cases hon : gJ r false false <;> cases hs : x.send <;> cases hcd : c.closed <;> by_cases hr : (c.buffer.length : Int) < c.capacity <;>
     simp [h1, hon, hs, hcd, hr, hg, hf, hp, ha, FO hbl, vx, iW, mX, vB, gU]
 by_cases h2 : r.kind = 2
 ·rw [kn (.inr (.inl h2))]
  cases hc : gG op r.case_ with
  | none =>
   by_cases h3 : op.kind = 3 <;> cases hok : r.ok <;> by_cases hn : r.number = 0 <;> cases hon : gJ r false false <;> simp [h2, h3, hok, hn, hon, iW, qj, tt]
  | some x =>
   have h3 := lL hc
   rw [kx hc, if_neg h3]
   unfold jH
   cases hg : getI l x.channel with
   | none => cases hok : r.ok <;> by_cases hn : r.number = 0 <;> cases hon : gJ r false false <;> cases hs : x.send <;> simp [h2, hok, hn, hon, hs, hg, iW, qj, tt]
   | some c =>
    have hbl := hl.buf c (fX hg)
    have hf : iG l x.channel = c := by unfold iG; rw [hg]; rfl
    have hp : ∀ c', mp l x.channel c' = some (gb l x.channel c') := fun c' => xT hl.len hg
    by_cases hn : r.number = 0
    ·cases hok : r.ok
     ·cases hon : gJ r false false
      ·have hv : ¬ r.value = 0 := fun hv => by simp [gJ, hn, hok, hv] at hon
       cases hs : x.send <;> simp [h2, hon, hs, hok, hn, hv, hg, iW, tt]
      ·have hv := (hz hon).1
       cases hs : x.send <;> cases hcd : c.closed <;> by_cases hb : c.buffer = [] <;> simp [h2, hon, hs, hok, hn, hv, hcd, hb, hg, hf, iW, tt]
     ·have hon : gJ r false false = false := by simp [gJ, hok]
      cases hs : x.send
      ·by_cases hb : c.buffer = []
       ·have hg0 : getI c.buffer 0 = none := by rw [hb]; rfl
        simp [h2, hon, hs, hok, hn, hg, hf, hg0, iW, qj, show ¬ 0 < c.buffer.length by rw [hb]; simp]
       ·have hpos : 0 < c.buffer.length := List.length_pos_iff.2 hb
        have hgb := fK (l := c.buffer) (i := 0) (by omega) (by omega)
        have hcut : jP c.buffer 1 (c.buffer.length : Int) = some (c.buffer.drop 1) := by
         rw [iY (by omega) (by omega) (by omega)]; simp
        by_cases hv : c.buffer[0]'hpos = r.value <;> simp [h2, hon, hs, hok, hn, hg, hf, hgb, hp, hv, hpos, hcut, iW, qj, gU]
      ·simp [h2, hon, hs, hok, hn, hg, iW, qj]
    ·have hon : gJ r false false = false := by simp [gJ, hn]
     cases hs : x.send <;> cases hok : r.ok <;> simp [h2, hon, hs, hok, hn, hg, iW]
 by_cases h5 : r.kind = 5
 ·by_cases h3 : op.kind = 3
  ·rw [yx h5 h3, if_pos h3]
   have hnc : gG op r.case_ = none := by
    cases hc : gG op r.case_ with
    | none => rfl
    | some x => exact absurd h3 (lL hc)
   cases hon : gJ r false false
   ·simp [h5, hon, iW]
   ·by_cases hca : r.case_ = -1
    ·cases hg : getI l op.channel with
     | none => simp [h5, hon, hca, h3, hg, hnc, j8, ks]
     | some c =>
      have hf : iG l op.channel = c := by unfold iG; rw [hg]; rfl
      cases hcd : c.closed <;> simp [h5, hon, hca, h3, hg, hnc, hf, hcd, j8, ks, iW]
    ·simp [h5, hon, hca, h3, hnc, ks, iW]
  ·rw [kn (.inr (.inr ⟨h5, h3⟩)), if_neg h3]
   cases hc : gG op r.case_ with
   | none => cases hon : gJ r false false <;> simp [h5, hon, h3, iW, ks]
   | some x =>
    rw [kx hc]
    unfold jH
    cases hg : getI l x.channel with
    | none => cases hon : gJ r false false <;> cases hs : x.send <;> simp [h5, h3, hon, hs, hg, iW, ks]
    | some c =>
     have hf : iG l x.channel = c := by unfold iG; rw [hg]; rfl
     cases hon : gJ r false false <;> cases hs : x.send <;> cases hcd : c.closed <;> simp [h5, h3, hon, hs, hg, hf, hcd, iW, ks]
 have hsame : ∀ (a b : Option (List fL × Bool)), (if op.kind = 3 then a else b) = (if op.kind = 3 then a else b) := fun _ _ => rfl
 by_cases h6 : r.kind = 6
 ·rw [yy h6]
  by_cases h3 : op.kind = 3
  ·rw [if_pos h3]
   by_cases hca : r.case_ = -1
   ·cases hon : gJ r false false
    ·simp [h6, hon, hca, h3, iW]
    ·cases hg : getI l op.channel with
     | none => simp [h6, hon, hca, h3, hg, j8, pE, iW]
     | some c =>
      have hf : iG l op.channel = c := by unfold iG; rw [hg]; rfl
      have hp : ∀ c', mp l op.channel c' = some (gb l op.channel c') := fun c' => xT hl.len hg
      cases hcd : c.closed <;> simp [h6, hon, hca, h3, hg, hf, hp, hcd, j8, pE, iW]
   ·simp [h6, hca, iW]
  ·rw [if_neg h3]
   simp [h6, h3, iW, pE]
 by_cases h3 : r.kind = 3
 ·rw [yu h3]
  have hcc : ∀ cs, cs = casesS op → nX cs l = some (iy l (casesS op)) := fun cs e => by rw [e]; exact y4 ho.casesLen
  by_cases k3 : op.kind = 3 <;> by_cases hca : r.case_ = -1 <;> cases hon : gJ r false false <;> by_cases hm : op.mode = 1 <;> cases har : iy l (casesS op) <;>
   simp [h3, k3, hca, hon, hm, har, xx, ho.casesS, hcc, iW, q7]
 by_cases h4 : r.kind = 4
 ·rw [yw h4]
  by_cases k3 : op.kind = 3 <;> by_cases hca : r.case_ = -1 <;> cases hon : gJ r false false <;> by_cases hm : op.mode = 2 <;> simp [h4, k3, hca, hon, hm, iW]
 by_cases h7 : r.kind = 7
 ·rw [yz h7]
  by_cases hca : r.case_ = -1
  ·cases hon : gJ r false true
   ·by_cases k3 : op.kind = 3 <;> simp [h7, hca, hon, iW]
   ·cases hg : getI l op.channel with
    | none =>
     have hf : iG l op.channel = fL.mk 0 [] false := by unfold iG; rw [hg]; rfl
     by_cases k3 : op.kind = 3 <;> by_cases k5 : op.kind = 5 <;> by_cases k6 : op.kind = 6 <;> by_cases hn : r.number = 0 <;> simp [h7, hca, hon, k3, k5, k6, hf, hg, hn, lN, iW, lD, gU] <;> omega
    | some c =>
     have hf : iG l op.channel = c := by unfold iG; rw [hg]; rfl
     by_cases k5 : op.kind = 5
     ·by_cases hn : r.number = (c.buffer.length : Int) <;> simp [h7, hca, hon, k5, hf, hg, hn, lN, iW, lD, gU]
     ·by_cases k6 : op.kind = 6
      ·by_cases hn : r.number = c.capacity <;> simp [h7, hca, hon, k6, hf, hg, hn, lN, iW, lD, gU]
      ·by_cases k3 : op.kind = 3 <;> simp [h7, hca, hon, k3, k5, k6, hf, hg, lN, iW, lD, gU]
  ·by_cases k3 : op.kind = 3 <;> simp [h7, hca, iW]
 ·rw [uQ (by omega)]
  by_cases k3 : op.kind = 3 <;> simp [h1, h2, h3, h4, h5, h6, h7, iW]
theorem yb {l : List fL} {i : Int} {c : fL} (hl : ix l) (h1 : c.buffer.length ≤ 1000) (h2 : c.capacity ≤ 1000) : ix (gb l i c) := by
 refine ⟨by rw [gk]; exact hl.len, fun x hx => ?_, fun x hx => ?_⟩
 ·rcases iN hx with rfl | hx
  ·exact h1
  ·exact hl.buf x hx
 ·rcases iN hx with rfl | hx
  ·exact h2
  ·exact hl.cap x hx
theorem Cb {l : List fL} {op : Op} {r : Result} (hl : ix l) (h : (gx l op r).2 = true) : ix (gx l op r).1 ∧ (gx l op r).1.length = l.length := by
 have hdo : ∀ x, (jH l x r).2 = true → ix (jH l x r).1 ∧ (jH l x r).1.length = l.length := by
  intro x h
  unfold jH at h ⊢
  cases hg : getI l x.channel with
  | none => rw [hg] at h; simp at h
  | some c =>
   rw [hg] at h
   have hb := hl.buf c (fX hg)
   have hc := hl.cap c (fX hg)
   simp only at h ⊢
   repeat' split at h
   all_goals first
    | (simp at h; done)
    | skip
   ·rename_i h1 h2
    simp only [h1, h2, if_true]
    simp only [Bool.and_eq_true, decide_eq_true_eq] at h2
    exact ⟨yb hl (by simp; omega) hc, gk⟩
   ·rename_i h1 h2 h3
    simp only [h1, h2, h3, if_true, if_false]
    exact ⟨hl, rfl⟩
   ·rename_i h1 h2 h3 h4 h5 h6
    simp only [h1, h2, h3, h4, h5, h6, if_true, if_false]
    exact ⟨yb hl (by simp; omega) hc, gk⟩
   ·rename_i h1 h2 h3 h4 h5 h6
    simp only [h1, h2, h3, h4, h5, h6, if_true, if_false]
    exact ⟨hl, rfl⟩
 unfold gx at h ⊢
 by_cases h1 : r.kind = 1 ∨ r.kind = 2 ∨ (r.kind = 5 ∧ op.kind ≠ 3)
 ·rw [if_pos h1] at h ⊢
  cases hc : gG op r.case_ with
  | none => rw [hc] at h; simp at h
  | some x => rw [hc] at h; exact hdo x h
 ·rw [if_neg h1] at h ⊢
  by_cases h5 : r.kind = 5
  ·rw [if_pos h5] at h ⊢
   split at h
   ·rename_i hh; rw [if_pos hh]; exact ⟨hl, rfl⟩
   ·cases h
  rw [if_neg h5] at h ⊢
  by_cases h6 : r.kind = 6
  ·rw [if_pos h6] at h ⊢
   split at h
   ·rename_i hh; rw [if_pos hh]
    cases hg : getI l op.channel with
    | none => rw [hg] at h; cases h
    | some c => exact ⟨yb hl (hl.buf c (fX hg)) (hl.cap c (fX hg)), gk⟩
   ·cases h
  rw [if_neg h6] at h ⊢
  by_cases h3 : r.kind = 3
  ·rw [if_pos h3] at h ⊢
   split at h
   ·rename_i hh; rw [if_pos hh]; exact ⟨hl, rfl⟩
   ·cases h
  rw [if_neg h3] at h ⊢
  by_cases h4 : r.kind = 4
  ·rw [if_pos h4] at h ⊢
   split at h
   ·rename_i hh; rw [if_pos hh]; exact ⟨hl, rfl⟩
   ·cases h
  rw [if_neg h4] at h ⊢
  by_cases h7 : r.kind = 7
  ·rw [if_pos h7] at h ⊢
   split at h
   ·rename_i hh; rw [if_pos hh]; exact ⟨hl, rfl⟩
   ·cases h
  rw [if_neg h7] at h
  cases h
def qb (l : List fL) (i : Int) : Bool := match getI l i with
 | none => false
 | some c => !c.closed && decide (c.capacity ≤ 0)
def qc (l : List fL) (s r : Case) (x y : Result) : Bool :=
 s.send && (!r.send && (decide (s.channel = r.channel) && (qb l s.channel && ((decide (x.kind = 1) && gJ x false false) && (decide (y.kind = 2) && (y.ok && (decide (y.number = 0) && decide (y.value = s.value))))))))
def hY (l : List fL) (a : Op) (x : Result) (b : Op) (y : Result) : Bool := match gG a x.case_, gG b y.case_ with
 | some s, some r => qc l s r x y
 | _, _ => false
theorem BB (l : List fL) (a : Op) (x : Result) (b : Op) (y : Result) : od l a x b y = some (hY l a x b y) := by
 have e1 : (x = Result.mk 1 x.case_ 0 false 0) = (x.kind = 1 ∧ gJ x false false = true) := by
  obtain ⟨p, q, c, d, e⟩ := x
  simp [gJ]
  intros; rw [and_assoc]
 have e2 : ∀ v, (y = Result.mk 2 y.case_ v true 0) = (y.kind = 2 ∧ y.value = v ∧ y.ok = true ∧ y.number = 0) := fun v => by
  obtain ⟨p, q, c, d, e⟩ := y
  simp
 unfold od pg hY
 rw [xU, xU]
 simp only [i6, nC, e1, e2]
 cases hs : gG a x.case_ with
 | none => simp
 | some s =>
  rw [kx hs]
  cases hr : gG b y.case_ with
  | none => simp
  | some r =>
   rw [kx hr]
   unfold qc qb
   cases h1 : s.send
   ·simp [h1]
   cases h2 : r.send
   rotate_left
   ·simp [h1, h2]
   by_cases h3 : s.channel = r.channel
   rotate_left
   ·simp [h1, h2, h3]
   cases hg : getI l s.channel with
   | none => rw [← h3]; simp [h1, h2, hg]
   | some c =>
    have hf : iG l s.channel = c := by unfold iG; rw [hg]; rfl
    rw [← h3]
    cases hcd : c.closed <;> by_cases hcap : c.capacity ≤ 0 <;> by_cases hk : x.kind = 1 <;> cases hon : gJ x false false <;> by_cases hk2 : y.kind = 2 <;> by_cases hv : y.value = s.value <;> cases hok : y.ok <;> by_cases hn : y.number = 0 <;>
     simp [h1, h2, hg, hf, hcd, hcap, hk, hon, hk2, hv, hok, hn, gU] <;> exact h3
theorem Bv (l : List fL) (a : Op) (x : Result) (b : Op) (y : Result) : o7 l a x b y = some (hY l a x b y) := by
 unfold o7
 have hno : (hY l a x b y = true → x.kind = 1 ∧ y.kind = 2 ∧ gJ x false false = true ∧ y.ok = true ∧ y.number = 0) := fun h => by
  unfold hY at h
  split at h
  ·unfold qc at h
   simp only [Bool.and_eq_true, decide_eq_true_eq] at h
   exact ⟨h.2.2.2.2.1.1, h.2.2.2.2.2.1, h.2.2.2.2.1.2, h.2.2.2.2.2.2.1, h.2.2.2.2.2.2.2.1⟩
  ·cases h
 have hbad : ¬ (x.kind = 1 ∧ y.kind = 2 ∧ gJ x false false = true ∧ y.ok = true ∧ y.number = 0) → nf l y b x a true = some (hY l a x b y) := fun h => by
  have : hY l a x b y = false := by
   cases hp : hY l a x b y with
   | false => rfl
   | true => exact absurd (hno hp) h
  rw [this]; rfl
 simp only [kj, Option.bind_some]
 by_cases hk : x.kind = 1
 rotate_left
 ·rw [if_neg hk]; exact hbad fun h => hk h.1
 rw [if_pos hk]
 by_cases hk2 : y.kind = 2
 rotate_left
 ·rw [if_neg hk2]; exact hbad fun h => hk2 h.2.1
 rw [if_pos hk2]
 by_cases hon : gJ x false false = true
 rotate_left
 ·rw [if_neg hon]; exact hbad fun h => hon h.2.2.1
 rw [if_pos hon]
 by_cases hn : y.number = 0
 rotate_left
 ·rw [if_neg (by simp [gJ, hn])]; exact hbad fun h => hn h.2.2.2.2
 rw [if_pos (by simp [gJ, hn])]
 cases hok : y.ok
 ·exact hbad fun h => by rw [hok] at h; simp at h
 unfold nf nb o6
 simp only [Bool.not_true, Bool.false_eq_true, if_false]
 obtain ⟨s, hs, hse⟩ := pn a x
 obtain ⟨r, hr, hre⟩ := pn b y
 rw [hs, hr]
 simp only [i6, jR, Option.bind_some]
 unfold hY
 cases hcs : gG a x.case_ with
 | none => simp
 | some s' =>
  obtain rfl := hse s' hcs
  cases hcr : gG b y.case_ with
  | none => simp
  | some r' =>
   obtain rfl := hre r' hcr
   unfold qc qb
   cases h1 : s.send
   ·simp [h1]
   cases h2 : r.send
   rotate_left
   ·simp [h1, h2]
   by_cases h3 : s.channel = r.channel
   rotate_left
   ·simp [h1, h2, h3]
   rw [← h3]
   cases hg : getI l s.channel with
   | none => simp [h1, h2, hg]
   | some c =>
    cases hcd : c.closed <;> by_cases hcap : c.capacity ≤ 0 <;> by_cases hv : y.value = s.value <;> simp [h1, h2, hg, hcd, hcap, hk, hon, hk2, hv, hok, hn, gU] <;> exact h3
theorem Fz (l : List fL) (a : Op) (x : Result) (b : Op) (y : Result) : rf l a x b y = some (hY l a x b y || hY l b y a x) := by
 unfold rf
 rw [BB, BB]
 simp only [Option.bind_some]
 cases hY l a x b y <;> simp
theorem qd (l : List fL) (a : Op) (x : Result) (b : Op) (y : Result) : tm l a x b y = some (hY l a x b y || hY l b y a x) := by
 unfold tm
 rw [Bv, Bv]
 simp only [Option.bind_some]
 cases hY l a x b y <;> simp
end Go.Hx
namespace Go.Hx
open Go
def okR (l : List fL) (op : Op) (r : Result) : Bool := (gx l op r).2
def numOf (op : Op) (i : Int) : Int := if op.kind = 4 then i else -1
def mG (l : List fL) (x : Case) : Int := ((iG l x.channel).buffer[0]?).getD 0
def rP (n : Int) : Result := Result.mk 5 n 0 false 0
def rS (n : Int) : Result := Result.mk 1 n 0 false 0
def rV (n v : Int) : Result := Result.mk 2 n v true 0
def rN (n : Int) : Result := Result.mk 2 n 0 false 0
def mE (l : List fL) (x : Case) (n : Int) : List Result := [rP n, rS n] ++ (if 0 < (iG l x.channel).buffer.length then [rV n (mG l x)] else []) ++ [rN n]
def jn (l : List fL) (x : Case) (n : Int) : List Result := if x.send = true then [rP n, rS n] else (if 0 < (iG l x.channel).buffer.length then [rV n (mG l x)] else []) ++ [rN n]
def ik (f : Case → Int → List Result) (op : Op) : List Case → Int → List Result
 | [], _ => []
 | x :: r, i => f x (numOf op i) ++ ik f op r (i + 1)
def jO (l : List fL) (op : Op) : List Result := if op.kind = 3 then [Result.mk 6 (-1) 0 false 0, rP (-1)].filter (okR l op) else (ik (jn l) op (casesS op) 0).filter (okR l op)
theorem FZ {l : List fL} {op : Op} {x : Case} {n : Int} (h3 : op.kind ≠ 3) (hc : gG op n = some x) :
  (x.send = true → okR l op (rN n) = false ∧ ∀ v, okR l op (rV n v) = false) ∧ (x.send = false → okR l op (rP n) = false ∧ okR l op (rS n) = false) := by
 have e : ∀ r : Result, (r.kind = 1 ∨ r.kind = 2 ∨ r.kind = 5) → r.case_ = n → okR l op r = (jH l x r).2 := fun r hk hr => by
  unfold okR
  rw [kn (by omega), hr, hc]
 refine ⟨fun hs => ⟨?_, fun v => ?_⟩, fun hs => ⟨?_, ?_⟩⟩
 ·rw [e _ (.inr (.inl rfl)) rfl]; unfold jH
  cases getI l x.channel <;> simp [hs, rN]
 ·rw [e _ (.inr (.inl rfl)) rfl]; unfold jH
  cases getI l x.channel <;> simp [hs, rV]
 ·rw [e _ (.inr (.inr rfl)) rfl]; unfold jH
  cases getI l x.channel <;> simp [hs, rP]
 ·rw [e _ (.inl rfl) rfl]; unfold jH
  cases getI l x.channel <;> simp [hs, rS]
theorem Cf {l : List fL} {op : Op} {x : Case} {n : Int} (h3 : op.kind ≠ 3) (hc : gG op n = some x) : (mE l x n).filter (okR l op) = (jn l x n).filter (okR l op) := by
 obtain ⟨h1, h2⟩ := FZ (l := l) h3 hc
 unfold mE jn
 cases hs : x.send
 ·obtain ⟨a, b⟩ := h2 hs
  simp only [Bool.false_eq_true, if_false]
  rw [List.append_assoc, List.filter_append]
  simp [List.filter_cons, a, b]
 ·obtain ⟨a, b⟩ := h1 hs
  simp only [if_true]
  rw [List.filter_append, List.filter_append]
  split <;> simp [List.filter_cons, a, b]
theorem pm {op : Op} (h3 : op.kind ≠ 3) {i : Nat} {x : Case} (h : (casesS op)[i]? = some x) : gG op (numOf op i) = some x := by
 unfold casesS at h
 unfold numOf gG
 by_cases h4 : op.kind = 4
 ·rw [if_pos h4] at h
  rw [if_pos h4, mh h4, if_pos h4, iq]; simpa using h
 ·rw [if_neg h4] at h
  rw [if_neg h4]
  split at h
  ·rename_i hs
   rw [if_pos hs, if_pos rfl]
   cases i with
   | zero => simpa using h
   | succ i => simp at h
  ·simp at h
theorem nu {l : List fL} {op : Op} (h3 : op.kind ≠ 3) : ∀ (cs : List Case) (i : Nat), (∀ (j : Nat) x, cs[j]? = some x → gG op (numOf op ((i + j : Nat) : Int)) = some x) → (ik (mE l) op cs i).filter (okR l op) = (ik (jn l) op cs i).filter (okR l op)
 | [], i, _ => rfl
 | x :: cs, i, h => by
  unfold ik
  have e0 := Cf (l := l) h3 (h 0 x rfl)
  have e1 := nu (l := l) h3 cs (i + 1) fun j y hy => by
   have := h (j + 1) y (by simpa using hy)
   rwa [show i + (j + 1) = i + 1 + j by omega] at this
  rw [Nat.add_zero] at e0
  rw [show ((i : Int) + 1) = ((i + 1 : Nat) : Int) by omega]
  rw [List.filter_append, List.filter_append, e0, e1]
theorem mS {l : List fL} {op : Op} {r : Result} {out : List Result} (hl : ix l) (ho : OpM op) (hout : out.length ≤ 100000) : mq r l op out = some (out ++ [r].filter (okR l op)) := by
 unfold mq
 rw [lU hl ho]
 simp only [bd2]
 simp only [Option.bind_some]
 cases h : (gx l op r).2 with
 | true => simp [okR, h, gm (show out.length + [r].length ≤ 4294967296 by simp; omega)]
 | false => simp [okR, h]
theorem me {α : Type} (p : α → Bool) (l : List α) : (l.filter p).length ≤ l.length := List.length_filter_le _ _
theorem lV {l : List fL} {op : Op} (hl : ix l) (ho : OpM op) : nZ l op = some (jO l op) := by
 unfold nZ jO
 by_cases h3 : op.kind = 3
 ·rw [if_pos h3, if_pos h3, mS hl ho (by simp)]
  simp only [Option.bind_some]
  have := me (okR l op) [Result.mk 6 (-1) 0 false 0]
  rw [mS hl ho (by simp at this ⊢; omega)]
  simp only [Option.bind_some, List.nil_append]
  rw [← List.filter_append]; rfl
 ·rw [if_neg h3, if_neg h3, xx, ho.casesS]
  simp only [Option.bind_some]
  have e0 := nu (l := l) h3 (casesS op) 0 fun j x hx => by rw [Nat.zero_add]; exact pm h3 hx
  rw [show ((0 : Nat) : Int) = 0 from rfl] at e0
  rw [← e0]
  have hcl := ho.casesLen
  generalize hcs : casesS op = cs at *
  have key : ∀ n i out, (0 ≤ i ∧ i ≤ (cs.length : Int) ∧ (out.length : Int) ≤ 4 * i) → ((cs.length : Int) - i).toNat < n → Ok (lp2 (ra cs op l) n i out) (fun r => r = out ++ (ik (mE l) op (cs.drop i.toNat) i).filter (okR l op)) := by
   refine io (fun i _ => ((cs.length : Int) - i).toNat) (fun i out => 0 ≤ i ∧ i ≤ (cs.length : Int) ∧ (out.length : Int) ≤ 4 * i) (fun i out r => r = out ++ (ik (mE l) op (cs.drop i.toNat) i).filter (okR l op)) ?_
   intro i out k ⟨h0, h1, hout⟩ hk
   unfold ra
   refine Ok.ite (fun h => ?_) fun h => ?_
   ·have hg := fK h0 h
    rw [hg]
    simp only [Option.bind_some]
    rw [ig hg]
    generalize cs[i.toNat]'(by omega) = x at *
    have hJ : Ok (nY cs i x out op l k (numOf op i)) (fun r => r = out ++ (ik (mE l) op (x :: cs.drop (i + 1).toNat) i).filter (okR l op)) := by
     unfold nY q9
     have l1 : ∀ (a : List Result) (r : Result), (a ++ [r].filter (okR l op)).length ≤ a.length + 1 := fun a r => by
      have := me (okR l op) [r]; simp at this ⊢; omega
     have e1 := l1 out (rP (numOf op i))
     have e2 := l1 (out ++ [rP (numOf op i)].filter (okR l op)) (rS (numOf op i))
     rw [show Result.mk 5 (numOf op i) 0 false 0 = rP (numOf op i) from rfl, show Result.mk 1 (numOf op i) 0 false 0 = rS (numOf op i) from rfl, show Result.mk 2 (numOf op i) 0 false 0 = rN (numOf op i) from rfl]
     rw [mS hl ho (by omega)]
     simp only [Option.bind_some]
     rw [mS hl ho (by omega)]
     simp only [Option.bind_some, nC, i6]
     rw [gl (x := i + 1) (by omega) (by omega)]
     have fin : ∀ out', out'.length ≤ out.length + 4 → out' = out ++ (mE l x (numOf op i)).filter (okR l op) → Ok (k (i + 1) out') (fun r => r = out ++ (ik (mE l) op (x :: cs.drop (i + 1).toNat) i).filter (okR l op)) := fun out' hlen he => by
      refine (hk (i + 1) out' ⟨by omega, by omega, by omega⟩ (by omega)).mono fun r hr => ?_
      rw [hr, he]
      simp only [ik, List.filter_append, List.append_assoc]
     refine Ok.ite (fun hb => ?_) fun hb => ?_
     ·have hb' : 0 < (iG l x.channel).buffer.length := by omega
      rw [fK (by omega) (by omega)]
      simp only [Option.bind_some]
      have hv : (iG l x.channel).buffer[(0 : Int).toNat]'(by simpa using hb') = mG l x := by
       unfold mG; rw [List.getElem?_eq_getElem hb']; rfl
      rw [hv, show Result.mk 2 (numOf op i) (mG l x) true 0 = rV (numOf op i) (mG l x) from rfl]
      have e3 := l1 (out ++ [rP (numOf op i)].filter (okR l op) ++ [rS (numOf op i)].filter (okR l op)) (rV (numOf op i) (mG l x))
      rw [mS hl ho (by omega)]
      simp only [Option.bind_some]
      have e4 := l1 (out ++ [rP (numOf op i)].filter (okR l op) ++ [rS (numOf op i)].filter (okR l op) ++ [rV (numOf op i) (mG l x)].filter (okR l op)) (rN (numOf op i))
      rw [mS hl ho (by omega)]
      simp only [Option.bind_some]
      refine fin _ (by omega) ?_
      simp only [mE, if_pos hb', List.append_assoc, ← List.filter_append]
      rfl
     ·have hb' : ¬ 0 < (iG l x.channel).buffer.length := by omega
      have e4 := l1 (out ++ [rP (numOf op i)].filter (okR l op) ++ [rS (numOf op i)].filter (okR l op)) (rN (numOf op i))
      rw [mS hl ho (by omega)]
      simp only [Option.bind_some]
      refine fin _ (by omega) ?_
      simp only [mE, if_neg hb', List.append_assoc, ← List.filter_append]
      rfl
    unfold numOf at hJ
    refine Ok.ite (fun h4 => ?_) fun h4 => ?_
    ·rw [if_pos h4] at hJ; exact hJ
    ·rw [if_neg h4] at hJ; exact hJ
   ·unfold vC
    refine Ok.some ?_
    rw [List.drop_eq_nil_of_le (by omega)]; simp [ik]
  simpa using (key BIG 0 [] ⟨by omega, by omega, by simp⟩ (gn (by omega))).eq
theorem AI {l : List fL} {op : Op} (hl : ix l) (ho : OpM op) {all : List Result} (hall : all.length ≤ 100000) : sf l op all = some (all.filter (okR l op)) := by
 unfold sf
 have key : ∀ n out i, (0 ≤ i ∧ i ≤ (all.length : Int) ∧ (out.length : Int) ≤ i) → ((all.length : Int) - i).toNat < n → Ok (lp2 (se l all op) n out i) (fun r => r = out ++ (all.drop i.toNat).filter (okR l op)) := by
  refine io (fun _ i => ((all.length : Int) - i).toNat) (fun out i => 0 ≤ i ∧ i ≤ (all.length : Int) ∧ (out.length : Int) ≤ i) (fun out i r => r = out ++ (all.drop i.toNat).filter (okR l op)) ?_
  intro out i k ⟨h0, h1, hout⟩ hk
  unfold se
  refine Ok.ite (fun h => ?_) fun h => ?_
  ·have hg := fK h0 h
   rw [hg]
   simp only [Option.bind_some]
   rw [ig hg]
   generalize all[i.toNat]'(by omega) = x at *
   rw [nJ hl ho]
   simp only [bd2]
   simp only [Option.bind_some]
   rw [gl (by omega) (by omega), gm (by simp; omega)]
   simp only [Option.bind_some]
   refine Ok.ite (fun hr => ?_) fun hr => ?_
   ·refine (hk _ _ ⟨by omega, by omega, by simp; omega⟩ (by omega)).mono fun r he => ?_
    rw [he, List.filter_cons, if_pos (show okR l op x = true from hr)]; simp
   ·refine (hk _ _ ⟨by omega, by omega, by omega⟩ (by omega)).mono fun r he => ?_
    rw [he, List.filter_cons, if_neg (show ¬ okR l op x = true from hr)]
  ·unfold wM
   refine Ok.some ?_
   rw [List.drop_eq_nil_of_le (by omega)]; simp
 simpa using (key BIG [] 0 ⟨by omega, by omega, by simp⟩ (gn (by omega))).eq
theorem EV {l : List fL} {op : Op} (hl : ix l) (ho : OpM op) {base : List Result} (hb : base.length ≤ 10) : o4 l op base = some ((base ++ ik (jn l) op (casesS op) 0).filter (okR l op)) := by
 unfold o4
 rw [ju]
 simp only [Option.bind_some]
 have hcl := ho.casesLen
 generalize hcs : casesS op = cs at *
 have key : ∀ n out i, (0 ≤ i ∧ i ≤ (cs.length : Int) ∧ (out.length : Int) ≤ 10 + 2 * i) → ((cs.length : Int) - i).toNat < n → Ok (lp2 (sg l cs op) n out i) (fun r => r = (out ++ ik (jn l) op (cs.drop i.toNat) i).filter (okR l op)) := by
  refine io (fun _ i => ((cs.length : Int) - i).toNat) (fun out i => 0 ≤ i ∧ i ≤ (cs.length : Int) ∧ (out.length : Int) ≤ 10 + 2 * i) (fun out i r => r = (out ++ ik (jn l) op (cs.drop i.toNat) i).filter (okR l op)) ?_
  intro out i k ⟨h0, h1, hout⟩ hk
  unfold sg
  refine Ok.ite (fun h => ?_) fun h => ?_
  ·have hg := fK h0 h
   rw [ig hg]
   generalize cs[i.toNat]'(by omega) = x at *
   have hJ : Ok (o0 l out cs i op k (numOf op i)) (fun r => r = (out ++ ik (jn l) op (x :: cs.drop (i + 1).toNat) i).filter (okR l op)) := by
    unfold o0
    rw [hg, gl (x := i + 1) (by omega) (by omega)]
    simp only [Option.bind_some]
    have fin : ∀ out', out'.length ≤ out.length + 2 → out' = out ++ jn l x (numOf op i) → Ok (k out' (i + 1)) (fun r => r = (out ++ ik (jn l) op (x :: cs.drop (i + 1).toNat) i).filter (okR l op)) := fun out' hlen he => by
     refine (hk out' (i + 1) ⟨by omega, by omega, by omega⟩ (by omega)).mono fun r hr => ?_
     rw [hr, he]
     simp only [ik, List.append_assoc]
    refine Ok.ite (fun hs => ?_) fun hs => ?_
    ·rw [gm (by simp; omega)]
     simp only [Option.bind_some]
     refine fin _ (by simp) ?_
     unfold jn; rw [if_pos hs]; rfl
    ·have hJ4 : ∀ out', out'.length ≤ out.length + 1 → (out' ++ [rN (numOf op i)] = out ++ jn l x (numOf op i)) → Ok (oZ l cs i (numOf op i) op k out') (fun r => r = (out ++ ik (jn l) op (x :: cs.drop (i + 1).toNat) i).filter (okR l op)) := fun out' hlen he => by
      unfold oZ
      rw [gm (by simp; omega), gl (x := i + 1) (by omega) (by omega)]
      simp only [Option.bind_some]
      exact fin _ (by simp; omega) he
     rw [jR]
     simp only [Option.bind_some]
     have hno : ¬ 0 < (iG l x.channel).buffer.length → Ok (tl l out cs i (numOf op i) op k false) (fun r => r = (out ++ ik (jn l) op (x :: cs.drop (i + 1).toNat) i).filter (okR l op)) := fun hb' => by
      unfold tl
      rw [if_neg (by decide)]
      refine hJ4 _ (by omega) ?_
      unfold jn; rw [if_neg hs, if_neg hb']; rfl
     cases hgc : getI l x.channel with
     | none =>
      simp only [Option.isSome_none, Bool.false_eq_true, if_false]
      exact hno (by unfold iG; rw [hgc]; simp)
     | some c =>
      have hf : iG l x.channel = c := by unfold iG; rw [hgc]; rfl
      simp only [Option.isSome_some, if_true, Option.bind_some]
      by_cases hb' : 0 < c.buffer.length
      ·rw [show dcd ((c.buffer.length : Int) > 0) = true from ip.2 (by omega)]
       unfold tl
       rw [if_pos rfl, hg]
       simp only [Option.bind_some]
       rw [hgc]
       simp only [Option.bind_some]
       rw [fK (by omega) (by omega)]
       simp only [Option.bind_some]
       rw [gm (by simp; omega)]
       simp only [Option.bind_some]
       have hv : c.buffer[(0 : Int).toNat]'(by simpa using hb') = mG l x := by
        unfold mG; rw [hf, List.getElem?_eq_getElem hb']; rfl
       refine hJ4 _ (by simp) ?_
       rw [hv]
       unfold jn; rw [if_neg hs, hf, if_pos hb', List.append_assoc]; rfl
      ·rw [show dcd ((c.buffer.length : Int) > 0) = false from j9.2 (by omega)]
       exact hno (by rw [hf]; exact hb')
   unfold numOf at hJ
   refine Ok.ite (fun h4 => ?_) fun h4 => ?_
   ·rw [if_pos h4] at hJ; exact hJ
   ·rw [if_neg h4] at hJ; exact hJ
  ·refine Ok.of (AI hl ho (by omega)) ?_
   rw [List.drop_eq_nil_of_le (by omega)]; simp [ik]
 simpa using (key BIG base 0 ⟨by omega, by omega, by omega⟩ (gn (by omega))).eq
theorem nK {l : List fL} {op : Op} (hl : ix l) (ho : OpM op) : o5 l op = some (jO l op) := by
 unfold o5 jO
 by_cases h3 : op.kind = 3
 ·rw [if_pos h3, if_pos h3, EV hl ho (by simp)]
  have : casesS op = [] := by unfold casesS jA; simp [h3]
  rw [this]; rfl
 ·rw [if_neg h3, if_neg h3, EV hl ho (by simp)]; rfl
theorem Ew (l : List fL) (x : Case) (n : Int) : (jn l x n).length ≤ 2 := by
 unfold jn; split
 ·simp
 ·split <;> simp
theorem tM (l : List fL) (op : Op) : ∀ (cs : List Case) (i : Int), (ik (jn l) op cs i).length ≤ 2 * cs.length
 | [], i => by simp [ik]
 | x :: cs, i => by
  have h1 := Ew l x (numOf op i)
  have h2 := tM l op cs (i + 1)
  simp only [ik, List.length_append, List.length_cons]; omega
theorem Cm {l : List fL} {op : Op} (ho : OpM op) : (jO l op).length ≤ 2002 := by
 unfold jO
 have := ho.casesLen
 split
 ·have := me (okR l op) [Result.mk 6 (-1) 0 false 0, rP (-1)]; simp at this ⊢; omega
 ·have h1 := me (okR l op) (ik (jn l) op (casesS op) 0)
  have h2 := tM l op (casesS op) 0
  omega
theorem mK (a b : List UInt8) : iH (a ++ b) = iH a ++ iH b := by unfold iH; rw [List.map_append]
theorem lm (a : List UInt8) : (iH a).length = a.length := by unfold iH; rw [List.length_map]
theorem AQ (a : List UInt8) : zA (iH a) = some ⟨a.toArray⟩ := by
  unfold zA
  have h : (iH a).all (fun x => decide (0 ≤ x) && decide (x < 256)) = true := by
    rw [List.all_eq_true]
    intro x hx
    unfold iH at hx
    obtain ⟨b, _, rfl⟩ := List.mem_map.1 hx
    have := b.toNat_lt
    simp; omega
  rw [if_pos h]
  unfold AP iH
  rw [List.map_map]
  have e : ((fun x : Int => UInt8.ofNat x.toNat) ∘ fun b : UInt8 => (b.toNat : Int)) = id := by
    funext b
    simp
  rw [e, List.map_id]
theorem Bn : ∀ (k : Nat) (u : Nat), u < 10 ^ (k + 1) → (Lib.decDigits u).length ≤ k + 1
  | 0, u, h => by rw [ny, if_pos (by simpa using h)]; simp
  | k + 1, u, h => by
    rw [ny]
    split
    · simp
    · rw [List.length_append, List.length_singleton]
      have := Bn k (u / 10) (by rw [Nat.div_lt_iff_lt_mul (by omega)]; rw [Nat.pow_succ] at h; exact h)
      omega
theorem po {u : Nat} (h : u < 18446744073709551616) : (Lib.decDigits u).length ≤ 20 := Bn 19 u (Nat.lt_trans h (by decide))
theorem xR {n : Int} (h : 0 ≤ n) : Lib.itoa n = Lib.decDigits n.toNat := by
  unfold Lib.itoa; rw [if_neg (by omega)]
theorem uj : ∀ (a : List Int) (n : Int), jY (a ++ [n]) = jY a ++ (Lib.itoa n ++ [32])
  | [], n => rfl
  | x :: a, n => by
    simp only [List.cons_append, jY, uj a n, List.append_assoc]
theorem qh : ∀ (a : List Int) (v : Int), js (a ++ [v]) = js a ++ 32 :: Lib.decDigits v.toNat
  | [], v => by simp [js]
  | x :: a, v => by
    simp only [List.cons_append, js, qh a v, List.append_assoc]
theorem pY : ∀ (a : List (Bool × List Int)) (c : Bool × List Int), jp (a ++ [c]) = jp a ++ 47 :: (boolT c.1 ++ js c.2)
  | [], c => by simp [jp]
  | x :: a, c => by
    simp only [List.cons_append, jp, pY a c, List.append_assoc]
def chT (C : List fL) : List (Bool × List Int) := C.map fun c => (c.closed, c.buffer)
def y5 (p : List Int) (C : List fL) : List UInt8 := jY p ++ jp (chT C)
def jX (p : List Int) (C : List fL) : ByteArray := ⟨(y5 p C).toArray⟩
def W64 (v : Int) : Prop := 0 ≤ v ∧ v < 18446744073709551616
structure ChW (caps : List Int) (C : List fL) : Prop where
  ok : ix C
  caps : C.map (·.capacity) = caps
  val : ∀ c ∈ C, ∀ v ∈ c.buffer, W64 v
theorem xO : ∀ {C D : List fL}, C.map (·.capacity) = D.map (·.capacity) → chT C = chT D → C = D
  | [], [], _, _ => rfl
  | [], _ :: _, h, _ => by simp at h
  | _ :: _, [], h, _ => by simp at h
  | c :: C, d :: D, h, h2 => by
    simp only [chT, List.map_cons, List.cons.injEq, Prod.mk.injEq] at h2 h
    obtain ⟨⟨a1, a2⟩, a3⟩ := h2
    obtain ⟨b1, b2⟩ := h
    rw [xO b2 a3]
    congr 1
    obtain ⟨x, y, z⟩ := c; obtain ⟨x', y', z'⟩ := d
    simp only at a1 a2 b1
    rw [a1, a2, b1]
theorem CC {p q : List Int} {C D : List fL} {caps : List Int} (hp : p.length = q.length) (hC : ChW caps C) (hD : ChW caps D) (h : jX p C = jX q D) : p = q ∧ C = D := by
  unfold jX at h
  have h : y5 p C = y5 q D := by
    have := congrArg (fun b : ByteArray => b.data.toList) h
    simpa using this
  unfold y5 at h
  have hcap : C.map (·.capacity) = D.map (·.capacity) := by rw [hC.caps, hD.caps]
  have hl : C.length = D.length := by simpa using congrArg List.length hcap
  obtain ⟨e1, e2⟩ := CE hp (by simp [chT, hl]) (fun c hc v hv => by
    obtain ⟨d, hd, rfl⟩ := List.mem_map.1 hc
    exact (hC.val d hd v hv).1) (fun c hc v hv => by
    obtain ⟨d, hd, rfl⟩ := List.mem_map.1 hc
    exact (hD.val d hd v hv).1) h
  exact ⟨e1, xO hcap e2⟩
theorem yD (b : Bool) : (boolT b).length ≤ 5 := by cases b <;> decide
theorem mT : ∀ (l : List Int), (∀ v ∈ l, W64 v) → (js l).length ≤ 21 * l.length
  | [], _ => by simp [js]
  | v :: l, h => by
    have h1 := mT l fun v hv => h v (.tail _ hv)
    have h2 := po (u := v.toNat) (by have := h v (.head _); unfold W64 at this; omega)
    simp only [js, List.length_cons, List.length_append]; omega
theorem pu : ∀ (l : List Int), (∀ v ∈ l, W64 v) → (jY l).length ≤ 21 * l.length
  | [], _ => by simp [jY]
  | v :: l, h => by
    have h1 := pu l fun v hv => h v (.tail _ hv)
    have h0 := h v (.head _)
    have h2 := po (u := v.toNat) (by unfold W64 at h0; omega)
    unfold W64 at h0
    simp only [jY, List.length_cons, List.length_append, xR h0.1]; omega
theorem tU : ∀ (l : List (Bool × List Int)), (∀ c ∈ l, c.2.length ≤ 1000 ∧ ∀ v ∈ c.2, W64 v) → (jp l).length ≤ 21006 * l.length
  | [], _ => by simp [jp]
  | c :: l, h => by
    have h1 := tU l fun v hv => h v (.tail _ hv)
    obtain ⟨h2, h3⟩ := h c (.head _)
    have h4 := mT c.2 h3
    have h5 := yD c.1
    simp only [jp, List.length_cons, List.length_append]; omega
theorem B9 {l : List Int} {n : Int} (h0 : 0 ≤ n) (h1 : n < 1000000000) (hl : l.length ≤ 1000000) : qQ l n 10 = some (l ++ iH (Lib.itoa n)) := by
  unfold qQ vq
  rw [if_neg (by omega)]
  unfold qP zL kR
  rw [zE h0 (by omega), if_pos ⟨h0, by omega, rfl, hl⟩, xR h0]; rfl
theorem Av {l : List Int} {n : Int} (h : W64 n) (hl : l.length ≤ 1000000) : qS l n 10 = some (l ++ iH (Lib.decDigits n.toNat)) := by
  unfold qS zN kR
  rw [if_pos ⟨h.1, h.2, rfl, hl⟩]; rfl
theorem Au {l : List Int} {b : Bool} (hl : l.length ≤ 1000000) : qR l b = some (l ++ iH (boolT b)) := by
  unfold qR zM nk
  rw [if_pos hl]
  cases b <;> rfl
theorem ug {l : List Int} {n : Nat} (h : ∀ v ∈ l, W64 v) : ∀ v ∈ l.take n, W64 v := fun v hv => h v (List.mem_of_mem_take hv)
theorem y6 {p : List Int} {C : List fL} {caps : List Int} (hp : p.length ≤ 1000) (hp1 : ∀ n ∈ p, 0 ≤ n ∧ n ≤ 1000000) (hC : ChW caps C) (hc : caps.length ≤ 10) : nV p C = some (jX p C) := by
  have hlC : C.length ≤ 10 := by rw [← hC.caps, List.length_map] at hc; exact hc
  have hpW : ∀ v ∈ p, W64 v := fun v hv => ⟨(hp1 v hv).1, by have := (hp1 v hv).2; omega⟩
  have hcW : ∀ n : Nat, ∀ c ∈ (chT C).take n, c.2.length ≤ 1000 ∧ ∀ v ∈ c.2, W64 v := fun n c hc' => by
    have := List.mem_of_mem_take hc'
    unfold chT at this
    obtain ⟨d, hd, rfl⟩ := List.mem_map.1 this
    exact ⟨hC.ok.buf d hd, hC.val d hd⟩
  refine Ok.eq ?_
  unfold nV
  have hlp := pu p hpW
  have hJ1 : Ok (qT C (iH (jY p))) fun r => r = jX p C := by
    unfold qT
    refine io (fun _ i => ((C.length : Int) - i).toNat) (fun l i => 0 ≤ i ∧ i ≤ (C.length : Int) ∧ l = iH (jY p ++ jp ((chT C).take i.toNat))) (fun _ _ r => r = jX p C) ?_ BIG _ 0 ⟨by omega, by omega, by simp [jp]⟩ (gn (by omega))
    intro l i k ⟨g0, g1, g2⟩ hk
    unfold vv
    have hlen := tU _ (hcW i.toNat)
    rw [List.length_take] at hlen
    have hll : l.length ≤ 300000 := by
      rw [g2, lm, List.length_append]
      have : min i.toNat (chT C).length ≤ 10 := by simp [chT]; omega
      have : 21006 * min i.toNat (chT C).length ≤ 210060 := by omega
      omega
    refine Ok.ite (fun hi => ?_) fun hi => ?_
    · obtain ⟨c, hc'⟩ : ∃ c, getI C i = some c := ⟨_, fK g0 hi⟩
      have hcm := fX hc'
      have hb := hC.ok.buf c hcm
      have hv := hC.val c hcm
      have htk : (chT C).take (i + 1).toNat = (chT C).take i.toNat ++ [(c.closed, c.buffer)] := by
        unfold chT
        rw [← List.map_take, ← List.map_take, ii hc', List.map_append]; rfl
      refine Ok.bindEq hc' ?_
      refine Ok.bindEq (gm (by simp; omega)) ?_
      refine Ok.bindEq (Au (by simp; omega)) ?_
      refine io (fun _ j => ((c.buffer.length : Int) - j).toNat) (fun l' j => 0 ≤ j ∧ j ≤ (c.buffer.length : Int) ∧ l' = l ++ [47] ++ iH (boolT c.closed ++ js (c.buffer.take j.toNat))) (fun _ _ r => r = jX p C) ?_ BIG _ 0 ⟨by omega, by omega, by simp [js]⟩ (gn (by omega))
      intro l' j k' ⟨j0, j1, j2⟩ hk'
      unfold vu
      have hw := mT (c.buffer.take j.toNat) (ug hv)
      rw [List.length_take] at hw
      have hbl := yD c.closed
      have hll' : l'.length ≤ 400000 := by
        rw [j2]; simp only [List.length_append, lm, List.length_singleton]
        have : min j.toNat c.buffer.length ≤ 1000 := by omega
        omega
      refine Ok.ite (fun hj => ?_) fun hj => ?_
      · obtain ⟨v, hv'⟩ : ∃ v, getI c.buffer j = some v := ⟨_, fK j0 hj⟩
        refine Ok.bindEq hv' ?_
        refine Ok.bindEq (gm (by simp; omega)) ?_
        refine Ok.bindEq (Av (hv v (fX hv')) (by simp; omega)) ?_
        rw [gl (by omega) (by omega)]
        refine hk' _ _ ⟨by omega, by omega, ?_⟩ (by omega)
        rw [ii hv', qh, j2]
        simp only [mK, List.append_assoc]
        rfl
      · unfold vt
        rw [gl (by omega) (by omega)]
        refine hk _ _ ⟨by omega, by omega, ?_⟩ (by omega)
        have e47 : ∀ z : List UInt8, iH (47 :: z) = [47] ++ iH z := fun z => rfl
        rw [htk, pY, j2, g2, List.take_of_length_le (by omega : c.buffer.length ≤ j.toNat)]
        simp only [mK, e47, List.append_assoc]
    · unfold vr
      refine Ok.bindEq (by rw [g2]; exact AQ _) ?_
      refine Ok.some ?_
      unfold jX y5
      rw [List.take_of_length_le (by simp [chT]; omega)]
  refine io (fun _ i => ((p.length : Int) - i).toNat) (fun l i => 0 ≤ i ∧ i ≤ (p.length : Int) ∧ l = iH (jY (p.take i.toNat))) (fun _ _ r => r = jX p C) ?_ BIG _ 0 ⟨by omega, by omega, by simp [jY, iH]⟩ (gn (by omega))
  intro l i k ⟨g0, g1, g2⟩ hk
  unfold vw
  have hlen := pu (p.take i.toNat) (ug hpW)
  rw [List.length_take] at hlen
  have hll : l.length ≤ 21000 := by rw [g2, lm]; have : min i.toNat p.length ≤ 1000 := by omega
                                    omega
  refine Ok.ite (fun hi => ?_) fun hi => ?_
  · obtain ⟨n, hn⟩ : ∃ n, getI p i = some n := ⟨_, fK g0 hi⟩
    obtain ⟨n0, n1⟩ := hp1 n (fX hn)
    refine Ok.bindEq hn ?_
    refine Ok.bindEq (B9 n0 (by omega) (by omega)) ?_
    have := po (u := n.toNat) (by omega)
    refine Ok.bindEq (gm (by simp only [List.length_append, lm, xR n0, List.length_singleton]; omega)) ?_
    rw [gl (by omega) (by omega)]
    refine hk _ _ ⟨by omega, by omega, ?_⟩ (by omega)
    rw [ii hn, uj, g2]
    simp only [mK, List.append_assoc]
    rfl
  · rw [List.take_of_length_le (by omega)] at g2
    rw [g2]; exact hJ1
def jD (v : Int) : List Int := [v % 256, v / 256 % 256, v / 65536 % 256, v / 16777216 % 256, v / 4294967296 % 256, v / 1099511627776 % 256, v / 281474976710656 % 256, v / 72057594037927936 % 256]
theorem GW (x : Int) : wB x = x % 256 := by
 simp only [wB, IntKind.wrap, IntKind.bits, IntKind.signed]; simp
theorem kM (v : Int) {k : Nat} (hk : k ≤ 64) {c : Int} (hc : (2 : Int) ^ k = c) (h0 : 0 ≤ c) : uz .u64 v (k : Int) = v / c := by
 unfold uz
 have : min ((k : Int)).toNat (IntKind.u64.bits) = k := by
  show min ((k : Int)).toNat 64 = k
  omega
 rw [this, hc, Int.fdiv_eq_ediv_of_nonneg _ h0]
theorem byte_at {v i : Int} (h0 : 0 ≤ i) (h8 : i < 8) : ET (wU (wI (8 * i))) = some (8 * i) ∧ getI (jD v) i = some (wB (uz .u64 v (wU (wI (8 * i))))) := by
 rw [gl (by omega) (by omega), zE (by omega) (by omega), GW]
 refine ⟨by unfold ET; rw [if_pos (by omega)], ?_⟩
 have : i = 0 ∨ i = 1 ∨ i = 2 ∨ i = 3 ∨ i = 4 ∨ i = 5 ∨ i = 6 ∨ i = 7 := by omega
 rcases this with rfl | rfl | rfl | rfl | rfl | rfl | rfl | rfl
 ·rw [show (8 * 0 : Int) = ((0 : Nat) : Int) from rfl, kM v (by omega) (c := 1) (by decide) (by decide), Int.ediv_one]; rfl
 ·rw [show (8 * 1 : Int) = ((8 : Nat) : Int) from rfl, kM v (by omega) (c := 256) (by decide) (by decide)]; rfl
 ·rw [show (8 * 2 : Int) = ((16 : Nat) : Int) from rfl, kM v (by omega) (c := 65536) (by decide) (by decide)]; rfl
 ·rw [show (8 * 3 : Int) = ((24 : Nat) : Int) from rfl, kM v (by omega) (c := 16777216) (by decide) (by decide)]; rfl
 ·rw [show (8 * 4 : Int) = ((32 : Nat) : Int) from rfl, kM v (by omega) (c := 4294967296) (by decide) (by decide)]; rfl
 ·rw [show (8 * 5 : Int) = ((40 : Nat) : Int) from rfl, kM v (by omega) (c := 1099511627776) (by decide) (by decide)]; rfl
 ·rw [show (8 * 6 : Int) = ((48 : Nat) : Int) from rfl, kM v (by omega) (c := 281474976710656) (by decide) (by decide)]; rfl
 ·rw [show (8 * 7 : Int) = ((56 : Nat) : Int) from rfl, kM v (by omega) (c := 72057594037927936) (by decide) (by decide)]; rfl
theorem BU {l : List Int} {v : Int} (hl : l.length ≤ 1000000) : o9 l v = some (l ++ jD v) := by
 refine Ok.eq ?_
 unfold o9
 refine io (fun _ i => (8 - i).toNat) (fun q i => 0 ≤ i ∧ i ≤ 8 ∧ q = l ++ (jD v).take i.toNat) (fun _ _ r => r = l ++ jD v) ?_ BIG l 0 ⟨by omega, by omega, by simp⟩ (gn (by omega))
 intro q i k ⟨i0, i1, hq⟩ hk
 have hw : (jD v).length = 8 := rfl
 unfold wX
 refine Ok.ite (fun hi => ?_) fun hi => ?_
 ·obtain ⟨h1, h2⟩ := byte_at (v := v) i0 hi
  refine Ok.bindEq h1 ?_
  refine Ok.bindEq (gm (by rw [hq]; simp; omega)) ?_
  rw [gl (x := i + 1) (by omega) (by omega)]
  refine hk _ _ ⟨by omega, by omega, ?_⟩ (by omega)
  rw [ii h2, hq, List.append_assoc]
 ·unfold wW
  refine Ok.some ?_
  rw [hq, List.take_of_length_le (by omega)]
def W56 (v : Int) : Prop := 0 ≤ v ∧ v < 72057594037927936
theorem W56.w {v : Int} (h : W56 v) : W64 v := ⟨h.1, by have := h.2; omega⟩
theorem word_inj {v w : Int} (hv : W56 v) (hw : W56 w) (h : jD v = jD w) : v = w := by
 obtain ⟨v0, v1⟩ := hv
 obtain ⟨w0, w1⟩ := hw
 simp only [jD, List.cons.injEq] at h
 obtain ⟨a0, a1, a2, a3, a4, a5, a6, _⟩ := h
 omega
theorem zF (v : Int) : ∀ b ∈ jD v, 0 ≤ b ∧ b < 256 := by
 intro b hb
 simp only [jD, List.mem_cons, List.not_mem_nil, or_false] at hb
 rcases hb with rfl | rfl | rfl | rfl | rfl | rfl | rfl | rfl <;> omega
def iD : List Int → List Int
 | [] => []
 | v :: r => jD v ++ iD r
theorem qg : ∀ (l : List Int) (v : Int), iD (l ++ [v]) = iD l ++ jD v
 | [], v => by simp [iD]
 | x :: l, v => by simp only [List.cons_append, iD, qg l v, List.append_assoc]
theorem jF : ∀ l : List Int, (iD l).length = 8 * l.length
 | [] => rfl
 | v :: r => by
  have := jF r
  have h8 : (jD v).length = 8 := rfl
  simp only [iD, List.length_append, List.length_cons]; omega
theorem uC : ∀ (l : List Int), ∀ b ∈ iD l, 0 ≤ b ∧ b < 256
 | [], b, h => by cases h
 | v :: r, b, h => by
  rcases List.mem_append.1 h with h | h
  ·exact zF v b h
  ·exact uC r b h
theorem uB : ∀ {l m : List Int}, l.length = m.length → (∀ v ∈ l, W56 v) → (∀ v ∈ m, W56 v) → iD l = iD m → l = m
 | [], [], _, _, _, _ => rfl
 | [], _ :: _, h, _, _, _ => by simp at h
 | _ :: _, [], h, _, _, _ => by simp at h
 | v :: l, w :: m, h, h1, h2, e => by
  unfold iD at e
  obtain ⟨e1, e2⟩ := List.append_inj e rfl
  rw [word_inj (h1 v (.head _)) (h2 w (.head _)) e1, uB (by simpa using h) (fun x hx => h1 x (.tail _ hx)) (fun x hx => h2 x (.tail _ hx)) e2]
theorem qf : ∀ {l : List Int}, l ≠ [] → (∀ v ∈ l, W56 v) → ∃ p, iD l = p ++ [0]
 | [], h, _ => absurd rfl h
 | [v], _, h => by
  obtain ⟨v0, v1⟩ := h v (.head _)
  refine ⟨[v % 256, v / 256 % 256, v / 65536 % 256, v / 16777216 % 256, v / 4294967296 % 256, v / 1099511627776 % 256, v / 281474976710656 % 256], ?_⟩
  have : v / 72057594037927936 % 256 = 0 := by omega
  simp [iD, jD, this]
 | v :: w :: r, _, h => by
  obtain ⟨p, hp⟩ := qf (l := w :: r) (by simp) fun x hx => h x (.tail _ hx)
  refine ⟨jD v ++ p, ?_⟩
  show jD v ++ iD (w :: r) = _
  rw [hp, List.append_assoc]
def uT (c : Bool × List Int) : List Int := jD (c.2.length : Int) ++ ((if c.1 = true then [1] else []) ++ (iD c.2 ++ [2]))
def iI : List (Bool × List Int) → List Int
 | [] => []
 | c :: r => uT c ++ iI r
theorem pX : ∀ (l : List (Bool × List Int)) c, iI (l ++ [c]) = iI l ++ uT c
 | [], c => by simp [iI]
 | x :: l, c => by simp only [List.cons_append, iI, pX l c, List.append_assoc]
theorem uU {b b' : List Int} {r r' : List Int} (hl : b.length = b'.length) (h1 : ∀ v ∈ b, W56 v) (h : 1 :: (iD b ++ 2 :: r) = iD b' ++ 2 :: r') : False := by
 have hl' : (iD b').length = (iD b).length := by rw [jF, jF, hl]
 cases hb : b with
 | nil =>
  rw [hb] at hl h
  have : b' = [] := by simpa using hl.symm
  subst this
  simp [iD] at h
 | cons v t =>
  obtain ⟨p, hp⟩ := qf (l := b) (by rw [hb]; simp) h1
  rw [hp] at h hl'
  have e : 1 :: (p ++ [0] ++ 2 :: r) = (1 :: p) ++ 0 :: 2 :: r := by simp
  rw [e] at h
  obtain ⟨_, e2⟩ := List.append_inj h (by rw [hl']; simp)
  simp at e2
theorem tO : ∀ {l m : List (Bool × List Int)}, l.length = m.length → (∀ c ∈ l, c.2.length < 1000000 ∧ ∀ v ∈ c.2, W56 v) → (∀ c ∈ m, c.2.length < 1000000 ∧ ∀ v ∈ c.2, W56 v) → iI l = iI m → l = m
 | [], [], _, _, _, _ => rfl
 | [], _ :: _, h, _, _, _ => by simp at h
 | _ :: _, [], h, _, _, _ => by simp at h
 | (a, b) :: l, (a', b') :: m, h, h1, h2, e => by
  obtain ⟨g1, g2⟩ := h1 _ (.head _)
  obtain ⟨g3, g4⟩ := h2 _ (.head _)
  simp only at g1 g2 g3 g4
  unfold iI uT at e
  simp only [List.append_assoc] at e
  obtain ⟨e1, e2⟩ := List.append_inj e rfl
  have hl : b.length = b'.length := by
   have := word_inj (v := (b.length : Int)) (w := (b'.length : Int)) ⟨by omega, by omega⟩ ⟨by omega, by omega⟩ e1
   omega
  have hlw : (iD b).length = (iD b').length := by rw [jF, jF, hl]
  have hsame : iD b ++ ([2] ++ iI l) = iD b' ++ ([2] ++ iI m) → a = a' → (a, b) :: l = (a', b') :: m := fun e3 ea => by
   obtain ⟨e4, e5⟩ := List.append_inj e3 hlw
   have e5 : iI l = iI m := by simpa using e5
   rw [ea, uB hl g2 g4 e4, tO (by simpa using h) (fun c hc => h1 c (.tail _ hc)) (fun c hc => h2 c (.tail _ hc)) e5]
  cases a with
  | true =>
   cases a' with
   | true => exact hsame (by simpa using e2) rfl
   | false =>
    exfalso
    refine uU (b := b) (b' := b') (r := iI l) (r' := iI m) hl g2 ?_
    simpa using e2
  | false =>
   cases a' with
   | true =>
    exfalso
    refine uU (b := b') (b' := b) (r := iI m) (r' := iI l) hl.symm g4 ?_
    simpa using e2.symm
   | false => exact hsame (by simpa using e2) rfl
theorem tQ : ∀ (l : List (Bool × List Int)), ∀ b ∈ iI l, 0 ≤ b ∧ b < 256
 | [], b, h => by cases h
 | c :: r, b, h => by
  rcases List.mem_append.1 h with h | h
  ·unfold uT at h
   rcases List.mem_append.1 h with h | h
   ·exact zF _ b h
   rcases List.mem_append.1 h with h | h
   ·split at h
    ·rw [List.mem_singleton] at h; subst h; omega
    ·cases h
   rcases List.mem_append.1 h with h | h
   ·exact uC _ b h
   ·rw [List.mem_singleton] at h; subst h; omega
  ·exact tQ r b h
theorem tP : ∀ (l : List (Bool × List Int)), (∀ c ∈ l, c.2.length ≤ 1000) → (iI l).length ≤ 8010 * l.length
 | [], _ => by simp [iI]
 | c :: r, h => by
  have h1 := tP r fun x hx => h x (.tail _ hx)
  have h2 := h c (.head _)
  have h3 := jF c.2
  have h8 : (jD (c.2.length : Int)).length = 8 := rfl
  have h4 : (if c.1 = true then [(1 : Int)] else []).length ≤ 1 := by split <;> simp
  simp only [iI, uT, List.length_append, List.length_cons, List.length_nil]; omega
def jz (d : List Bool) : List Int := d.map fun b => if b = true then 1 else 0
theorem tY : ∀ {d e : List Bool}, jz d = jz e → d = e
 | [], [], _ => rfl
 | [], _ :: _, h => by simp [jz] at h
 | _ :: _, [], h => by simp [jz] at h
 | a :: d, b :: e, h => by
  simp only [jz, List.map_cons, List.cons.injEq] at h
  rw [tY (d := d) (e := e) h.2]
  cases a <;> cases b <;> simp at h <;> rfl
def stT (d : List Bool) (C : List fL) : List Int := jz d ++ iI (chT C)
def stB (d : List Bool) (C : List fL) : ByteArray := AP (stT d C)
theorem E7 {l m : List Int} (hl : ∀ b ∈ l, 0 ≤ b ∧ b < 256) (hm : ∀ b ∈ m, 0 ≤ b ∧ b < 256) (h : AP l = AP m) : l = m := by
 unfold AP at h
 have h : l.map (fun x => UInt8.ofNat x.toNat) = m.map (fun x => UInt8.ofNat x.toNat) := by
  have := congrArg (fun b : ByteArray => b.data.toList) h
  simpa using this
 have key : ∀ l m : List Int, (∀ b ∈ l, 0 ≤ b ∧ b < 256) → (∀ b ∈ m, 0 ≤ b ∧ b < 256) → l.map (fun x => UInt8.ofNat x.toNat) = m.map (fun x => UInt8.ofNat x.toNat) → l = m := by
  intro l
  induction l with
  | nil => intro m _ _ h; cases m with
   | nil => rfl
   | cons => simp at h
  | cons x l ih =>
   intro m h1 h2 h
   cases m with
   | nil => simp at h
   | cons y m =>
    simp only [List.map_cons, List.cons.injEq] at h
    obtain ⟨x0, x1⟩ := h1 x (.head _)
    obtain ⟨y0, y1⟩ := h2 y (.head _)
    have e := congrArg UInt8.toNat h.1
    rw [UInt8.toNat_ofNat', UInt8.toNat_ofNat', Nat.mod_eq_of_lt (by omega), Nat.mod_eq_of_lt (by omega)] at e
    rw [ih m (fun b hb => h1 b (.tail _ hb)) (fun b hb => h2 b (.tail _ hb)) h.2]
    congr 1; omega
 exact key l m hl hm h
theorem AA (d : List Bool) : ∀ b ∈ jz d, 0 ≤ b ∧ b < 256 := by
 intro b hb
 obtain ⟨x, _, rfl⟩ := List.mem_map.1 hb
 split <;> omega
theorem yd (d : List Bool) (C : List fL) : ∀ b ∈ stT d C, 0 ≤ b ∧ b < 256 := by
 intro b hb
 rcases List.mem_append.1 hb with hb | hb
 ·exact AA d b hb
 ·exact tQ _ b hb
structure Ch56 (caps : List Int) (C : List fL) : Prop where
 w : ChW caps C
 v : ∀ c ∈ C, ∀ v ∈ c.buffer, W56 v
theorem F7 {d e : List Bool} {C D : List fL} {caps : List Int} (hd : d.length = e.length) (hC : Ch56 caps C) (hD : Ch56 caps D) (h : stB d C = stB e D) : d = e ∧ C = D := by
 have h := E7 (yd d C) (yd e D) h
 unfold stT at h
 obtain ⟨h1, h2⟩ := List.append_inj h (by simp [jz, hd])
 have hcap : C.map (·.capacity) = D.map (·.capacity) := by rw [hC.w.caps, hD.w.caps]
 have hl : C.length = D.length := by simpa using congrArg List.length hcap
 have hr : ∀ {E : List fL}, Ch56 caps E → ∀ c ∈ chT E, c.2.length < 1000000 ∧ ∀ v ∈ c.2, W56 v := fun {E} hE c hc => by
  unfold chT at hc
  obtain ⟨x, hx, rfl⟩ := List.mem_map.1 hc
  exact ⟨by have := hE.w.ok.buf x hx; simp only; omega, hE.v x hx⟩
 exact ⟨tY h1, xO hcap (tO (by simp [chT, hl]) (hr hC) (hr hD) h2)⟩
theorem E8 {l : List Int} (h : ∀ b ∈ l, 0 ≤ b ∧ b < 256) : zA l = some (AP l) := by
 unfold zA
 rw [if_pos]
 rw [List.all_eq_true]
 intro x hx
 have := h x hx
 simp; omega
theorem E6 {d : List Bool} {C : List fL} {caps : List Int} (hd : d.length ≤ 1000) (hC : Ch56 caps C) (hc : caps.length ≤ 10) : sw d C = some (stB d C) := by
 have hlC : C.length ≤ 10 := by rw [← hC.w.caps, List.length_map] at hc; exact hc
 have hbuf := hC.w.ok.buf
 refine Ok.eq ?_
 unfold sw
 have htk : ∀ n : Nat, (iI ((chT C).take n)).length ≤ 80100 := fun n => by
  have h1 := tP ((chT C).take n) fun c hc' => by
   have hm := List.mem_of_mem_take hc'
   unfold chT at hm
   obtain ⟨x, hx, rfl⟩ := List.mem_map.1 hm
   exact hbuf x hx
  have h2 : ((chT C).take n).length ≤ 10 := by rw [List.length_take]; simp [chT]; omega
  omega
 have hfl : ∀ n : Nat, (jz (d.take n)).length ≤ 1000 := fun n => by simp [jz]; omega
 have hJ1 : ∀ l, l = jz d → Ok (su C l) fun r => r = stB d C := by
  intro l hl
  have hfd : l.length ≤ 1000 := by rw [hl]; simp [jz]; omega
  unfold su
  refine io (fun _ i => ((C.length : Int) - i).toNat) (fun q i => 0 ≤ i ∧ i ≤ (C.length : Int) ∧ q = l ++ iI ((chT C).take i.toNat)) (fun _ _ r => r = stB d C) ?_ BIG l 0 ⟨by omega, by omega, by simp [iI]⟩ (gn (by omega))
  intro q i k ⟨i0, i1, hq⟩ hk
  have hql : q.length ≤ 90000 := by rw [hq, List.length_append]; have := htk i.toNat; omega
  unfold xa
  refine Ok.ite (fun hi => ?_) fun hi => ?_
  rotate_left
  ·unfold wY
   have e : q = stT d C := by rw [hq, List.take_of_length_le (by simp [chT]; omega), hl]; rfl
   refine Ok.bindEq (by rw [e]; exact E8 (yd d C)) (Ok.some rfl)
  obtain ⟨c, hc'⟩ : ∃ c, getI C i = some c := ⟨_, fK i0 hi⟩
  have hcb := hbuf c (fX hc')
  have hnext : (chT C).take (i + 1).toNat = (chT C).take i.toNat ++ [(c.closed, c.buffer)] := by
   unfold chT
   rw [← List.map_take, ← List.map_take, ii hc', List.map_append]; rfl
  refine Ok.bindEq hc' ?_
  rw [zE (by omega) (by omega)]
  refine Ok.bindEq (BU (by omega)) ?_
  refine Ok.bindEq hc' ?_
  have hJ4 : ∀ m : List Int, m = q ++ (jD (c.buffer.length : Int) ++ if c.closed = true then [1] else []) → Ok (pa C i k m) fun r => r = stB d C := by
   intro m hm
   have hml : m.length ≤ 91000 := by
    have h8 : (jD (c.buffer.length : Int)).length = 8 := rfl
    have h4 : (if c.closed = true then [(1 : Int)] else []).length ≤ 1 := by split <;> simp
    rw [hm]; simp only [List.length_append]; omega
   unfold pa
   refine io (fun _ j => ((c.buffer.length : Int) - j).toNat) (fun q2 j => 0 ≤ j ∧ j ≤ (c.buffer.length : Int) ∧ q2 = m ++ iD (c.buffer.take j.toNat)) (fun _ _ r => r = stB d C) ?_ BIG m 0 ⟨by omega, by omega, by simp [iD]⟩ (gn (by omega))
   intro q2 j k2 ⟨j0, j1, hq2⟩ hk2
   have hq2l : q2.length ≤ 100000 := by
    rw [hq2, List.length_append, jF, List.length_take]; omega
   unfold w9
   refine Ok.bindEq hc' ?_
   refine Ok.ite (fun hj => ?_) fun hj => ?_
   ·obtain ⟨v, hv⟩ : ∃ v, getI c.buffer j = some v := ⟨_, fK j0 hj⟩
    refine Ok.bindEq hc' ?_
    refine Ok.bindEq hv ?_
    refine Ok.bindEq (BU (by omega)) ?_
    rw [gl (by omega) (by omega)]
    refine hk2 _ _ ⟨by omega, by omega, ?_⟩ (by omega)
    rw [ii hv, qg, hq2, List.append_assoc]
   ·unfold w8
    refine Ok.bindEq (gm (by simp; omega)) ?_
    unfold wZ
    rw [gl (by omega) (by omega)]
    refine hk _ _ ⟨by omega, by omega, ?_⟩ (by omega)
    rw [hnext, pX, hq2, hm, hq, show c.buffer.take j.toNat = c.buffer from List.take_of_length_le (by omega)]
    simp [uT]
  refine Ok.ite (fun hcl => ?_) fun hcl => ?_
  ·refine Ok.bindEq (gm (by simp [jD]; omega)) ?_
   exact hJ4 _ (by rw [if_pos hcl]; simp)
  ·exact hJ4 _ (by rw [if_neg hcl]; simp)
 refine io (fun _ i => ((d.length : Int) - i).toNat) (fun q i => 0 ≤ i ∧ i ≤ (d.length : Int) ∧ q = jz (d.take i.toNat)) (fun _ _ r => r = stB d C) ?_ BIG [] 0 ⟨by omega, by omega, by simp [jz]⟩ (gn (by omega))
 intro q i k ⟨i0, i1, hq⟩ hk
 have hql : q.length ≤ 1000 := by rw [hq]; exact hfl _
 unfold xb
 refine Ok.ite (fun hi => ?_) fun hi => ?_
 ·obtain ⟨b, hb⟩ : ∃ b, getI d i = some b := ⟨_, fK i0 hi⟩
  refine Ok.bindEq hb ?_
  rw [gl (by omega) (by omega)]
  have e : ∀ z : Int, (z = if b = true then 1 else 0) → q ++ [z] = jz (d.take (i + 1).toNat) := fun z hz => by
   rw [ii hb, hq]; unfold jz; rw [List.map_append, hz]; rfl
  refine Ok.ite (fun h => ?_) fun h => ?_
  ·refine Ok.bindEq (gm (by simp; omega)) ?_
   exact hk _ _ ⟨by omega, by omega, e 1 (by rw [if_pos h])⟩ (by omega)
  ·refine Ok.bindEq (gm (by simp; omega)) ?_
   exact hk _ _ ⟨by omega, by omega, e 0 (by rw [if_neg h])⟩ (by omega)
 ·exact hJ1 q (by rw [hq, List.take_of_length_le (by omega)])
def kW (l : List fL) (x y : Case) : Bool := decide (x.channel = y.channel) && ((x.send != y.send) && qb l x.channel)
def ij (l : List fL) (xs ys : List Case) : Bool := xs.any fun x => ys.any (kW l x)
theorem uf (l : List fL) (x y : Case) : kW l x y = kW l y x := by
 unfold kW
 by_cases h : x.channel = y.channel
 ·rw [h]; cases x.send <;> cases y.send <;> simp
 ·simp [h, Ne.symm h]
theorem xy (l : List fL) (xs ys : List Case) : ij l xs ys = ij l ys xs := by
 unfold ij
 rw [Bool.eq_iff_iff]
 simp only [List.any_eq_true]
 constructor
 ·rintro ⟨x, hx, y, hy, h⟩; exact ⟨y, hy, x, hx, by rw [uf]; exact h⟩
 ·rintro ⟨x, hx, y, hy, h⟩; exact ⟨y, hy, x, hx, by rw [uf]; exact h⟩
def pqS (x y : Case) (n m : Int) : gp := if x.send = true then gp.mk (rS n) (rV m x.value) else gp.mk (rV n y.value) (rS m)
theorem lR {l : List fL} {a b : Op} {x y : Case} {n m : Int} (ha : gG a n = some x) (hb : gG b m = some y) :
  (hY l a (pqS x y n m).x0 b (pqS x y n m).x1 || hY l b (pqS x y n m).x1 a (pqS x y n m).x0) = kW l x y := by
 unfold pqS hY kW
 cases hs : x.send
 ·simp only [Bool.false_eq_true, if_false]
  simp only [rV, rS, ha, hb]
  unfold qc
  by_cases hch : x.channel = y.channel
  ·cases hy : y.send <;> simp [hs, hch, gJ]
  ·cases hy : y.send <;> simp [hs, hch, gJ, Ne.symm hch]
 ·simp only [if_true]
  simp only [rV, rS, ha, hb]
  unfold qc
  by_cases hch : x.channel = y.channel
  ·cases hy : y.send <;> simp [hs, hch, gJ]
  ·cases hy : y.send <;> simp [hs, hch, gJ, Ne.symm hch]
theorem Gy {op : Op} (h : op.kind = 3) : casesS op = [] := by unfold casesS jA; simp [h]
theorem cases_num' {op : Op} {i : Nat} {x : Case} (h : (casesS op)[i]? = some x) : gG op (numOf op i) = some x := by
 by_cases h3 : op.kind = 3
 ·rw [Gy h3] at h; simp at h
 ·exact pm h3 h
theorem jo {op : Op} {i : Int} {x : Case} (h : getI (casesS op) i = some x) : gG op (numOf op i) = some x := by
 obtain ⟨h0, h1, h2⟩ := fR h
 rw [h2]; exact cases_num' h1
def ja (l : List fL) (a b : Op) (p : gp) : Prop := (hY l a p.x0 b p.x1 || hY l b p.x1 a p.x0) = true
theorem tw {l : List fL} {a b : Op} (ha : OpM a) (hb : OpM b) : Ok (pT l a b) fun r => (∀ p ∈ r, ja l a b p) ∧ (0 < r.length ↔ ij l (casesS a) (casesS b) = true) ∧ r.length ≤ 1000000 := by
 unfold pT
 refine Ok.bindEq (ju a) ?_
 refine Ok.bindEq (ju b) ?_
 have hal := ha.casesLen
 have hbl := hb.casesLen
 have hxs := @jo a
 have hys := @jo b
 generalize hxs' : casesS a = xs at *
 generalize hys' : casesS b = ys at *
 refine io (fun _ i => ((xs.length : Int) - i).toNat) (fun out i => 0 ≤ i ∧ i ≤ (xs.length : Int) ∧ (out.length : Int) ≤ 1000 * i ∧ (∀ p ∈ out, ja l a b p) ∧ ((0 < out.length ∨ ij l (xs.drop i.toNat) ys = true) ↔ ij l xs ys = true)) (fun _ _ => _) ?_ BIG [] 0 ⟨by omega, by omega, by simp, by simp, by simp⟩ (gn (by omega))
 intro out i k ⟨h0, h1, hout, hp, hany⟩ hk
 unfold sn
 refine Ok.ite (fun h => ?_) fun h => ?_
 ·have hg := fK h0 h
  rw [ig hg] at hany
  generalize xs[i.toNat]'(by omega) = x at *
  have hcx := hxs hg
  refine io (fun _ j => ((ys.length : Int) - j).toNat) (fun out j => 0 ≤ j ∧ j ≤ (ys.length : Int) ∧ (out.length : Int) ≤ 1000 * i + j ∧ (∀ p ∈ out, ja l a b p) ∧ ((0 < out.length ∨ (ys.drop j.toNat).any (kW l x) = true ∨ ij l (xs.drop (i + 1).toNat) ys = true) ↔ ij l xs ys = true)) (fun _ _ => _) ?_ BIG out 0 ⟨by omega, by omega, by omega, hp, by rw [← hany]; simp [ij]⟩ (gn (by omega))
  intro out j k2 ⟨g0, g1, hout2, hp2, hany2⟩ hk2
  unfold sk
  refine Ok.ite (fun h2 => ?_) fun h2 => ?_
  ·have hgy := fK g0 h2
   rw [ig hgy] at hany2
   generalize ys[j.toNat]'(by omega) = y at *
   have hcy := hys hgy
   have hfin : Ok (tm l a (pqS x y (numOf a i) (numOf b j)).x0 b (pqS x y (numOf a i) (numOf b j)).x1 |>.bind fun t => if t = true then (app out [pqS x y (numOf a i) (numOf b j)]).bind fun o => k2 o (wI (j + 1)) else k2 out (wI (j + 1))) (fun r => (∀ p ∈ r, ja l a b p) ∧ (0 < r.length ↔ ij l xs ys = true) ∧ r.length ≤ 1000000) := by
    rw [qd]
    simp only [Option.bind_some]
    rw [lR hcx hcy, gl (by omega) (by omega)]
    refine Ok.ite (fun hm => ?_) fun hm => ?_
    ·rw [gm (by simp; omega)]
     simp only [Option.bind_some]
     refine hk2 _ _ ⟨by omega, by omega, by simp; omega, fun p hp' => ?_, ?_⟩ (by omega)
     ·rcases List.mem_append.1 hp' with hp' | hp'
      ·exact hp2 p hp'
      ·simp at hp'; subst hp'
       unfold ja; rw [lR hcx hcy]; exact hm
     ·rw [← hany2]
      simp [hm]
    ·refine hk2 _ _ ⟨by omega, by omega, by omega, hp2, ?_⟩ (by omega)
     rw [← hany2]
     simp [hm]
   have hJ4 : Ok (mB l out xs ys i j (numOf a i) b a k k2 (numOf b j)) (fun r => (∀ p ∈ r, ja l a b p) ∧ (0 < r.length ↔ ij l xs ys = true) ∧ r.length ≤ 1000000) := by
    unfold mB sj o8
    rw [hg, hgy]
    simp only [Option.bind_some]
    unfold pqS at hfin
    cases hs : x.send
    ·simp only [hs, Bool.false_eq_true, if_false] at hfin ⊢
     exact hfin
    ·simp only [hs, if_true] at hfin ⊢
     exact hfin
   have hJ3 : Ok (mC l out xs ys i j b a k k2 (numOf a i)) (fun r => (∀ p ∈ r, ja l a b p) ∧ (0 < r.length ↔ ij l xs ys = true) ∧ r.length ≤ 1000000) := by
    unfold mC
    have e : ∀ z, z = numOf b j → Ok (mB l out xs ys i j (numOf a i) b a k k2 z) (fun r => (∀ p ∈ r, ja l a b p) ∧ (0 < r.length ↔ ij l xs ys = true) ∧ r.length ≤ 1000000) := fun z hz => hz ▸ hJ4
    refine Ok.ite (fun h4 => e _ (by unfold numOf; rw [if_pos h4])) fun h4 => e _ (by unfold numOf; rw [if_neg h4])
   have e : ∀ z, z = numOf a i → Ok (mC l out xs ys i j b a k k2 z) (fun r => (∀ p ∈ r, ja l a b p) ∧ (0 < r.length ↔ ij l xs ys = true) ∧ r.length ≤ 1000000) := fun z hz => hz ▸ hJ3
   refine Ok.ite (fun h4 => e _ (by unfold numOf; rw [if_pos h4])) fun h4 => e _ (by unfold numOf; rw [if_neg h4])
  ·unfold si
   rw [gl (by omega) (by omega)]
   refine hk _ _ ⟨by omega, by omega, by omega, hp2, ?_⟩ (by omega)
   rw [← hany2, List.drop_eq_nil_of_le (show ys.length ≤ j.toNat by omega)]
   simp
 ·unfold sh
  refine Ok.some ⟨hp, ?_, by omega⟩
  rw [← hany, List.drop_eq_nil_of_le (by omega)]
  simp [ij]
theorem xZ {l : List fL} {a b : Op} (ha : OpM a) (hb : OpM b) : so l a b = some (ij l (casesS a) (casesS b)) := by
 unfold so
 obtain ⟨r, hr, _, h2, _⟩ := tw (l := l) ha hb
 rw [hr]
 simp only [Option.bind_some]
 congr 1
 rw [gU, Bool.eq_iff_iff, decide_eq_true_iff, ← h2]
 omega
theorem ui {l : List fL} {a b : Op} (ha : OpM a) (hb : OpM b) : rR l a b = some (ij l (casesS a) (casesS b)) := by
 refine Ok.eq ?_
 unfold rR
 rw [xx, ha.casesS]
 simp only [Option.bind_some]
 have hal := ha.casesLen
 have hbl := hb.casesLen
 generalize hxs' : casesS a = xs at *
 refine jB (fun i => ((xs.length : Int) - i).toNat) (fun i => 0 ≤ i ∧ i ≤ (xs.length : Int) ∧ ij l xs (casesS b) = ij l (xs.drop i.toNat) (casesS b)) (fun _ => _) ?_ BIG 0 ⟨by omega, by omega, by simp⟩ (gn (by omega))
 intro i k ⟨h0, h1, hany⟩ hk
 unfold wd
 refine Ok.ite (fun h => ?_) fun h => ?_
 ·obtain ⟨x, hg⟩ : ∃ x, getI xs i = some x := ⟨_, fK h0 h⟩
  rw [hg, xx, hb.casesS]
  simp only [Option.bind_some]
  rw [ig hg] at hany
  generalize hys' : casesS b = ys at *
  refine jB (fun j => ((ys.length : Int) - j).toNat) (fun j => 0 ≤ j ∧ j ≤ (ys.length : Int) ∧ ij l xs ys = ((ys.drop j.toNat).any (kW l x) || ij l (xs.drop (i + 1).toNat) ys)) (fun _ => _) ?_ BIG 0 ⟨by omega, by omega, by rw [hany]; simp [ij]⟩ (gn (by omega))
  intro j k2 ⟨g0, g1, hany2⟩ hk2
  unfold wc
  refine Ok.ite (fun h2 => ?_) fun h2 => ?_
  ·obtain ⟨y, hgy⟩ : ∃ y, getI ys j = some y := ⟨_, fK g0 h2⟩
   rw [hgy]
   simp only [Option.bind_some]
   rw [ig hgy] at hany2
   rw [nC]
   simp only [i6]
   have hJ : ∀ t, t = kW l x y → Ok (m7 l xs i ys j x b k k2 t) (fun r => r = ij l xs ys) := fun t ht => by
    subst ht
    unfold m7
    rw [gl (by omega) (by omega)]
    refine Ok.ite (fun h3 => Ok.some ?_) fun h3 => hk2 _ ⟨by omega, by omega, ?_⟩ (by omega)
    ·rw [hany2]; simp [h3]
    ·rw [hany2]; simp [h3]
   have hm : kW l x y = (decide (x.channel = y.channel) && ((x.send != y.send) && qb l x.channel)) := rfl
   cases hgc : getI l x.channel with
   | none =>
    simp only [Option.isSome_none, Bool.false_eq_true, if_false]
    exact hJ false (by rw [hm]; unfold qb; rw [hgc]; simp)
   | some c =>
    have hf : iG l x.channel = c := by unfold iG; rw [hgc]; rfl
    have ho : qb l x.channel = (!c.closed && decide (c.capacity ≤ 0)) := by unfold qb; rw [hgc]
    rw [hf]
    simp only [Option.isSome_some, if_true]
    refine Ok.ite (fun h5 => Ok.ite (fun h6 => hJ _ (by rw [hm]; simp at h6; simp [h6])) fun h6 => Ok.ite (fun h7 => hJ _ (by rw [hm, ho, h7]; simp)) fun h7 => hJ _ ?_) fun h5 => hJ _ (by rw [hm]; simp [h5])
    rw [hm, ho]
    simp at h6 h7
    simp [h5, h6, h7, gU]
  ·unfold wb
   rw [gl (by omega) (by omega)]
   refine hk _ ⟨by omega, by omega, ?_⟩ (by omega)
   rw [hany2, List.drop_eq_nil_of_le (show ys.length ≤ j.toNat by omega)]; simp
 ·unfold wa
  refine Ok.some ?_
  rw [hany, List.drop_eq_nil_of_le (by omega)]; rfl
def y8 (l : List fL) (done : List gd) (a : gd) : Bool := decide (0 < (jO l a.op).length) || done.any fun b => !decide (a.thread = b.thread) && ij l (casesS a.op) (casesS b.op)
def jE (l : List fL) : List gd → List gd → Bool
 | _, [] => false
 | done, a :: rest => y8 l done a || jE l (done ++ [a]) rest
theorem pZ (l : List fL) (d : List gd) (a : gd) (r : List gd) : jE l d (a :: r) = (y8 l d a || jE l (d ++ [a]) r) := rfl
theorem tW (l : List fL) (d : List gd) : jE l d [] = false := rfl
theorem pr {l : List fL} {w : List gd} (hl : ix l) (hw : w.length ≤ 1000) (ho : ∀ a ∈ w, OpM a.op) : rU l w = some (jE l [] w) := by
 refine Ok.eq ?_
 unfold rU
 refine jB (fun i => ((w.length : Int) - i).toNat) (fun i => 0 ≤ i ∧ i ≤ (w.length : Int) ∧ jE l [] w = jE l (w.take i.toNat) (w.drop i.toNat)) (fun _ => _) ?_ BIG 0 ⟨by omega, by omega, by simp⟩ (gn (by omega))
 intro i k ⟨h0, h1, hen⟩ hk
 unfold wj
 refine Ok.ite (fun h => ?_) fun h => ?_
 ·have hg := fK h0 h
  rw [hg]
  simp only [Option.bind_some]
  rw [ig hg] at hen
  have htk := ii hg
  have hoa := ho _ (fX hg)
  generalize w[i.toNat]'(by omega) = a at *
  rw [lV hl hoa]
  simp only [Option.bind_some]
  rw [pZ] at hen
  rw [← htk] at hen
  refine Ok.ite (fun hc => Ok.some ?_) fun hc => ?_
  ·rw [hen]; unfold y8; simp only [decide_eq_true (show 0 < (jO l a.op).length by omega), Bool.true_or]
  ·rw [iY (by omega) (by omega) (by omega)]
   simp only [Option.bind_some]
   rw [show ((w.take i.toNat).drop (0 : Int).toNat) = w.take i.toNat by simp]
   have hdl : (w.take i.toNat).length ≤ 1000 := by rw [List.length_take]; omega
   have hod : ∀ b ∈ w.take i.toNat, OpM b.op := fun b hb => ho b (List.mem_of_mem_take hb)
   have hea : y8 l (w.take i.toNat) a = (w.take i.toNat).any fun b => !decide (a.thread = b.thread) && ij l (casesS a.op) (casesS b.op) := by
    unfold y8; rw [decide_eq_false (by omega), Bool.false_or]
   rw [hea] at hen
   generalize hd : w.take i.toNat = d at *
   refine jB (fun j => ((d.length : Int) - j).toNat) (fun j => 0 ≤ j ∧ j ≤ (d.length : Int) ∧ jE l [] w = (((d.drop j.toNat).any fun b => !decide (a.thread = b.thread) && ij l (casesS a.op) (casesS b.op)) || jE l (w.take (i + 1).toNat) (w.drop (i + 1).toNat))) (fun _ => _) ?_ BIG 0 ⟨by omega, by omega, by rw [hen]; simp⟩ (gn (by omega))
   intro j k2 ⟨g0, g1, hen2⟩ hk2
   unfold wi
   refine Ok.ite (fun h2 => ?_) fun h2 => ?_
   ·have hgb := fK g0 h2
    have hob := hod _ (fX hgb)
    rw [hgb]
    simp only [Option.bind_some]
    rw [ig hgb] at hen2
    generalize d[j.toNat]'(by omega) = b at *
    rw [ui hoa hob]
    simp only [Option.bind_some]
    unfold rT
    rw [gl (by omega) (by omega)]
    refine Ok.ite (fun ht => Ok.ite (fun h => by cases h) fun _ => hk2 _ ⟨by omega, by omega, ?_⟩ (by omega)) fun ht => Ok.ite (fun hm => Ok.some ?_) fun hm => hk2 _ ⟨by omega, by omega, ?_⟩ (by omega)
    ·rw [hen2]; simp [ht]
    ·rw [hen2]; simp [ht, hm]
    ·rw [hen2]; simp [ht, hm]
   ·unfold wh
    rw [gl (by omega) (by omega)]
    refine hk _ ⟨by omega, by omega, ?_⟩ (by omega)
    rw [hen2, List.drop_eq_nil_of_le (show d.length ≤ j.toNat by omega)]; simp
 ·unfold we
  refine Ok.some ?_
  rw [hen, List.drop_eq_nil_of_le (by omega), tW]
theorem uo {l : List fL} {w : List gd} (hl : ix l) (hw : w.length ≤ 1000) (ho : ∀ a ∈ w, OpM a.op) : sr l w = some (jE l [] w) := by
 refine Ok.eq ?_
 unfold sr
 refine jB (fun i => ((w.length : Int) - i).toNat) (fun i => 0 ≤ i ∧ i ≤ (w.length : Int) ∧ jE l [] w = jE l (w.take i.toNat) (w.drop i.toNat)) (fun _ => _) ?_ BIG 0 ⟨by omega, by omega, by simp⟩ (gn (by omega))
 intro i k ⟨h0, h1, hen⟩ hk
 unfold wQ
 refine Ok.ite (fun h => ?_) fun h => ?_
 ·have hg := fK h0 h
  rw [hg]
  simp only [Option.bind_some]
  rw [ig hg] at hen
  have htk := ii hg
  have hoa := ho _ (fX hg)
  generalize w[i.toNat]'(by omega) = a at *
  rw [nK hl hoa]
  simp only [Option.bind_some]
  rw [pZ] at hen
  rw [← htk] at hen
  refine Ok.ite (fun hc => Ok.some ?_) fun hc => ?_
  ·rw [hen]; unfold y8; simp only [decide_eq_true (show 0 < (jO l a.op).length by omega), Bool.true_or]
  ·have hea : y8 l (w.take i.toNat) a = (w.take i.toNat).any fun b => !decide (a.thread = b.thread) && ij l (casesS a.op) (casesS b.op) := by
    unfold y8; rw [decide_eq_false (by omega), Bool.false_or]
   rw [hea] at hen
   refine jB (fun j => (i - j).toNat) (fun j => 0 ≤ j ∧ j ≤ i ∧ jE l [] w = ((((w.take i.toNat).drop j.toNat).any fun b => !decide (a.thread = b.thread) && ij l (casesS a.op) (casesS b.op)) || jE l (w.take (i + 1).toNat) (w.drop (i + 1).toNat))) (fun _ => _) ?_ BIG 0 ⟨by omega, by omega, by rw [hen]; simp⟩ (gn (by omega))
   intro j k2 ⟨g0, g1, hen2⟩ hk2
   unfold wP
   refine Ok.ite (fun h2 => ?_) fun h2 => ?_
   ·have hgb := fK (l := w) g0 (by omega)
    have hob := ho _ (fX hgb)
    rw [hgb, hg]
    simp only [Option.bind_some]
    have hgd : getI (w.take i.toNat) j = some (w[j.toNat]'(by omega)) := by
     unfold getI; rw [if_pos g0, List.getElem?_take, if_pos (by omega), List.getElem?_eq_getElem]
    rw [ig hgd] at hen2
    generalize w[j.toNat]'(by omega) = b at *
    rw [xZ hob hoa, xy]
    simp only [Option.bind_some]
    unfold sq
    rw [gl (by omega) (by omega)]
    refine Ok.ite (fun ht => Ok.ite (fun h => by cases h) fun _ => hk2 _ ⟨by omega, by omega, ?_⟩ (by omega)) fun ht => Ok.ite (fun hm => Ok.some ?_) fun hm => hk2 _ ⟨by omega, by omega, ?_⟩ (by omega)
    ·rw [hen2]; simp [ht.symm]
    ·rw [hen2]; simp [Ne.symm ht, hm]
    ·rw [hen2]; simp [Ne.symm ht, hm]
   ·unfold wO
    rw [gl (by omega) (by omega)]
    refine hk _ ⟨by omega, by omega, ?_⟩ (by omega)
    rw [hen2, List.drop_eq_nil_of_le (show (w.take i.toNat).length ≤ j.toNat by rw [List.length_take]; omega)]; simp
 ·unfold wN
  refine Ok.some ?_
  rw [hen, List.drop_eq_nil_of_le (by omega), tW]
end Go.Hx
