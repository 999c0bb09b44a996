
import Derived.Test.YtphoeijgpmlbpaaGreatDoorHxLoops
import Derived.Lib.ItoaLen
import Derived.Test.YtphoeijgpmlbpaaGreatDoorXZM
set_option linter.unusedVariables false
set_option linter.unusedSimpArgs false
namespace Go.Hx
open Go
theorem qx {k : Nat} (h : k < 10) : (UInt8.ofNat (48 + k)).toNat = 48 + k := by
 rw [UInt8.toNat_ofNat']; omega
def FO (l : List UInt8) : Nat := l.foldl (fun a b => a * 10 + (b.toNat - 48)) 0
theorem nF (u : Nat) : Lib.decDigits u = if u < 10 then [UInt8.ofNat (48 + u)] else Lib.decDigits (u / 10) ++ [UInt8.ofNat (48 + u % 10)] := by
 rw [Lib.decDigits]
 split <;> rfl
theorem AM (u : Nat) : FO (Lib.decDigits u) = u := by
 induction u using Nat.strongRecOn with
 | _ u ih =>
  rw [nF]
  by_cases h : u < 10
  ·rw [if_pos h]
   show 0 * 10 + ((UInt8.ofNat (48 + u)).toNat - 48) = u
   rw [qx h]; omega
  ·rw [if_neg h]
   unfold FO
   rw [List.foldl_append]
   show (FO (Lib.decDigits (u / 10))) * 10 + ((UInt8.ofNat (48 + u % 10)).toNat - 48) = u
   rw [ih _ (by omega), qx (by omega)]; omega
theorem xq {a b : Nat} (h : Lib.decDigits a = Lib.decDigits b) : a = b := by rw [← AM a, ← AM b, h]
theorem mm (u : Nat) : ∀ b ∈ Lib.decDigits u, 48 ≤ b.toNat ∧ b.toNat ≤ 57 := by
 induction u using Nat.strongRecOn with
 | _ u ih =>
  intro b hb
  rw [nF] at hb
  by_cases h : u < 10
  ·rw [if_pos h, List.mem_singleton] at hb
   subst hb; rw [qx h]; omega
  ·rw [if_neg h] at hb
   rcases List.mem_append.1 hb with hb | hb
   ·exact ih _ (by omega) b hb
   ·rw [List.mem_singleton] at hb
    subst hb; rw [qx (by omega)]; omega
theorem yz (n : Int) : ∀ b ∈ Lib.itoa n, 45 ≤ b.toNat ∧ b.toNat ≤ 57 := by
 intro b hb
 unfold Lib.itoa at hb
 split at hb
 ·rcases List.mem_cons.1 hb with hb | hb
  ·subst hb; decide
  ·have := mm _ b hb; omega
 ·have := mm _ b hb; omega
theorem DL {a b : Int} (h : Lib.itoa a = Lib.itoa b) : a = b := by
 unfold Lib.itoa at h
 split at h <;> split at h
 ·have := xq (List.cons.inj h).2; omega
 ·exfalso
  have := mm b.toNat 45 (by rw [← h]; exact .head _)
  revert this; decide
 ·exfalso
  have := mm a.toNat 45 (by rw [h]; exact .head _)
  revert this; decide
 ·have := xq h; omega
theorem AD {c : UInt8} : ∀ {p q s t : List UInt8}, (∀ b ∈ p, b ≠ c) → (∀ b ∈ q, b ≠ c) → p ++ c :: s = q ++ c :: t → p = q ∧ s = t
 | [], [], s, t, _, _, h => ⟨rfl, (List.cons.inj h).2⟩
 | [], y :: q, s, t, _, hq, h => absurd (List.cons.inj h).1.symm (hq y (.head _))
 | x :: p, [], s, t, hp, _, h => absurd (List.cons.inj h).1 (hp x (.head _))
 | x :: p, y :: q, s, t, hp, hq, h => by
  obtain ⟨h1, h2⟩ := List.cons.inj h
  obtain ⟨e1, e2⟩ := AD (fun b hb => hp b (.tail _ hb)) (fun b hb => hq b (.tail _ hb)) h2
  exact ⟨by rw [h1, e1], e2⟩
theorem uO {l : List UInt8} {c : UInt8} (h : ∀ b ∈ l, 45 ≤ b.toNat ∧ b.toNat ≤ 57) (hc : ¬ (45 ≤ c.toNat ∧ c.toNat ≤ 57)) : ∀ b ∈ l, b ≠ c := fun b hb e => hc (by rw [← e]; exact h b hb)
def kg : List Int → List UInt8
 | [] => []
 | n :: l => Lib.itoa n ++ 32 :: kg l
theorem uQ : ∀ {a b : List Int} {s t : List UInt8}, a.length = b.length → kg a ++ s = kg b ++ t → a = b ∧ s = t
 | [], [], s, t, _, h => ⟨rfl, h⟩
 | [], _ :: _, _, _, h, _ => by simp at h
 | _ :: _, [], _, _, h, _ => by simp at h
 | x :: a, y :: b, s, t, hl, h => by
  simp only [kg, List.append_assoc, List.cons_append] at h
  obtain ⟨e1, e2⟩ := AD (uO (yz _) (by decide)) (uO (yz _) (by decide)) h
  obtain ⟨e3, e4⟩ := uQ (by simpa using hl) e2
  exact ⟨by rw [DL e1, e3], e4⟩
def jt : List Int → List UInt8
 | [] => []
 | v :: l => 32 :: (Lib.decDigits v.toNat ++ jt l)
def zV (s : List UInt8) : Prop := s = [] ∨ ∃ t, s = 47 :: t
theorem yr : ∀ {p q s t : List UInt8}, (∀ b ∈ p, 48 ≤ b.toNat ∧ b.toNat ≤ 57) → (∀ b ∈ q, 48 ≤ b.toNat ∧ b.toNat ≤ 57) → (s = [] ∨ ∃ c r, s = c :: r ∧ ¬ (48 ≤ c.toNat ∧ c.toNat ≤ 57)) → (t = [] ∨ ∃ c r, t = c :: r ∧ ¬ (48 ≤ c.toNat ∧ c.toNat ≤ 57)) → p ++ s = q ++ t → p = q ∧ s = t
 | [], [], s, t, _, _, _, _, h => ⟨rfl, h⟩
 | [], y :: q, s, t, _, hq, hs, _, h => by
  have hy := hq y (.head _)
  rcases hs with hs | ⟨c, r, hs, hc⟩
  ·rw [hs] at h; simp at h
  ·rw [hs] at h
   have := (List.cons.inj h).1
   rw [← this] at hy; exact absurd hy hc
 | x :: p, [], s, t, hp, _, _, ht, h => by
  have hx := hp x (.head _)
  rcases ht with ht | ⟨c, r, ht, hc⟩
  ·rw [ht] at h; simp at h
  ·rw [ht] at h
   have := (List.cons.inj h).1
   rw [this] at hx; exact absurd hx hc
 | x :: p, y :: q, s, t, hp, hq, hs, ht, h => by
  obtain ⟨h1, h2⟩ := List.cons.inj h
  obtain ⟨e1, e2⟩ := yr (fun b hb => hp b (.tail _ hb)) (fun b hb => hq b (.tail _ hb)) hs ht h2
  exact ⟨by rw [h1, e1], e2⟩
theorem qf {l : List Int} {s : List UInt8} (hs : zV s) : jt l ++ s = [] ∨ ∃ c r, jt l ++ s = c :: r ∧ ¬ (48 ≤ c.toNat ∧ c.toNat ≤ 57) := by
 cases l with
 | nil =>
  rcases hs with h | ⟨t, h⟩
  ·exact .inl h
  ·exact .inr ⟨47, t, h, by decide⟩
 | cons v l => exact .inr ⟨32, _, rfl, by decide⟩
theorem ui : ∀ {a b : List Int} {s t : List UInt8}, (∀ v ∈ a, 0 ≤ v) → (∀ v ∈ b, 0 ≤ v) → zV s → zV t → jt a ++ s = jt b ++ t → a = b ∧ s = t
 | [], [], s, t, _, _, _, _, h => ⟨rfl, h⟩
 | [], y :: b, s, t, _, _, hs, _, h => by
  rcases hs with hs | ⟨r, hs⟩
  ·rw [hs] at h; cases h
  ·rw [hs] at h; exact absurd (List.cons.inj h).1 (by decide)
 | x :: a, [], s, t, _, _, _, ht, h => by
  rcases ht with ht | ⟨r, ht⟩
  ·rw [ht] at h; cases h
  ·rw [ht] at h; exact absurd (List.cons.inj h).1 (by decide)
 | x :: a, y :: b, s, t, ha, hb, hs, ht, h => by
  simp only [jt, List.cons_append, List.append_assoc] at h
  obtain ⟨e1, e2⟩ := yr (mm _) (mm _) (qf hs) (qf ht) (List.cons.inj h).2
  obtain ⟨e3, e4⟩ := ui (fun v hv => ha v (.tail _ hv)) (fun v hv => hb v (.tail _ hv)) hs ht e2
  have hx := ha x (.head _)
  have hy := hb y (.head _)
  have := xq e1
  exact ⟨by rw [e3, show x = y by omega], e4⟩
def boolT (b : Bool) : List UInt8 := if b = true then [116, 114, 117, 101] else [102, 97, 108, 115, 101]
def jq : List (Bool × List Int) → List UInt8
 | [] => []
 | c :: l => 47 :: (boolT c.1 ++ (jt c.2 ++ jq l))
theorem nE (l : List (Bool × List Int)) : zV (jq l) := by
 cases l with
 | nil => exact .inl rfl
 | cons c l => exact .inr ⟨_, rfl⟩
theorem tu : ∀ {a b : List (Bool × List Int)}, (∀ c ∈ a, ∀ v ∈ c.2, 0 ≤ v) → (∀ c ∈ b, ∀ v ∈ c.2, 0 ≤ v) → a.length = b.length → jq a = jq b → a = b
 | [], [], _, _, _, _ => rfl
 | [], _ :: _, _, _, h, _ => by simp at h
 | _ :: _, [], _, _, h, _ => by simp at h
 | (c, x) :: a, (d, y) :: b, ha, hb, hl, h => by
  simp only [jq] at h
  have h := (List.cons.inj h).2
  have hcd : c = d := by
   cases c <;> cases d
   ·rfl
   ·exact absurd (List.cons.inj h).1 (by decide)
   ·exact absurd (List.cons.inj h).1 (by decide)
   ·rfl
  subst hcd
  have h := List.append_cancel_left h
  obtain ⟨e1, e2⟩ := ui (ha _ (.head _)) (hb _ (.head _)) (nE _) (nE _) h
  have e3 := tu (fun c hc => ha c (.tail _ hc)) (fun c hc => hb c (.tail _ hc)) (by simpa using hl) e2
  rw [show x = y from e1, e3]
theorem Bn {p q : List Int} {a b : List (Bool × List Int)} (hp : p.length = q.length) (hl : a.length = b.length) (ha : ∀ c ∈ a, ∀ v ∈ c.2, 0 ≤ v) (hb : ∀ c ∈ b, ∀ v ∈ c.2, 0 ≤ v) (h : kg p ++ jq a = kg q ++ jq b) : p = q ∧ a = b := by
 obtain ⟨e1, e2⟩ := uQ hp h
 exact ⟨e1, tu ha hb hl e2⟩
structure Lst (l : List Int) : Prop where
 len : l.length ≤ 1000
 rng : ∀ b ∈ l, 0 ≤ b ∧ b < 256
structure km (l : List Int) (a : Int) : Prop where
 lo : 0 ≤ a
 hi : a ≤ (l.length : Int)
def Cd (c : fg) : Prop := Lst c.list ∧ km c.list c.at_
theorem m3 (c : fg) : om c = some (dcd (c.at_ < (c.list.length : Int))) := rfl
theorem hX {c : fg} {n : Int} (hc : Cd c) (h1 : 1 ≤ n) : Ok (lj c n) fun r => 0 ≤ r.1 ∧ r.1 < n ∧ km c.list r.2 ∧ c.at_ ≤ r.2 ∧ (c.at_ < (c.list.length : Int) → r.2 = c.at_ + 1) := by
 obtain ⟨⟨hlen, hrng⟩, hlo, hhi⟩ := hc
 unfold lj
 rw [m3]
 simp only [Option.bind_some]
 refine Ok.ite (fun h => ?_) fun h => ?_
 ·rw [ik] at h
  rw [gh (x := c.at_ + 1) (by omega) (by omega), gh (x := c.at_ + 1 - 1) (by omega) (by omega)]
  refine Ok.bind (Ok.getI (P := fun x => 0 ≤ x ∧ x < 256) (by omega) (by omega) fun x _ hx => hrng x hx) fun x ⟨hx0, hx1⟩ => ?_
  rw [gh (x := x) (by omega) (by omega)]
  have hn : t7 x n = some (Int.tmod x n) := by unfold t7; rw [if_neg (by omega)]
  rw [hn]
  refine Ok.some ⟨?_, ?_, ⟨by simp only; omega, by simp only; omega⟩, by simp only; omega, fun _ => rfl⟩
  ·simp only; exact Int.tmod_nonneg _ hx0
  ·simp only; exact Int.tmod_lt_of_pos _ (by omega)
 ·rw [ik] at h
  refine Ok.some ⟨by simp only; omega, by simp only; omega, ⟨hlo, hhi⟩, by simp only; omega, fun h' => absurd h' h⟩
theorem Fq {l : List Int} {m : Int} (hl : ∀ b ∈ l, 0 ≤ b ∧ b < 256) (h0 : 0 ≤ m) (hm : m ≤ 1000) : Ok (rj l m) fun c => Cd c ∧ c.at_ = 0 ∧ c.value = 0 ∧ c.list = l.take m.toNat := by
 unfold rj
 refine Ok.ite (fun h => ?_) fun h => ?_
 ·rw [ji (by omega) (by omega) (by omega)]
  refine Ok.some ⟨⟨⟨by simp; omega, fun b hb => hl b (List.mem_of_mem_take (by simpa using hb))⟩, by simp, by simp only; omega⟩, rfl, rfl, by simp⟩
 ·refine Ok.some ⟨⟨⟨by simp only; omega, hl⟩, by simp, by simp only; omega⟩, rfl, rfl, ?_⟩
  rw [List.take_of_length_le (by omega)]
theorem iM {α : Type} {l : List α} {i : Int} {x y : α} (h : y ∈ f8 l i x) : y = x ∨ y ∈ l := by
 unfold f8 at h
 rcases List.mem_or_eq_of_mem_set h with h | h
 ·exact .inr h
 ·exact .inl h
theorem gd {α : Type} {l : List α} {i : Int} {x : α} : (f8 l i x).length = l.length := by simp [f8]
structure xJ (x : fM) : Prop where
 n1 : 1 ≤ x.capacities.length
 n3 : x.capacities.length ≤ 3
 ns : x.starts.length = x.capacities.length
 t2 : 2 ≤ x.threads
 t4 : x.threads ≤ 4
 cap : ∀ k ∈ x.capacities, 0 ≤ k ∧ k ≤ 3
 st : ∀ k ∈ x.starts, 0 ≤ k ∧ k < 9223372036854775808
theorem AP {c : fg} (hc : Cd c) : Ok (sH c) fun r => xJ r.1 ∧ km c.list r.2.1 := by
 obtain ⟨hl, ha⟩ := hc
 unfold sH
 refine mR (fun i _ _ _ _ => (4 - i).toNat) (fun i a v p q => 0 ≤ i ∧ i ≤ 3 ∧ km c.list a ∧ (p.length : Int) = i ∧ (q.length : Int) = i ∧ (∀ k ∈ p, 0 ≤ k ∧ k ≤ 3) ∧ ∀ k ∈ q, 0 ≤ k ∧ k < 9223372036854775808) (fun _ _ _ _ _ => _) ?_ BIG 0 _ _ _ _ ⟨by omega, by omega, ha, by simp, by simp, by simp, by simp⟩ (gp (by omega))
 intro i a v p q k ⟨h0, h3, ha, hp, hq, hpk, hqk⟩ hk
 unfold rp
 refine Ok.bd2 (hX ⟨hl, ha⟩ (by omega)) fun n1 a1 ⟨b0, b1, ha1, _⟩ => ?_
 simp only at b0 b1 ha1
 refine Ok.ite (fun h => ?_) fun h => ?_
 ·refine Ok.bd2 (hX ⟨hl, ha1⟩ (by omega)) fun n2 a2 ⟨b2, b3, ha2, _⟩ => ?_
  simp only at b2 b3 ha2
  refine Ok.bind (Ok.getI (P := fun x => 0 ≤ x ∧ x ≤ 3) b2 (by simpa using b3) fun x _ hx => ?_) fun x hx => ?_
  ·simp only [List.mem_cons, List.not_mem_nil, or_false] at hx
   rcases hx with rfl | rfl | rfl | rfl | rfl | rfl <;> omega
  rw [gl (by simp; omega)]
  simp only [Option.bind_some]
  unfold rn
  refine Ok.bd2 (hX ⟨hl, ha2⟩ (by omega)) fun n4 a4 ⟨b4, b5, ha4, _⟩ => ?_
  simp only at b4 b5 ha4
  refine Ok.bind (Ok.getI (P := fun x => 0 ≤ x ∧ x < 9223372036854775808) b4 (by simpa using b5) fun x _ hx => ?_) fun y hy => ?_
  ·simp only [List.mem_cons, List.not_mem_nil, or_false] at hx
   rcases hx with rfl | rfl | rfl | rfl | rfl | rfl <;> omega
  rw [gl (by simp; omega)]
  simp only [Option.bind_some]
  unfold rm
  rw [gh (by omega) (by omega)]
  refine hk _ _ _ _ _ ⟨by omega, by omega, ha4, by simp; omega, by simp; omega, fun k hk => ?_, fun k hk => ?_⟩ (by omega)
  ·rcases List.mem_append.1 hk with hk | hk
   ·exact hpk k hk
   ·simp at hk; subst hk; exact hx
  ·rcases List.mem_append.1 hk with hk | hk
   ·exact hqk k hk
   ·simp at hk; subst hk; exact hy
 ·unfold rk
  refine Ok.bd2 (hX ⟨hl, ha1⟩ (by omega)) fun n2 a2 ⟨b2, b3, ha2, _⟩ => ?_
  simp only at b2 b3 ha2
  refine Ok.some ⟨⟨?_, ?_, ?_, ?_, ?_, hpk, hqk⟩, ha2⟩
  ·simp only; omega
  ·simp only; omega
  ·simp only; omega
  ·simp only; rw [gh (by omega) (by omega)]; omega
  ·simp only; rw [gh (by omega) (by omega)]; omega
def BR (n : Int) : Prop := -1 ≤ n ∧ n ≤ 7
theorem ia {c : fg} {x : fM} (hc : Cd c) (hx : x.capacities.length ≤ 8) : Ok (mB c x) fun r => BR r.1 ∧ km c.list r.2.1 ∧ r.2.2 = c.value := by
 obtain ⟨hl, ha⟩ := hc
 unfold mB
 refine Ok.bd2 (hX ⟨hl, ha⟩ (by omega)) fun n1 a1 ⟨b0, b1, ha1, _⟩ => ?_
 simp only at b0 b1 ha1
 refine Ok.ite (fun h => ?_) fun h => Ok.ite (fun h' => ?_) fun h' => ?_
 ·refine Ok.bd2 (hX ⟨hl, ha1⟩ (by omega)) fun n2 a2 ⟨b2, b3, ha2, _⟩ => ?_
  simp only at b2 b3 ha2
  rw [gh (by omega) (by omega)]
  exact Ok.some ⟨⟨by simp only; omega, by simp only; omega⟩, ha2, rfl⟩
 ·exact Ok.some ⟨⟨by simp only; omega, by simp only; omega⟩, ha1, rfl⟩
 ·refine Ok.bd2 (hX ⟨hl, ha1⟩ (by omega)) fun n2 a2 ⟨b2, b3, ha2, _⟩ => ?_
  simp only at b2 b3 ha2
  exact Ok.some ⟨⟨by simp only; omega, by simp only; omega⟩, ha2, rfl⟩
def uD (v : Int) : Prop := 0 ≤ v ∧ v < 18446744073709551616
theorem kX {c : fg} : Ok (rq c) fun r => uD r.1 ∧ r.1 = wU (c.value + 1) ∧ r.2 = wU (c.value + 1) := Ok.some ⟨F9 _, rfl, rfl⟩
structure CaseOk (c : Case) : Prop where
 ch : BR c.channel
 v0 : c.send = false → c.value = 0
 v : uD c.value
structure OpOk (o : Op) : Prop where
 kind : 1 ≤ o.kind ∧ o.kind ≤ 6
 mode : 0 ≤ o.mode ∧ o.mode ≤ 2
 plain : o.kind = 3 ∨ o.kind = 5 ∨ o.kind = 6 → o.mode = 0
 ch : BR o.channel
 dead : 0 ≤ o.deadline ∧ o.deadline ≤ 4
 timed : o.deadline ≠ 0 → o.mode = 2
 nosel : o.kind ≠ 4 → o.cases = [] ∧ o.draws = []
 sel : o.kind = 4 → o.channel = 0 ∧ o.value = 0
 lens : o.draws.length = o.cases.length ∧ o.cases.length ≤ 6
 draws : ∀ (i : Nat) (d : Int), o.draws[i]? = some d → 0 ≤ d ∧ d ≤ (i : Int)
 cases : ∀ c ∈ o.cases, CaseOk c
 val0 : o.kind ≠ 1 → o.value = 0
 val : uD o.value
structure OpPre (o : Op) : Prop where
 kind : o.kind = 1 ∨ o.kind = 2 ∨ o.kind = 4
 m0 : o.mode = 0
 d0 : o.deadline = 0
 ch : BR o.channel
 nosel : o.kind ≠ 4 → o.cases = [] ∧ o.draws = []
 sel : o.kind = 4 → o.channel = 0 ∧ o.value = 0
 lens : o.draws.length = o.cases.length ∧ o.cases.length ≤ 6
 draws : ∀ (i : Nat) (d : Int), o.draws[i]? = some d → 0 ≤ d ∧ d ≤ (i : Int)
 cases : ∀ c ∈ o.cases, CaseOk c
 val0 : o.kind ≠ 1 → o.value = 0
 val : uD o.value
theorem OpPre.ok {o : Op} (h : OpPre o) {m d : Int} (hm : 0 ≤ m ∧ m ≤ 2) (hd : 0 ≤ d ∧ d ≤ 4) (ht : d ≠ 0 → m = 2) : OpOk (Op.mk o.kind m o.channel o.value d o.cases o.draws) :=
 ⟨by have := h.kind; simp only; omega, hm, by have := h.kind; simp only; omega, h.ch, hd, ht, h.nosel, h.sel, h.lens, h.draws, h.cases, h.val0, h.val⟩
theorem qB {c : fg} {o : Op} (hc : Cd c) (ho : OpPre o) : Ok (mC c o) fun r => OpOk r.1 ∧ km c.list r.2.1 ∧ r.2.2 = c.value ∧ r.1.kind = o.kind ∧ r.1.cases = o.cases := by
 obtain ⟨hl, ha⟩ := hc
 unfold mC
 refine Ok.bd2 (hX ⟨hl, ha⟩ (by omega)) fun n1 a1 ⟨b0, b1, ha1, _⟩ => ?_
 simp only at b0 b1 ha1
 have key : ∀ t, Ok (pD n1 c a1 o t) fun r => OpOk r.1 ∧ km c.list r.2.1 ∧ r.2.2 = c.value ∧ r.1.kind = o.kind ∧ r.1.cases = o.cases := by
  intro t
  unfold pD
  refine Ok.ite (fun h => ?_) fun h => Ok.ite (fun h' => ?_) fun h' => ?_
  ·unfold lO
   exact Ok.some ⟨by rw [ho.d0]; exact ho.ok (by omega) (by omega) (by omega), ha1, rfl, rfl, rfl⟩
  ·refine Ok.bd2 (hX ⟨hl, ha1⟩ (by omega)) fun n2 a2 ⟨b2, b3, ha2, _⟩ => ?_
   simp only at b2 b3 ha2
   unfold lO
   exact Ok.some ⟨ho.ok (by omega) (by omega) (by omega), ha2, rfl, rfl, rfl⟩
  ·unfold lO
   exact Ok.some ⟨by rw [ho.d0, ho.m0]; exact ho.ok (by omega) (by omega) (by omega), ha1, rfl, rfl, rfl⟩
 exact Ok.ite (fun _ => key _) fun _ => key _
theorem uK {l : List Int} {d i : Int} (h : ∀ (j : Nat) (e : Int), l[j]? = some e → 0 ≤ e ∧ e ≤ (j : Int)) (hi : (l.length : Int) = i) (h0 : 0 ≤ d) (h1 : d < i + 1) : ∀ (j : Nat) (e : Int), (l ++ [d])[j]? = some e → 0 ≤ e ∧ e ≤ (j : Int) := by
 intro j e he
 rw [List.getElem?_append] at he
 split at he
 ·exact h j e he
 ·have hj : j - l.length = 0 := by
   rcases Nat.eq_zero_or_pos (j - l.length) with h | h
   ·exact h
   ·rw [List.getElem?_eq_none (by simp; omega)] at he; cases he
  rw [hj] at he; simp at he; subst he; omega
theorem AX {c : fg} {x : fM} {m : Int} (hc : Cd c) (hx : x.capacities.length ≤ 8) (h0 : 0 ≤ m) (hm : m ≤ 6) : Ok (m8 c x m) fun r => OpOk r.1 ∧ km c.list r.2.1 ∧ r.1.kind = 4 ∧ (r.1.cases.length : Int) ≤ m := by
 obtain ⟨hl, ha⟩ := hc
 unfold m8
 refine mR (fun i _ _ _ _ => (7 - i).toNat) (fun i a v p q => 0 ≤ i ∧ i ≤ m ∧ km c.list a ∧ (p.length : Int) = i ∧ (q.length : Int) = i ∧ (∀ k ∈ p, CaseOk k) ∧ ∀ (j : Nat) (d : Int), q[j]? = some d → 0 ≤ d ∧ d ≤ (j : Int)) (fun _ _ _ _ _ => _) ?_ BIG 0 _ _ _ _ ⟨by omega, by omega, ha, by simp, by simp, by simp, by simp⟩ (gp (by omega))
 intro i a v p q k ⟨h0, h3, ha, hp, hq, hpk, hqk⟩ hk
 unfold ot
 rw [gh (by omega) (by omega)]
 refine Ok.bd2 (hX ⟨hl, ha⟩ (by omega)) fun n1 a1 ⟨b0, b1, ha1, _⟩ => ?_
 simp only at b0 b1 ha1
 refine Ok.ite (fun h => ?_) fun h => ?_
 ·refine Ok.bd2 (hX ⟨hl, ha1⟩ (by omega)) fun n2 a2 ⟨b2, b3, ha2, _⟩ => ?_
  simp only at b2 b3 ha2
  refine Ok.bd3 (ia ⟨hl, ha2⟩ hx) fun n4 a4 v4 ⟨b4, ha4, _⟩ => ?_
  simp only at b4 ha4
  have key : ∀ a5 v5 w, km c.list a5 → uD w → (dcd (n2 = 1) = false → w = 0) → Ok (mD m i c (dcd (n2 = 1)) n4 p q x k a5 v5 w) fun r => OpOk r.1 ∧ km c.list r.2.1 ∧ r.1.kind = 4 ∧ (r.1.cases.length : Int) ≤ m := by
   intro a5 v5 w ha5 hw hw0
   unfold mD
   rw [gl (by simp; omega), gh (by omega) (by omega)]
   simp only [Option.bind_some]
   refine Ok.bd2 (hX ⟨hl, ha5⟩ (by omega)) fun n6 a6 ⟨b6, b7, ha6, _⟩ => ?_
   simp only at b6 b7 ha6
   rw [gl (by simp; omega)]
   simp only [Option.bind_some]
   unfold oq
   rw [gh (by omega) (by omega)]
   refine hk _ _ _ _ _ ⟨by omega, by omega, ha6, by simp; omega, by simp; omega, fun y hy => ?_, uK hqk hq b6 b7⟩ (by omega)
   rcases List.mem_append.1 hy with hy | hy
   ·exact hpk y hy
   ·simp at hy; subst hy; exact ⟨b4, hw0, hw⟩
  unfold or
  refine Ok.ite (fun h' => ?_) fun h' => ?_
  ·refine Ok.bd2 kX fun n6 a6 ⟨b6, _⟩ => ?_
   exact key _ _ _ ha4 b6 (fun e => by rw [h'] at e; cases e)
  ·exact key _ _ _ ha4 ⟨by omega, by omega⟩ fun _ => rfl
 ·unfold oo
  refine Ok.bd3 (qB (c := fg.mk c.list a1 _) ⟨hl, ha1⟩ ⟨.inr (.inr rfl), rfl, rfl, ⟨by simp only; omega, by simp only; omega⟩, fun h => absurd rfl h, fun _ => ⟨rfl, rfl⟩, ⟨by simp only; omega, by simp only; omega⟩, hqk, hpk, fun _ => rfl, ⟨by simp only; omega, by simp only; omega⟩⟩) fun o a7 v7 ⟨ho, ha7, _, hkd, hcs⟩ => ?_
  exact Ok.some ⟨ho, ha7, hkd, by simp only at hcs ⊢; rw [hcs]; omega⟩
theorem BZ {c : fg} {x : fM} (hc : Cd c) (hx : x.capacities.length ≤ 8) : Ok (m9 c x) fun r => OpOk r.1 ∧ km c.list r.2.1 := by
 obtain ⟨hl, ha⟩ := hc
 have chc : ∀ {k : Int} {n : Int}, BR n → k = 3 ∨ k = 5 ∨ k = 6 → OpOk (Op.mk k 0 n 0 0 [] []) := fun {k n} hn hk =>
  ⟨by simp only; omega, ⟨by simp only; omega, by simp only; omega⟩, fun _ => rfl, hn, ⟨by simp only; omega, by simp only; omega⟩, fun h => absurd rfl h, fun _ => ⟨rfl, rfl⟩, fun h => by simp only at h; omega, ⟨rfl, by simp⟩, by simp, by simp, fun _ => rfl, ⟨by simp only; omega, by simp only; omega⟩⟩
 unfold m9
 refine Ok.bd2 (hX ⟨hl, ha⟩ (by omega)) fun n1 a1 ⟨b0, b1, ha1, _⟩ => ?_
 simp only at b0 b1 ha1
 refine Ok.ite (fun h => ?_) fun h => Ok.ite (fun h' => ?_) fun h' => Ok.ite (fun h2 => ?_) fun h2 => Ok.ite (fun h3 => ?_) fun h3 => Ok.ite (fun h4 => ?_) fun h4 => ?_
 ·refine Ok.bd3 (ia (c := fg.mk c.list a1 _) ⟨hl, ha1⟩ hx) fun n2 a2 v2 ⟨b2, ha2, _⟩ => ?_
  refine Ok.bd2 kX fun n3 a3 ⟨b3, _⟩ => ?_
  refine Ok.bd3 (qB (c := fg.mk c.list a2 _) ⟨hl, ha2⟩ ⟨.inl rfl, rfl, rfl, b2, fun _ => ⟨rfl, rfl⟩, fun h => by simp at h, ⟨rfl, by simp⟩, by simp, by simp, fun h => absurd rfl h, b3⟩) fun o a4 v4 ⟨ho, ha4, _⟩ => ?_
  exact Ok.some ⟨ho, ha4⟩
 ·refine Ok.bd3 (ia (c := fg.mk c.list a1 _) ⟨hl, ha1⟩ hx) fun n2 a2 v2 ⟨b2, ha2, _⟩ => ?_
  refine Ok.bd3 (qB (c := fg.mk c.list a2 _) ⟨hl, ha2⟩ ⟨.inr (.inl rfl), rfl, rfl, b2, fun _ => ⟨rfl, rfl⟩, fun h => by simp at h, ⟨rfl, by simp⟩, by simp, by simp, fun _ => rfl, ⟨by simp only; omega, by simp only; omega⟩⟩) fun o a4 v4 ⟨ho, ha4, _⟩ => ?_
  exact Ok.some ⟨ho, ha4⟩
 ·refine Ok.bd3 (AX (c := fg.mk c.list a1 _) ⟨hl, ha1⟩ hx (by omega) (by omega)) fun o a2 v2 ⟨ho, ha2, _⟩ => ?_
  exact Ok.some ⟨ho, ha2⟩
 ·refine Ok.bd3 (ia (c := fg.mk c.list a1 _) ⟨hl, ha1⟩ hx) fun n2 a2 v2 ⟨b2, ha2, _⟩ => ?_
  exact Ok.some ⟨chc b2 (.inl rfl), ha2⟩
 ·refine Ok.bd3 (ia (c := fg.mk c.list a1 _) ⟨hl, ha1⟩ hx) fun n2 a2 v2 ⟨b2, ha2, _⟩ => ?_
  exact Ok.some ⟨chc b2 (.inr (.inl rfl)), ha2⟩
 ·refine Ok.bd3 (ia (c := fg.mk c.list a1 _) ⟨hl, ha1⟩ hx) fun n2 a2 v2 ⟨b2, ha2, _⟩ => ?_
  exact Ok.some ⟨chc b2 (.inr (.inr rfl)), ha2⟩
structure iy (l : List fJ) : Prop where
 len : l.length ≤ 1000
 buf : ∀ c ∈ l, c.buffer.length ≤ 1000
 cap : ∀ c ∈ l, c.capacity ≤ 1000
def pt : Case := Case.mk false 0 0
def jC (op : Op) : Bool := decide (op.kind = 1) || decide (op.kind = 2)
def ju (op : Op) : Case := Case.mk (dcd (op.kind = 1)) op.channel op.value
theorem py (op : Op) : sA op = some (if jC op = true then ju op else pt, jC op) := by
 unfold sA qT jC ju pt
 by_cases h1 : op.kind = 1 <;> by_cases h2 : op.kind = 2 <;> simp [h1, h2, gW]
theorem mM (op : Op) : sJ op = some (if jC op = true then ju op else pt, jC op) := by
 unfold sJ ox jC ju pt
 by_cases h1 : op.kind = 1 <;> by_cases h2 : op.kind = 2 <;> simp [h1, h2, gW]
def gI (op : Op) (i : Int) : Option Case := if jC op = true then (if i = -1 then some (ju op) else none) else if op.kind = 4 then getI op.cases i else none
def Av (op : Op) (i : Int) : Case := if jC op = true then ju op else (gI op i).getD pt
theorem mq {op : Op} (h : op.kind = 4) : jC op = false := by simp [jC, h]
theorem xw (op : Op) (i : Int) : sB op i = some (Av op i, (gI op i).isSome) := by
 unfold sB uB Av gI
 rw [py]
 simp only [jd]
 by_cases h : jC op = true
 ·rw [if_pos h, if_pos h, if_pos h, if_pos h]
  by_cases hi : i = -1 <;> simp [hi, gW]
 ·rw [if_neg h, if_neg h, if_neg h]
  by_cases h4 : op.kind = 4
  ·rw [if_pos h4, if_pos h4]
   by_cases h0 : i < 0
   ·rw [if_pos h0, gu (.inl h0)]; rfl
   ·rw [if_neg h0]
    by_cases h1 : i ≥ (op.cases.length : Int)
    ·rw [ik.2 h1, gu (.inr h1)]; rfl
    ·rw [js.2 h1, fG (by omega) (by omega)]; rfl
  ·rw [if_neg h4, if_neg h4]; rfl
theorem po (op : Op) (r : Result) : ∃ x, ni op r = some (x, (gI op r.case_).isSome) ∧ ∀ y, gI op r.case_ = some y → x = y := by
 unfold ni rU gI
 rw [mM]
 simp only [jd]
 by_cases h4 : op.kind = 4
 ·rw [if_pos h4, mq h4, if_pos h4]
  simp only [Bool.false_eq_true, if_false]
  by_cases h0 : r.case_ < 0
  ·rw [if_pos h0, gu (.inl h0)]; exact ⟨_, rfl, fun y h => by cases h⟩
  ·rw [if_neg h0]
   by_cases h1 : r.case_ ≥ (op.cases.length : Int)
   ·rw [ik.2 h1, gu (.inr h1)]; exact ⟨_, rfl, fun y h => by cases h⟩
   ·rw [js.2 h1, fG (by omega) (by omega)]; exact ⟨_, rfl, fun y h => by cases h; rfl⟩
 ·rw [if_neg h4, if_neg h4]
  by_cases h : jC op = true
  ·rw [if_pos h, if_pos h, if_pos h]
   by_cases hi : r.case_ = -1
   ·exact ⟨ju op, by simp [hi, gW], fun y hy => by rw [if_pos hi] at hy; cases hy; rfl⟩
   ·exact ⟨ju op, by simp [hi, gW], fun y hy => by rw [if_neg hi] at hy; cases hy⟩
  ·rw [if_neg h, if_neg h]
   rw [Bool.not_eq_true] at h
   rw [h]
   exact ⟨_, rfl, fun y hy => by simp at hy⟩
theorem kC {op : Op} {i : Int} {x : Case} (h : gI op i = some x) : Av op i = x := by
 unfold Av
 by_cases hs : jC op = true
 ·rw [if_pos hs]
  unfold gI at h
  rw [if_pos hs] at h
  split at h
  ·cases h; rfl
  ·cases h
 ·rw [if_neg hs, h]; rfl
def iK (l : List fJ) (i : Int) : fJ := (getI l i).getD (fJ.mk 0 [] false)
theorem qz (l : List fJ) (i : Int) : m6 l i = some (iK l i, (getI l i).isSome) := by
 unfold m6 qU iK
 by_cases h0 : i < 0
 ·rw [if_pos h0, gu (.inl h0)]; rfl
 ·rw [if_neg h0]
  by_cases h1 : i ≥ (l.length : Int)
  ·rw [ik.2 h1, gu (.inr h1)]; rfl
  ·rw [js.2 h1, fG (by omega) (by omega)]; rfl
theorem jW (l : List fJ) (i : Int) : qh l i = some (getI l i).isSome := by
 unfold qh
 by_cases h0 : i ≥ 0
 ·rw [if_pos h0]
  by_cases h1 : i < (l.length : Int)
  ·rw [ik.2 h1, fG h0 h1]; rfl
  ·rw [js.2 h1, gu (.inr (by omega))]; rfl
 ·rw [if_neg h0, gu (.inl (by omega))]; rfl
def t6 (l : List fJ) (x : Case) : Bool := match getI l x.channel with
 | none => false
 | some c => if x.send = true then c.closed || decide ((c.buffer.length : Int) < c.capacity) else c.closed || decide ((c.buffer.length : Int) > 0)
theorem B8 (l : List fJ) (x : Case) : qX l x = some (t6 l x) := by
 unfold qX t6
 rw [qz]
 simp only [jd, iK]
 cases getI l x.channel with
 | none => rfl
 | some c => cases hs : x.send <;> cases hc : c.closed <;> simp [gW, hc]
theorem xB (l : List fJ) (x : Case) : pH l x = some (t6 l x) := by
 unfold pH t6
 rw [jW]
 simp only [Option.bind_some]
 cases getI l x.channel with
 | none => rfl
 | some c => cases hs : x.send <;> cases hc : c.closed <;> simp [gW, hc]
def gK (r : Result) (v n : Bool) : Bool := (v || (decide (r.value = 0) && !r.ok)) && (n || decide (r.number = 0))
theorem kw (r : Result) (v n : Bool) : mr r v n = some (gK r v n) := by
 unfold mr nj gK
 cases v <;> cases n <;> by_cases h : r.value = 0 <;> cases h2 : r.ok <;> simp [h, gW]
theorem Dz {l : List fJ} (h : l.length ≤ 1000) : qW l = some l := by
 unfold qW; rw [gl (by simp; omega)]; rfl
theorem xu {l : List fJ} {i : Int} {c c' : fJ} (h : l.length ≤ 1000) (hi : getI l i = some c) : mz l i c' = some (f8 l i c') := by
 unfold mz; rw [Dz h]; simp only [Option.bind_some]; rw [hi]; rfl
theorem zP {l : List fJ} {i : Int} {c c' : fJ} (h : l.length ≤ 1000) (hi : getI l i = some c) : sR l i c' = some (f8 l i c') := by
 unfold sR; rw [gl (by simp; omega)]; simp only [Option.bind_some, List.nil_append]; rw [hi]; rfl
def iz (l : List fJ) (cs : List Case) : Bool := cs.any (t6 l)
theorem DK {l : List fJ} {cs : List Case} (hc : cs.length ≤ 1000) : Ok (qY cs l) fun r => -1 ≤ r ∧ (r ≥ 0 ↔ iz l cs = true) := by
 unfold qY
 refine jK (fun i => ((cs.length : Int) - i).toNat) (fun i => 0 ≤ i ∧ i ≤ (cs.length : Int) ∧ (iz l cs = true ↔ iz l (cs.drop i.toNat) = true)) (fun _ => _) ?_ BIG 0 ⟨by omega, by omega, by simp⟩ (gp (by omega))
 intro i k ⟨h0, h1, h2⟩ hk
 unfold vp
 refine Ok.ite (fun h => ?_) fun h => ?_
 ·have hg := fG h0 h
  rw [hg]
  simp only [Option.bind_some]
  rw [ij hg] at h2
  generalize cs[i.toNat]'(by omega) = x at *
  unfold vn
  rw [B8]
  simp only [Option.bind_some]
  refine Ok.ite (fun hr => Ok.some ⟨by omega, ?_⟩) fun hr => ?_
  ·rw [h2]; simp only [iz, List.any_cons, hr, Bool.true_or]; exact ⟨fun _ => trivial, fun _ => h0⟩
  ·rw [gh (by omega) (by omega)]
   refine hk _ ⟨by omega, by omega, ?_⟩ (by omega)
   rw [h2]; simp only [iz, List.any_cons]; simp [hr]
 ·unfold vo
  refine Ok.some ⟨by omega, ?_⟩
  rw [h2, List.drop_eq_nil_of_le (by omega)]
  simp [iz]
theorem ym {l : List fJ} {cs : List Case} (hc : cs.length ≤ 1000) : nZ cs l = some (iz l cs) := by
 unfold nZ
 obtain ⟨r, hr, h1, h2⟩ := DK (l := l) hc
 rw [hr]
 simp only [Option.bind_some]
 congr 1
 rw [gW, Bool.eq_iff_iff, decide_eq_true_iff]; exact h2
def casesS (op : Op) : List Case := if op.kind = 4 then op.cases else if jC op = true then [ju op] else []
theorem jv (op : Op) : np op = some (casesS op) := by
 unfold np casesS
 rw [mM]
 by_cases h : op.kind = 4
 ·rw [if_pos h, if_pos h]
 ·rw [if_neg h, if_neg h]
  simp only [jd]
  by_cases h2 : jC op = true
  ·simp only [h2, if_true]
  ·rw [if_neg h2, if_neg h2]
theorem Ce (op : Op) : nY op = some (if jC op = true then [ju op] else op.cases) := by
 unfold nY
 rw [py]
 simp only [jd]
 by_cases h2 : jC op = true
 ·simp only [h2, if_true]
 ·rw [if_neg h2, if_neg h2]
theorem zz {l : List fJ} {op : Op} (hc : (casesS op).length ≤ 1000) : rW l op = some (!iz l (casesS op)) := by
 refine Ok.eq ?_
 unfold rW
 rw [jv]
 simp only [Option.bind_some]
 generalize casesS op = cs at *
 refine jK (fun i => ((cs.length : Int) - i).toNat) (fun i => 0 ≤ i ∧ i ≤ (cs.length : Int) ∧ iz l cs = iz l (cs.drop i.toNat)) (fun _ => _) ?_ BIG 0 ⟨by omega, by omega, by simp⟩ (gp (by omega))
 intro i k ⟨h0, h1, h2⟩ hk
 unfold wb
 refine Ok.ite (fun h => ?_) fun h => ?_
 ·have hg := fG h0 h
  rw [hg]
  simp only [Option.bind_some]
  rw [ij hg] at h2
  generalize cs[i.toNat]'(by omega) = x at *
  rw [xB]
  simp only [Option.bind_some]
  refine Ok.ite (fun hr => Ok.some ?_) fun hr => ?_
  ·rw [h2]; simp [iz, hr]
  ·rw [gh (by omega) (by omega)]
   refine hk _ ⟨by omega, by omega, ?_⟩ (by omega)
   rw [h2]; simp [iz, hr]
 ·unfold wa
  refine Ok.some ?_
  rw [h2, List.drop_eq_nil_of_le (by omega)]
  simp [iz]
structure OpM (op : Op) : Prop where
 mode : jC op = false → op.kind ≠ 4 → op.mode = 0
 nc : op.kind ≠ 4 → op.cases = []
 len : op.cases.length ≤ 1000
theorem OpOk.m {op : Op} (h : OpOk op) : OpM op := ⟨fun h1 h2 => h.plain (by
 have := h.kind
 simp [jC] at h1
 omega), fun h2 => (h.nosel h2).1, by have := h.lens; omega⟩
theorem OpM.casesS {op : Op} (h : OpM op) : (if jC op = true then [ju op] else op.cases) = Hx.casesS op := by
 unfold Hx.casesS
 by_cases h4 : op.kind = 4
 ·rw [if_pos h4, mq h4]; rfl
 ·rw [if_neg h4, h.nc h4]
theorem OpM.casesLen {op : Op} (h : OpM op) : (Hx.casesS op).length ≤ 1000 := by
 unfold Hx.casesS
 have := h.len
 split
 ·omega
 ·split <;> simp
def jE (l : List fJ) (x : Case) (r : Result) : List fJ × Bool := match getI l x.channel with
 | none => ([], false)
 | some c =>
  if r.kind = 1 then (if (x.send && (gK r false false && (!c.closed && decide ((c.buffer.length : Int) < c.capacity)))) = true then (f8 l x.channel (fJ.mk c.capacity (c.buffer ++ [x.value]) c.closed), true) else ([], false))
  else if r.kind = 5 then (if (x.send && (gK r false false && c.closed)) = true then (l, true) else ([], false))
  else if r.kind = 2 then (if x.send = true then ([], false) else if r.ok = true then (if (decide (r.number = 0) && decide (getI c.buffer 0 = some r.value)) = true then (f8 l x.channel (fJ.mk c.capacity (c.buffer.drop 1) c.closed), true) else ([], false))
   else (if (decide (r.number = 0) && (decide (r.value = 0) && (c.closed && decide (c.buffer.length = 0)))) = true then (l, true) else ([], false)))
  else ([], false)
def kn (l : List fJ) (op : Op) (r : Result) : Bool := match getI l op.channel with
 | none => true
 | some c => c.closed
def lW (l : List fJ) (op : Op) : Int := match getI l op.channel with
 | none => 0
 | some c => if op.kind = 6 then c.capacity else (c.buffer.length : Int)
def ge (l : List fJ) (op : Op) (r : Result) : List fJ × Bool :=
 if r.kind = 1 ∨ r.kind = 2 ∨ (r.kind = 5 ∧ op.kind ≠ 3) then (match gI op r.case_ with
  | none => ([], false)
  | some x => jE l x r)
 else if r.kind = 5 then (if (decide (r.case_ = -1) && (gK r false false && kn l op r)) = true then (l, true) else ([], false))
 else if r.kind = 6 then (if (decide (op.kind = 3) && (decide (r.case_ = -1) && (gK r false false && !kn l op r))) = true then (match getI l op.channel with
  | none => ([], false)
  | some c => (f8 l op.channel (fJ.mk c.capacity c.buffer true), true)) else ([], false))
 else if r.kind = 3 then (if (decide (op.mode = 1) && (decide (r.case_ = -1) && (gK r false false && !iz l (casesS op)))) = true then (l, true) else ([], false))
 else if r.kind = 4 then (if (decide (op.mode = 2) && (decide (r.case_ = -1) && gK r false false)) = true then (l, true) else ([], false))
 else if r.kind = 7 then (if ((decide (op.kind = 5) || decide (op.kind = 6)) && (decide (r.case_ = -1) && (gK r false true && decide (r.number = lW l op)))) = true then (l, true) else ([], false))
 else ([], false)
theorem Bo {op : Op} (h : jC op = true) : op.kind = 1 ∨ op.kind = 2 := by simpa [jC] using h
theorem ET {l : List Int} (h : l.length ≤ 1000) : qV l = some l := by
 unfold qV; rw [gl (by simp; omega)]; rfl
theorem FY {l : List fJ} {x : Case} {r : Result} (hl : iy l) (hk : r.kind = 1 ∨ r.kind = 2 ∨ r.kind = 5) : ∃ m, sW l x r = some (m, (jE l x r).2) ∧ ((jE l x r).2 = true → m = (jE l x r).1) := by
 unfold sW jE
 rw [jW]
 simp only [Option.bind_some]
 cases hc : getI l x.channel with
 | none => exact ⟨[], rfl, fun h => by cases h⟩
 | some c =>
  have hbl := hl.buf c (fV hc)
  have hcl := hl.cap c (fV hc)
  simp only [Option.isSome_some, if_true, Option.bind_some]
  rcases hk with hk | hk | hk
  ·rw [if_pos hk, if_pos hk]
   unfold sV oP v8 sU pL sT
   cases hs : x.send
   ·simp [hk]
   ·rw [gl (by simp; omega)]
    simp only [kw, if_true, Option.bind_some, List.nil_append]
    rw [gl (by simp; omega)]
    simp only [Option.bind_some]
    rw [zP hl.len hc]
    by_cases hr : (c.buffer.length : Int) < c.capacity
    ·rw [show dcd ((c.buffer.length : Int) ≥ c.capacity) = false from js.2 (by omega)]
     by_cases ho : gK r false false = true <;> cases hcd : c.closed <;> simp [ho, hcd, hr]
    ·rw [show dcd ((c.buffer.length : Int) ≥ c.capacity) = true from ik.2 (by omega)]
     by_cases ho : gK r false false = true <;> cases hcd : c.closed <;> simp [ho, hcd, hr]
  ·rw [if_neg (by omega), if_neg (by omega), if_neg (by omega), if_pos hk]
   unfold sV sU pL oQ sT sS
   simp only [kw, Option.bind_some]
   have h15 : ¬ r.kind = 5 := by omega
   cases hs : x.send
   ·cases hok : r.ok
    ·simp [hk, h15, gK]
     by_cases hn : r.number = 0 <;> by_cases hv : r.value = 0 <;> cases hcd : c.closed <;> by_cases hb : c.buffer = [] <;> simp [hn, hv, hcd, hb, gW]
    ·simp [hk, h15, gK]
     by_cases hn : r.number = 0
     ·simp [hn]
      by_cases hb : (c.buffer.length : Int) = 0
      ·have : c.buffer = [] := List.eq_nil_of_length_eq_zero (by omega)
       simp [this, getI]
      ·rw [fG (l := c.buffer) (i := 0) (by omega) (by omega), ji (by omega) (by omega) (by omega)]
       simp [hb, gW]
       rw [zP hl.len hc]
       have hne : ¬ c.buffer = [] := fun e => hb (by rw [e]; rfl)
       by_cases hv : c.buffer[0]'(by omega) = r.value <;> simp [hv, hne]
     ·simp [hn]
   ·simp [hk, h15]
  ·have h1 : ¬ r.kind = 1 := by omega
   have h2 : ¬ r.kind = 2 := by omega
   rw [if_neg h1, if_neg h1, if_pos hk]
   unfold sV sU pL sT
   simp only [kw, Option.bind_some]
   cases hs : x.send
   ·simp [hk, h2]
   ·simp [hk]
    cases ho : gK r false false <;> cases hcd : c.closed <;> simp
theorem FSq {o : Option (List fJ × Bool)} {a : List fJ × Bool} (h : ∃ m, o = some (m, a.2) ∧ (a.2 = true → m = a.1)) (h0 : a.2 = false → a.1 = []) : (bd2 o fun x b => if b = true then some (x, true) else some ([], false)) = some a := by
 obtain ⟨m, h1, h2⟩ := h
 obtain ⟨a1, a2⟩ := a
 rw [h1]
 simp only [jd]
 cases a2
 ·simp only [Bool.false_eq_true, if_false]
  rw [show a1 = [] from h0 rfl]
 ·simp only [if_true]
  rw [show m = a1 from h2 rfl]
theorem EV (l : List fJ) (x : Case) (r : Result) : (jE l x r).2 = false → (jE l x r).1 = [] := by
 unfold jE
 repeat' split
 all_goals simp
section
variable {l : List fJ} {op : Op} {r : Result}
theorem ky (h : r.kind = 1 ∨ r.kind = 2 ∨ (r.kind = 5 ∧ op.kind ≠ 3)) : ge l op r = (match gI op r.case_ with
  | none => ([], false)
  | some x => jE l x r) := by unfold ge; rw [if_pos h]
theorem xT (h : r.kind = 5) (h3 : op.kind = 3) : ge l op r = if (decide (r.case_ = -1) && (gK r false false && kn l op r)) = true then (l, true) else ([], false) := by
 unfold ge; rw [if_neg (by omega), if_pos h]
theorem xU (h : r.kind = 6) : ge l op r = if (decide (op.kind = 3) && (decide (r.case_ = -1) && (gK r false false && !kn l op r))) = true then (match getI l op.channel with
  | none => ([], false)
  | some c => (f8 l op.channel (fJ.mk c.capacity c.buffer true), true)) else ([], false) := by
 unfold ge; rw [if_neg (by omega), if_neg (by omega), if_pos h]
theorem xQ (h : r.kind = 3) : ge l op r = if (decide (op.mode = 1) && (decide (r.case_ = -1) && (gK r false false && !iz l (casesS op)))) = true then (l, true) else ([], false) := by
 unfold ge; rw [if_neg (by omega), if_neg (by omega), if_neg (by omega), if_pos h]
theorem xR (h : r.kind = 4) : ge l op r = if (decide (op.mode = 2) && (decide (r.case_ = -1) && gK r false false)) = true then (l, true) else ([], false) := by
 unfold ge; rw [if_neg (by omega), if_neg (by omega), if_neg (by omega), if_neg (by omega), if_pos h]
theorem xW (h : r.kind = 7) : ge l op r = if ((decide (op.kind = 5) || decide (op.kind = 6)) && (decide (r.case_ = -1) && (gK r false true && decide (r.number = lW l op)))) = true then (l, true) else ([], false) := by
 unfold ge; rw [if_neg (by omega), if_neg (by omega), if_neg (by omega), if_neg (by omega), if_neg (by omega), if_pos h]
theorem uF (h : r.kind < 1 ∨ 7 < r.kind) : ge l op r = ([], false) := by
 unfold ge; rw [if_neg (by omega), if_neg (by omega), if_neg (by omega), if_neg (by omega), if_neg (by omega), if_neg (by omega)]
end
theorem jM {l : List fJ} {op : Op} {r : Result} (hl : iy l) (ho : OpM op) : pO l op r = some (ge l op r) := by
 have key : ∀ (t : Bool), (t = (jC op || decide (op.kind = 4))) → (bd2 (sZ l r op t) fun x b => if b = true then some (x, true) else some ([], false)) = some (ge l op r) := by
  intro t ht
  have hchosen : ∀ (b : Bool), (r.kind = 1 ∨ r.kind = 2 ∨ (r.kind = 5 ∧ op.kind ≠ 3)) → (bd2 (bd2 (ni op r) fun x299 x300 => (if x300 = true then bd2 (sW l x299 r) fun x305 x306 => some (x305, x306) else some ([], false))) fun x b => if b = true then some (x, true) else some ([], false)) = some (ge l op r) := by
   intro _ hk
   obtain ⟨x, hx, hxe⟩ := po op r
   rw [hx, ky hk]
   simp only [jd]
   cases hc : gI op r.case_ with
   | none => rfl
   | some y =>
    obtain rfl := hxe y hc
    simp only [Option.isSome_some, if_true]
    obtain ⟨m, h1, h2⟩ := FY (x := x) (r := r) hl (by omega)
    refine FSq ⟨m, ?_, h2⟩ (EV _ _ _)
    rw [h1]; rfl
  unfold sZ
  have hJ2 : ∀ b, (b = true ↔ (r.kind = 1 ∨ r.kind = 2)) → (bd2 (oS l t r op b) fun x b => if b = true then some (x, true) else some ([], false)) = some (ge l op r) := by
   intro b hb
   unfold oS
   by_cases h12 : r.kind = 1 ∨ r.kind = 2
   ·rw [if_pos (hb.2 h12)]
    exact hchosen b (by omega)
   rw [if_neg (fun h => h12 (hb.1 h))]
   by_cases h5 : r.kind = 5
   ·rw [if_pos h5]
    by_cases h3 : op.kind = 3
    ·rw [if_pos h3, xT h5 h3]
     unfold sX
     simp only [kw, jW, Option.bind_some]
     by_cases hca : r.case_ = -1
     ·cases hon : gK r false false
      ·simp [hca, hon]
      ·cases hc : getI l op.channel with
       | none => simp [hca, hon, kn, hc]
       | some c => cases hcd : c.closed <;> simp [hca, hon, kn, hc, hcd]
     ·simp [hca]
    ·rw [if_neg h3]
     exact hchosen b (by omega)
   rw [if_neg h5]
   by_cases h6 : r.kind = 6
   ·rw [if_pos h6, xU h6]
    unfold pM
    simp only [kw, jW, Option.bind_some]
    by_cases h3 : op.kind = 3
    ·by_cases hca : r.case_ = -1
     ·cases hon : gK r false false
      ·simp [hca, hon, h3]
      ·cases hc : getI l op.channel with
       | none => simp [hca, hon, kn, hc, h3]
       | some c => cases hcd : c.closed <;> simp [hca, hon, kn, hc, hcd, h3, zP hl.len hc]
     ·simp [hca, h3]
    ·simp [h3]
   rw [if_neg h6]
   by_cases h3 : r.kind = 3
   ·rw [if_pos h3, xQ h3]
    unfold pN
    simp only [kw, Option.bind_some, zz ho.casesLen]
    by_cases hm : op.mode = 1
    ·have htt : t = true := by
      rw [ht]
      cases hsr : jC op
      ·by_cases h4 : op.kind = 4
       ·simp [h4]
       ·have := ho.mode hsr h4; omega
      ·rfl
     by_cases hca : r.case_ = -1
     ·cases hon : gK r false false <;> cases har : iz l (casesS op) <;> simp [hm, htt, hca, hon, har]
     ·simp [hca, hm]
    ·cases t <;> simp [hm]
   rw [if_neg h3]
   by_cases h4 : r.kind = 4
   ·rw [if_pos h4, xR h4]
    unfold sY
    simp only [kw, Option.bind_some]
    by_cases hm : op.mode = 2
    ·have htt : t = true := by
      rw [ht]
      cases hsr : jC op
      ·by_cases h4 : op.kind = 4
       ·simp [h4]
       ·have := ho.mode hsr h4; omega
      ·rfl
     by_cases hca : r.case_ = -1
     ·cases hon : gK r false false <;> simp [hm, htt, hca, hon]
     ·simp [hca, hm]
    ·cases t <;> simp [hm]
   rw [if_neg h4]
   by_cases h7 : r.kind = 7
   ·rw [if_pos h7, xW h7]
    unfold oR mF
    simp only [kw, jW, Option.bind_some]
    by_cases hca : r.case_ = -1
    ·cases hon : gK r false true
     ·cases hc : getI l op.channel <;> by_cases k5 : op.kind = 5 <;> by_cases k6 : op.kind = 6 <;> simp [hca, hon, hc, k5, k6]
     ·cases hc : getI l op.channel with
      | none => by_cases k5 : op.kind = 5 <;> by_cases k6 : op.kind = 6 <;> simp [hca, hon, hc, k5, k6, lW, gW] <;> (split <;> rfl)
      | some c => by_cases k5 : op.kind = 5 <;> by_cases k6 : op.kind = 6 <;> simp [hca, hon, hc, k5, k6, lW, gW] <;> (split <;> rfl)
    ·cases hc : getI l op.channel <;> by_cases k5 : op.kind = 5 <;> by_cases k6 : op.kind = 6 <;> simp [hca, k5, k6]
   ·rw [if_neg h7, uF (by omega)]; rfl
  by_cases h1 : r.kind = 1
  ·rw [if_pos h1]
   exact hJ2 _ (by rw [ik]; omega)
  ·rw [if_neg h1]
   exact hJ2 _ (by rw [ik]; omega)
 unfold pO wc
 by_cases h1 : op.kind = 1
 ·rw [if_pos h1]; exact key _ (by simp [jC, h1])
 ·rw [if_neg h1]
  by_cases h2 : op.kind = 2
  ·rw [if_pos h2]; exact key _ (by simp [jC, h2])
  ·rw [if_neg h2]; exact key _ (by simp [jC, h1, h2, gW])
theorem lU {op : Op} {i : Int} {x : Case} (h : gI op i = some x) : op.kind ≠ 3 := by
 unfold gI at h
 split at h
 ·rename_i hs
  have := Bo hs
  omega
 ·split at h
  ·omega
  ·cases h
theorem l8 {l : List fJ} {op : Op} {r : Result} (hl : iy l) (ho : OpM op) : oa l op r = some (ge l op r) := by
 unfold oa
 rw [xw]
 simp only [jd]
 have e1 : ∀ k, (r = Result.mk k r.case_ 0 false 0) = (r.kind = k ∧ gK r false false = true) := fun k => by
  obtain ⟨a, b, c, d, e⟩ := r
  simp [gK]
  intros; rw [and_assoc]
 have e2 : (r = Result.mk 2 r.case_ r.value true 0) = (r.kind = 2 ∧ r.ok = true ∧ r.number = 0) := by
  obtain ⟨a, b, c, d, e⟩ := r; simp
 have e6 : ∀ k, (r = Result.mk k (-1) 0 false 0) = (r.kind = k ∧ r.case_ = -1 ∧ gK r false false = true) := fun k => by
  obtain ⟨a, b, c, d, e⟩ := r
  simp [gK]
  intros; rw [and_assoc]
 have e7 : (r = Result.mk 7 (-1) 0 false r.number) = (r.kind = 7 ∧ r.case_ = -1 ∧ gK r false true = true) := by
  obtain ⟨a, b, c, d, e⟩ := r
  simp [gK]
 have hz : gK r false false = true → r.value = 0 ∧ r.ok = false ∧ r.number = 0 := fun h => by
  simp [gK] at h; exact ⟨h.1.1, h.1.2, h.2⟩
 unfold q7
 simp only [qz, jd, e1, e2, e6, e7]
 by_cases h1 : r.kind = 1
 ·rw [ky (.inl h1)]
  cases hc : gI op r.case_ with
  | none =>
   by_cases h3 : op.kind = 3 <;> cases hon : gK r false false <;> simp [h1, h3, hon, iU, m7]
  | some x =>
   have h3 := lU hc
   rw [kC hc, if_neg h3]
   unfold jE
   cases hg : getI l x.channel with
   | none => cases hon : gK r false false <;> cases hs : x.send <;> simp [h1, hon, hs, hg, iU, m7]
   | some c =>
    have hbl := hl.buf c (fV hg)
    have hf : iK l x.channel = c := by unfold iK; rw [hg]; rfl
    have hp : ∀ c', mz l x.channel c' = some (f8 l x.channel c') := fun c' => xu hl.len hg
    have ha : app c.buffer [x.value] = some (c.buffer ++ [x.value]) := gl (by simp; omega)
    cases hon : gK r false false <;> cases hs : x.send <;> cases hcd : c.closed <;> by_cases hr : (c.buffer.length : Int) < c.capacity <;>
     simp [h1, hon, hs, hcd, hr, hg, hf, hp, ha, ET hbl, vm, iU, m7, vq, gW]
 by_cases h2 : r.kind = 2
 ·rw [ky (.inr (.inl h2))]
  cases hc : gI op r.case_ with
  | none =>
   by_cases h3 : op.kind = 3 <;> cases hok : r.ok <;> by_cases hn : r.number = 0 <;> cases hon : gK r false false <;> simp [h2, h3, hok, hn, hon, iU, qg, lM]
  | some x =>
   have h3 := lU hc
   rw [kC hc, if_neg h3]
   unfold jE
   cases hg : getI l x.channel with
   | none => cases hok : r.ok <;> by_cases hn : r.number = 0 <;> cases hon : gK r false false <;> cases hs : x.send <;> simp [h2, hok, hn, hon, hs, hg, iU, qg, lM]
   | some c =>
    have hbl := hl.buf c (fV hg)
    have hf : iK l x.channel = c := by unfold iK; rw [hg]; rfl
    have hp : ∀ c', mz l x.channel c' = some (f8 l x.channel c') := fun c' => xu hl.len hg
    by_cases hn : r.number = 0
    ·cases hok : r.ok
     ·cases hon : gK r false false
      ·have hv : ¬ r.value = 0 := fun hv => by simp [gK, hn, hok, hv] at hon
       cases hs : x.send <;> simp [h2, hon, hs, hok, hn, hv, hg, iU, lM]
      ·have hv := (hz hon).1
       cases hs : x.send <;> cases hcd : c.closed <;> by_cases hb : c.buffer = [] <;> simp [h2, hon, hs, hok, hn, hv, hcd, hb, hg, hf, iU, lM]
     ·have hon : gK r false false = false := by simp [gK, hok]
      cases hs : x.send
      ·by_cases hb : c.buffer = []
       ·have hg0 : getI c.buffer 0 = none := by rw [hb]; rfl
        simp [h2, hon, hs, hok, hn, hg, hf, hg0, iU, qg, show ¬ 0 < c.buffer.length by rw [hb]; simp]
       ·have hpos : 0 < c.buffer.length := List.length_pos_iff.2 hb
        have hgb := fG (l := c.buffer) (i := 0) (by omega) (by omega)
        have hcut : kG c.buffer 1 (c.buffer.length : Int) = some (c.buffer.drop 1) := by
         rw [ji (by omega) (by omega) (by omega)]; simp
        by_cases hv : c.buffer[0]'hpos = r.value <;> simp [h2, hon, hs, hok, hn, hg, hf, hgb, hp, hv, hpos, hcut, iU, qg, gW]
      ·simp [h2, hon, hs, hok, hn, hg, iU, qg]
    ·have hon : gK r false false = false := by simp [gK, hn]
     cases hs : x.send <;> cases hok : r.ok <;> simp [h2, hon, hs, hok, hn, hg, iU]
 by_cases h5 : r.kind = 5
 ·by_cases h3 : op.kind = 3
  ·rw [xT h5 h3, if_pos h3]
   have hnc : gI op r.case_ = none := by
    cases hc : gI op r.case_ with
    | none => rfl
    | some x => exact absurd h3 (lU hc)
   cases hon : gK r false false
   ·simp [h5, hon, iU]
   ·by_cases hca : r.case_ = -1
    ·cases hg : getI l op.channel with
     | none => simp [h5, hon, hca, h3, hg, hnc, kn, kA]
     | some c =>
      have hf : iK l op.channel = c := by unfold iK; rw [hg]; rfl
      cases hcd : c.closed <;> simp [h5, hon, hca, h3, hg, hnc, hf, hcd, kn, kA, iU]
    ·simp [h5, hon, hca, h3, hnc, kA, iU]
  ·rw [ky (.inr (.inr ⟨h5, h3⟩)), if_neg h3]
   cases hc : gI op r.case_ with
   | none => cases hon : gK r false false <;> simp [h5, hon, h3, iU, kA]
   | some x =>
    rw [kC hc]
    unfold jE
    cases hg : getI l x.channel with
    | none => cases hon : gK r false false <;> cases hs : x.send <;> simp [h5, h3, hon, hs, hg, iU, kA]
    | some c =>
     have hf : iK l x.channel = c := by unfold iK; rw [hg]; rfl
     cases hon : gK r false false <;> cases hs : x.send <;> cases hcd : c.closed <;> simp [h5, h3, hon, hs, hg, hf, hcd, iU, kA]
 have hsame : ∀ (a b : Option (List fJ × Bool)), (if op.kind = 3 then a else b) = (if op.kind = 3 then a else b) := fun _ _ => rfl
 by_cases h6 : r.kind = 6
 ·rw [xU h6]
  by_cases h3 : op.kind = 3
  ·rw [if_pos h3]
   by_cases hca : r.case_ = -1
   ·cases hon : gK r false false
    ·simp [h6, hon, hca, h3, iU]
    ·cases hg : getI l op.channel with
     | none => simp [h6, hon, hca, h3, hg, kn, pA, iU]
     | some c =>
      have hf : iK l op.channel = c := by unfold iK; rw [hg]; rfl
      have hp : ∀ c', mz l op.channel c' = some (f8 l op.channel c') := fun c' => xu hl.len hg
      cases hcd : c.closed <;> simp [h6, hon, hca, h3, hg, hf, hp, hcd, kn, pA, iU]
   ·simp [h6, hca, iU]
  ·rw [if_neg h3]
   simp [h6, h3, iU, pA]
 by_cases h3 : r.kind = 3
 ·rw [xQ h3]
  have hcc : ∀ cs, cs = casesS op → nZ cs l = some (iz l (casesS op)) := fun cs e => by rw [e]; exact ym ho.casesLen
  by_cases k3 : op.kind = 3 <;> by_cases hca : r.case_ = -1 <;> cases hon : gK r false false <;> by_cases hm : op.mode = 1 <;> cases har : iz l (casesS op) <;>
   simp [h3, k3, hca, hon, hm, har, Ce, ho.casesS, hcc, iU, qZ]
 by_cases h4 : r.kind = 4
 ·rw [xR h4]
  by_cases k3 : op.kind = 3 <;> by_cases hca : r.case_ = -1 <;> cases hon : gK r false false <;> by_cases hm : op.mode = 2 <;> simp [h4, k3, hca, hon, hm, iU]
 by_cases h7 : r.kind = 7
 ·rw [xW h7]
  by_cases hca : r.case_ = -1
  ·cases hon : gK r false true
   ·by_cases k3 : op.kind = 3 <;> simp [h7, hca, hon, iU]
   ·cases hg : getI l op.channel with
    | none =>
     have hf : iK l op.channel = fJ.mk 0 [] false := by unfold iK; rw [hg]; rfl
     by_cases k3 : op.kind = 3 <;> by_cases k5 : op.kind = 5 <;> by_cases k6 : op.kind = 6 <;> by_cases hn : r.number = 0 <;> simp [h7, hca, hon, k3, k5, k6, hf, hg, hn, lW, iU, lN, gW] <;> omega
    | some c =>
     have hf : iK l op.channel = c := by unfold iK; rw [hg]; rfl
     by_cases k5 : op.kind = 5
     ·by_cases hn : r.number = (c.buffer.length : Int) <;> simp [h7, hca, hon, k5, hf, hg, hn, lW, iU, lN, gW]
     ·by_cases k6 : op.kind = 6
      ·by_cases hn : r.number = c.capacity <;> simp [h7, hca, hon, k6, hf, hg, hn, lW, iU, lN, gW]
      ·by_cases k3 : op.kind = 3 <;> simp [h7, hca, hon, k3, k5, k6, hf, hg, lW, iU, lN, gW]
  ·by_cases k3 : op.kind = 3 <;> simp [h7, hca, iU]
 ·rw [uF (by omega)]
  by_cases k3 : op.kind = 3 <;> simp [h1, h2, h3, h4, h5, h6, h7, iU]
theorem xF {l : List fJ} {i : Int} {c : fJ} (hl : iy l) (h1 : c.buffer.length ≤ 1000) (h2 : c.capacity ≤ 1000) : iy (f8 l i c) := by
 refine ⟨by rw [gd]; exact hl.len, fun x hx => ?_, fun x hx => ?_⟩
 ·rcases iM hx with rfl | hx
  ·exact h1
  ·exact hl.buf x hx
 ·rcases iM hx with rfl | hx
  ·exact h2
  ·exact hl.cap x hx
theorem pj {l : List fJ} {op : Op} {r : Result} (hl : iy l) (h : (ge l op r).2 = true) : iy (ge l op r).1 ∧ (ge l op r).1.length = l.length := by
 have hdo : ∀ x, (jE l x r).2 = true → iy (jE l x r).1 ∧ (jE l x r).1.length = l.length := by
  intro x h
  unfold jE at h ⊢
  cases hg : getI l x.channel with
  | none => rw [hg] at h; simp at h
  | some c =>
   rw [hg] at h
   have hb := hl.buf c (fV hg)
   have hc := hl.cap c (fV hg)
   simp only at h ⊢
   repeat' split at h
   all_goals first
    | (simp at h; done)
    | skip
   ·rename_i h1 h2
    simp only [h1, h2, if_true]
    simp only [Bool.and_eq_true, decide_eq_true_eq] at h2
    exact ⟨xF hl (by simp; omega) hc, gd⟩
   ·rename_i h1 h2 h3
    simp only [h1, h2, h3, if_true, if_false]
    exact ⟨hl, rfl⟩
   ·rename_i h1 h2 h3 h4 h5 h6
    simp only [h1, h2, h3, h4, h5, h6, if_true, if_false]
    exact ⟨xF hl (by simp; omega) hc, gd⟩
   ·rename_i h1 h2 h3 h4 h5 h6
    simp only [h1, h2, h3, h4, h5, h6, if_true, if_false]
    exact ⟨hl, rfl⟩
 unfold ge at h ⊢
 by_cases h1 : r.kind = 1 ∨ r.kind = 2 ∨ (r.kind = 5 ∧ op.kind ≠ 3)
 ·rw [if_pos h1] at h ⊢
  cases hc : gI op r.case_ with
  | none => rw [hc] at h; simp at h
  | some x => rw [hc] at h; exact hdo x h
 ·rw [if_neg h1] at h ⊢
  by_cases h5 : r.kind = 5
  ·rw [if_pos h5] at h ⊢
   split at h
   ·rename_i hh; rw [if_pos hh]; exact ⟨hl, rfl⟩
   ·cases h
  rw [if_neg h5] at h ⊢
  by_cases h6 : r.kind = 6
  ·rw [if_pos h6] at h ⊢
   split at h
   ·rename_i hh; rw [if_pos hh]
    cases hg : getI l op.channel with
    | none => rw [hg] at h; cases h
    | some c => exact ⟨xF hl (hl.buf c (fV hg)) (hl.cap c (fV hg)), gd⟩
   ·cases h
  rw [if_neg h6] at h ⊢
  by_cases h3 : r.kind = 3
  ·rw [if_pos h3] at h ⊢
   split at h
   ·rename_i hh; rw [if_pos hh]; exact ⟨hl, rfl⟩
   ·cases h
  rw [if_neg h3] at h ⊢
  by_cases h4 : r.kind = 4
  ·rw [if_pos h4] at h ⊢
   split at h
   ·rename_i hh; rw [if_pos hh]; exact ⟨hl, rfl⟩
   ·cases h
  rw [if_neg h4] at h ⊢
  by_cases h7 : r.kind = 7
  ·rw [if_pos h7] at h ⊢
   split at h
   ·rename_i hh; rw [if_pos hh]; exact ⟨hl, rfl⟩
   ·cases h
  rw [if_neg h7] at h
  cases h
def uR (l : List fJ) (i : Int) : Bool := match getI l i with
 | none => false
 | some c => !c.closed && decide (c.capacity ≤ 0)
def nQ (l : List fJ) (s r : Case) (x y : Result) : Bool :=
 s.send && (!r.send && (decide (s.channel = r.channel) && (uR l s.channel && ((decide (x.kind = 1) && gK x false false) && (decide (y.kind = 2) && (y.ok && (decide (y.number = 0) && decide (y.value = s.value))))))))
def gV (l : List fJ) (a : Op) (x : Result) (b : Op) (y : Result) : Bool := match gI a x.case_, gI b y.case_ with
 | some s, some r => nQ l s r x y
 | _, _ => false
theorem As (l : List fJ) (a : Op) (x : Result) (b : Op) (y : Result) : oe l a x b y = some (gV l a x b y) := by
 have e1 : (x = Result.mk 1 x.case_ 0 false 0) = (x.kind = 1 ∧ gK x false false = true) := by
  obtain ⟨p, q, c, d, e⟩ := x
  simp [gK]
  intros; rw [and_assoc]
 have e2 : ∀ v, (y = Result.mk 2 y.case_ v true 0) = (y.kind = 2 ∧ y.value = v ∧ y.ok = true ∧ y.number = 0) := fun v => by
  obtain ⟨p, q, c, d, e⟩ := y
  simp
 unfold oe pg gV
 rw [xw, xw]
 simp only [jd, qz, e1, e2]
 cases hs : gI a x.case_ with
 | none => simp
 | some s =>
  rw [kC hs]
  cases hr : gI b y.case_ with
  | none => simp
  | some r =>
   rw [kC hr]
   unfold nQ uR
   cases h1 : s.send
   ·simp [h1]
   cases h2 : r.send
   rotate_left
   ·simp [h1, h2]
   by_cases h3 : s.channel = r.channel
   rotate_left
   ·simp [h1, h2, h3]
   cases hg : getI l s.channel with
   | none => rw [← h3]; simp [h1, h2, hg]
   | some c =>
    have hf : iK l s.channel = c := by unfold iK; rw [hg]; rfl
    rw [← h3]
    cases hcd : c.closed <;> by_cases hcap : c.capacity ≤ 0 <;> by_cases hk : x.kind = 1 <;> cases hon : gK x false false <;> by_cases hk2 : y.kind = 2 <;> by_cases hv : y.value = s.value <;> cases hok : y.ok <;> by_cases hn : y.number = 0 <;>
     simp [h1, h2, hg, hf, hcd, hcap, hk, hon, hk2, hv, hok, hn, gW] <;> exact h3
theorem Am (l : List fJ) (a : Op) (x : Result) (b : Op) (y : Result) : o0 l a x b y = some (gV l a x b y) := by
 unfold o0
 have hno : (gV l a x b y = true → x.kind = 1 ∧ y.kind = 2 ∧ gK x false false = true ∧ y.ok = true ∧ y.number = 0) := fun h => by
  unfold gV at h
  split at h
  ·unfold nQ at h
   simp only [Bool.and_eq_true, decide_eq_true_eq] at h
   exact ⟨h.2.2.2.2.1.1, h.2.2.2.2.2.1, h.2.2.2.2.1.2, h.2.2.2.2.2.2.1, h.2.2.2.2.2.2.2.1⟩
  ·cases h
 have hbad : ¬ (x.kind = 1 ∧ y.kind = 2 ∧ gK x false false = true ∧ y.ok = true ∧ y.number = 0) → nm l y b x a true = some (gV l a x b y) := fun h => by
  have : gV l a x b y = false := by
   cases hp : gV l a x b y with
   | false => rfl
   | true => exact absurd (hno hp) h
  rw [this]; rfl
 simp only [kw, Option.bind_some]
 by_cases hk : x.kind = 1
 rotate_left
 ·rw [if_neg hk]; exact hbad fun h => hk h.1
 rw [if_pos hk]
 by_cases hk2 : y.kind = 2
 rotate_left
 ·rw [if_neg hk2]; exact hbad fun h => hk2 h.2.1
 rw [if_pos hk2]
 by_cases hon : gK x false false = true
 rotate_left
 ·rw [if_neg hon]; exact hbad fun h => hon h.2.2.1
 rw [if_pos hon]
 by_cases hn : y.number = 0
 rotate_left
 ·rw [if_neg (by simp [gK, hn])]; exact hbad fun h => hn h.2.2.2.2
 rw [if_pos (by simp [gK, hn])]
 cases hok : y.ok
 ·exact hbad fun h => by rw [hok] at h; simp at h
 unfold nm nk oZ
 simp only [Bool.not_true, Bool.false_eq_true, if_false]
 obtain ⟨s, hs, hse⟩ := po a x
 obtain ⟨r, hr, hre⟩ := po b y
 rw [hs, hr]
 simp only [jd, jW, Option.bind_some]
 unfold gV
 cases hcs : gI a x.case_ with
 | none => simp
 | some s' =>
  obtain rfl := hse s' hcs
  cases hcr : gI b y.case_ with
  | none => simp
  | some r' =>
   obtain rfl := hre r' hcr
   unfold nQ uR
   cases h1 : s.send
   ·simp [h1]
   cases h2 : r.send
   rotate_left
   ·simp [h1, h2]
   by_cases h3 : s.channel = r.channel
   rotate_left
   ·simp [h1, h2, h3]
   rw [← h3]
   cases hg : getI l s.channel with
   | none => simp [h1, h2, hg]
   | some c =>
    cases hcd : c.closed <;> by_cases hcap : c.capacity ≤ 0 <;> by_cases hv : y.value = s.value <;> simp [h1, h2, hg, hcd, hcap, hk, hon, hk2, hv, hok, hn, gW] <;> exact h3
theorem EE (l : List fJ) (a : Op) (x : Result) (b : Op) (y : Result) : rf l a x b y = some (gV l a x b y || gV l b y a x) := by
 unfold rf
 rw [As, As]
 simp only [Option.bind_some]
 cases gV l a x b y <;> simp
theorem ma (l : List fJ) (a : Op) (x : Result) (b : Op) (y : Result) : pP l a x b y = some (gV l a x b y || gV l b y a x) := by
 unfold pP
 rw [Am, Am]
 simp only [Option.bind_some]
 cases gV l a x b y <;> simp
end Go.Hx
namespace Go.Hx
open Go
def okR (l : List fJ) (op : Op) (r : Result) : Bool := (ge l op r).2
def numOf (op : Op) (i : Int) : Int := if op.kind = 4 then i else -1
def mL (l : List fJ) (x : Case) : Int := ((iK l x.channel).buffer[0]?).getD 0
def rP (n : Int) : Result := Result.mk 5 n 0 false 0
def rS (n : Int) : Result := Result.mk 1 n 0 false 0
def rV (n v : Int) : Result := Result.mk 2 n v true 0
def rN (n : Int) : Result := Result.mk 2 n 0 false 0
def mJ (l : List fJ) (x : Case) (n : Int) : List Result := [rP n, rS n] ++ (if 0 < (iK l x.channel).buffer.length then [rV n (mL l x)] else []) ++ [rN n]
def jo (l : List fJ) (x : Case) (n : Int) : List Result := if x.send = true then [rP n, rS n] else (if 0 < (iK l x.channel).buffer.length then [rV n (mL l x)] else []) ++ [rN n]
def ig (f : Case → Int → List Result) (op : Op) : List Case → Int → List Result
 | [], _ => []
 | x :: r, i => f x (numOf op i) ++ ig f op r (i + 1)
def kQ (l : List fJ) (op : Op) : List Result := if op.kind = 3 then [Result.mk 6 (-1) 0 false 0, rP (-1)].filter (okR l op) else (ig (jo l) op (casesS op) 0).filter (okR l op)
theorem E3 {l : List fJ} {op : Op} {x : Case} {n : Int} (h3 : op.kind ≠ 3) (hc : gI op n = some x) :
  (x.send = true → okR l op (rN n) = false ∧ ∀ v, okR l op (rV n v) = false) ∧ (x.send = false → okR l op (rP n) = false ∧ okR l op (rS n) = false) := by
 have e : ∀ r : Result, (r.kind = 1 ∨ r.kind = 2 ∨ r.kind = 5) → r.case_ = n → okR l op r = (jE l x r).2 := fun r hk hr => by
  unfold okR
  rw [ky (by omega), hr, hc]
 refine ⟨fun hs => ⟨?_, fun v => ?_⟩, fun hs => ⟨?_, ?_⟩⟩
 ·rw [e _ (.inr (.inl rfl)) rfl]; unfold jE
  cases getI l x.channel <;> simp [hs, rN]
 ·rw [e _ (.inr (.inl rfl)) rfl]; unfold jE
  cases getI l x.channel <;> simp [hs, rV]
 ·rw [e _ (.inr (.inr rfl)) rfl]; unfold jE
  cases getI l x.channel <;> simp [hs, rP]
 ·rw [e _ (.inl rfl) rfl]; unfold jE
  cases getI l x.channel <;> simp [hs, rS]
theorem Bd {l : List fJ} {op : Op} {x : Case} {n : Int} (h3 : op.kind ≠ 3) (hc : gI op n = some x) : (mJ l x n).filter (okR l op) = (jo l x n).filter (okR l op) := by
 obtain ⟨h1, h2⟩ := E3 (l := l) h3 hc
 unfold mJ jo
 cases hs : x.send
 ·obtain ⟨a, b⟩ := h2 hs
  simp only [Bool.false_eq_true, if_false]
  rw [List.append_assoc, List.filter_append]
  simp [List.filter_cons, a, b]
 ·obtain ⟨a, b⟩ := h1 hs
  simp only [if_true]
  rw [List.filter_append, List.filter_append]
  split <;> simp [List.filter_cons, a, b]
theorem pn {op : Op} (h3 : op.kind ≠ 3) {i : Nat} {x : Case} (h : (casesS op)[i]? = some x) : gI op (numOf op i) = some x := by
 unfold casesS at h
 unfold numOf gI
 by_cases h4 : op.kind = 4
 ·rw [if_pos h4] at h
  rw [if_pos h4, mq h4, if_pos h4, io]; simpa using h
 ·rw [if_neg h4] at h
  rw [if_neg h4]
  split at h
  ·rename_i hs
   rw [if_pos hs, if_pos rfl]
   cases i with
   | zero => simpa using h
   | succ i => simp at h
  ·simp at h
theorem nC {l : List fJ} {op : Op} (h3 : op.kind ≠ 3) : ∀ (cs : List Case) (i : Nat), (∀ (j : Nat) x, cs[j]? = some x → gI op (numOf op ((i + j : Nat) : Int)) = some x) → (ig (mJ l) op cs i).filter (okR l op) = (ig (jo l) op cs i).filter (okR l op)
 | [], i, _ => rfl
 | x :: cs, i, h => by
  unfold ig
  have e0 := Bd (l := l) h3 (h 0 x rfl)
  have e1 := nC (l := l) h3 cs (i + 1) fun j y hy => by
   have := h (j + 1) y (by simpa using hy)
   rwa [show i + (j + 1) = i + 1 + j by omega] at this
  rw [Nat.add_zero] at e0
  rw [show ((i : Int) + 1) = ((i + 1 : Nat) : Int) by omega]
  rw [List.filter_append, List.filter_append, e0, e1]
theorem mX {l : List fJ} {op : Op} {r : Result} {out : List Result} (hl : iy l) (ho : OpM op) (hout : out.length ≤ 100000) : mA r l op out = some (out ++ [r].filter (okR l op)) := by
 unfold mA
 rw [l8 hl ho]
 simp only [bd2]
 simp only [Option.bind_some]
 cases h : (ge l op r).2 with
 | true => simp [okR, h, gl (show out.length + [r].length ≤ 4294967296 by simp; omega)]
 | false => simp [okR, h]
theorem mn {α : Type} (p : α → Bool) (l : List α) : (l.filter p).length ≤ l.length := List.length_filter_le _ _
theorem tU {l : List fJ} {op : Op} (hl : iy l) (ho : OpM op) : ra l op = some (kQ l op) := by
 unfold ra kQ
 by_cases h3 : op.kind = 3
 ·rw [if_pos h3, if_pos h3, mX hl ho (by simp)]
  simp only [Option.bind_some]
  have := mn (okR l op) [Result.mk 6 (-1) 0 false 0]
  rw [mX hl ho (by simp at this ⊢; omega)]
  simp only [Option.bind_some, List.nil_append]
  rw [← List.filter_append]; rfl
 ·rw [if_neg h3, if_neg h3, Ce, ho.casesS]
  simp only [Option.bind_some]
  have e0 := nC (l := l) h3 (casesS op) 0 fun j x hx => by rw [Nat.zero_add]; exact pn h3 hx
  rw [show ((0 : Nat) : Int) = 0 from rfl] at e0
  rw [← e0]
  have hcl := ho.casesLen
  generalize hcs : casesS op = cs at *
  have key : ∀ n i out, (0 ≤ i ∧ i ≤ (cs.length : Int) ∧ (out.length : Int) ≤ 4 * i) → ((cs.length : Int) - i).toNat < n → Ok (lp2 (q9 cs op l) n i out) (fun r => r = out ++ (ig (mJ l) op (cs.drop i.toNat) i).filter (okR l op)) := by
   refine ip (fun i _ => ((cs.length : Int) - i).toNat) (fun i out => 0 ≤ i ∧ i ≤ (cs.length : Int) ∧ (out.length : Int) ≤ 4 * i) (fun i out r => r = out ++ (ig (mJ l) op (cs.drop i.toNat) i).filter (okR l op)) ?_
   intro i out k ⟨h0, h1, hout⟩ hk
   unfold q9
   refine Ok.ite (fun h => ?_) fun h => ?_
   ·have hg := fG h0 h
    rw [hg]
    simp only [Option.bind_some]
    rw [ij hg]
    generalize cs[i.toNat]'(by omega) = x at *
    have hJ : Ok (ob cs i x out op l k (numOf op i)) (fun r => r = out ++ (ig (mJ l) op (x :: cs.drop (i + 1).toNat) i).filter (okR l op)) := by
     unfold ob q8
     have l1 : ∀ (a : List Result) (r : Result), (a ++ [r].filter (okR l op)).length ≤ a.length + 1 := fun a r => by
      have := mn (okR l op) [r]; simp at this ⊢; omega
     have e1 := l1 out (rP (numOf op i))
     have e2 := l1 (out ++ [rP (numOf op i)].filter (okR l op)) (rS (numOf op i))
     rw [show Result.mk 5 (numOf op i) 0 false 0 = rP (numOf op i) from rfl, show Result.mk 1 (numOf op i) 0 false 0 = rS (numOf op i) from rfl, show Result.mk 2 (numOf op i) 0 false 0 = rN (numOf op i) from rfl]
     rw [mX hl ho (by omega)]
     simp only [Option.bind_some]
     rw [mX hl ho (by omega)]
     simp only [Option.bind_some, qz, jd]
     rw [gh (x := i + 1) (by omega) (by omega)]
     have fin : ∀ out', out'.length ≤ out.length + 4 → out' = out ++ (mJ l x (numOf op i)).filter (okR l op) → Ok (k (i + 1) out') (fun r => r = out ++ (ig (mJ l) op (x :: cs.drop (i + 1).toNat) i).filter (okR l op)) := fun out' hlen he => by
      refine (hk (i + 1) out' ⟨by omega, by omega, by omega⟩ (by omega)).mono fun r hr => ?_
      rw [hr, he]
      simp only [ig, List.filter_append, List.append_assoc]
     refine Ok.ite (fun hb => ?_) fun hb => ?_
     ·have hb' : 0 < (iK l x.channel).buffer.length := by omega
      rw [fG (by omega) (by omega)]
      simp only [Option.bind_some]
      have hv : (iK l x.channel).buffer[(0 : Int).toNat]'(by simpa using hb') = mL l x := by
       unfold mL; rw [List.getElem?_eq_getElem hb']; rfl
      rw [hv, show Result.mk 2 (numOf op i) (mL l x) true 0 = rV (numOf op i) (mL l x) from rfl]
      have e3 := l1 (out ++ [rP (numOf op i)].filter (okR l op) ++ [rS (numOf op i)].filter (okR l op)) (rV (numOf op i) (mL l x))
      rw [mX hl ho (by omega)]
      simp only [Option.bind_some]
      have e4 := l1 (out ++ [rP (numOf op i)].filter (okR l op) ++ [rS (numOf op i)].filter (okR l op) ++ [rV (numOf op i) (mL l x)].filter (okR l op)) (rN (numOf op i))
      rw [mX hl ho (by omega)]
      simp only [Option.bind_some]
      refine fin _ (by omega) ?_
      simp only [mJ, if_pos hb', List.append_assoc, ← List.filter_append]
      rfl
     ·have hb' : ¬ 0 < (iK l x.channel).buffer.length := by omega
      have e4 := l1 (out ++ [rP (numOf op i)].filter (okR l op) ++ [rS (numOf op i)].filter (okR l op)) (rN (numOf op i))
      rw [mX hl ho (by omega)]
      simp only [Option.bind_some]
      refine fin _ (by omega) ?_
      simp only [mJ, if_neg hb', List.append_assoc, ← List.filter_append]
      rfl
    unfold numOf at hJ
    refine Ok.ite (fun h4 => ?_) fun h4 => ?_
    ·rw [if_pos h4] at hJ; exact hJ
    ·rw [if_neg h4] at hJ; exact hJ
   ·unfold vr
    refine Ok.some ?_
    rw [List.drop_eq_nil_of_le (by omega)]; simp [ig]
  simpa using (key BIG 0 [] ⟨by omega, by omega, by simp⟩ (gp (by omega))).eq
theorem zK {l : List fJ} {op : Op} (hl : iy l) (ho : OpM op) {all : List Result} (hall : all.length ≤ 100000) : rY l op all = some (all.filter (okR l op)) := by
 unfold rY
 have key : ∀ n out i, (0 ≤ i ∧ i ≤ (all.length : Int) ∧ (out.length : Int) ≤ i) → ((all.length : Int) - i).toNat < n → Ok (lp2 (rX l all op) n out i) (fun r => r = out ++ (all.drop i.toNat).filter (okR l op)) := by
  refine ip (fun _ i => ((all.length : Int) - i).toNat) (fun out i => 0 ≤ i ∧ i ≤ (all.length : Int) ∧ (out.length : Int) ≤ i) (fun out i r => r = out ++ (all.drop i.toNat).filter (okR l op)) ?_
  intro out i k ⟨h0, h1, hout⟩ hk
  unfold rX
  refine Ok.ite (fun h => ?_) fun h => ?_
  ·have hg := fG h0 h
   rw [hg]
   simp only [Option.bind_some]
   rw [ij hg]
   generalize all[i.toNat]'(by omega) = x at *
   rw [jM hl ho]
   simp only [bd2]
   simp only [Option.bind_some]
   rw [gh (by omega) (by omega), gl (by simp; omega)]
   simp only [Option.bind_some]
   refine Ok.ite (fun hr => ?_) fun hr => ?_
   ·refine (hk _ _ ⟨by omega, by omega, by simp; omega⟩ (by omega)).mono fun r he => ?_
    rw [he, List.filter_cons, if_pos (show okR l op x = true from hr)]; simp
   ·refine (hk _ _ ⟨by omega, by omega, by omega⟩ (by omega)).mono fun r he => ?_
    rw [he, List.filter_cons, if_neg (show ¬ okR l op x = true from hr)]
  ·unfold wd
   refine Ok.some ?_
   rw [List.drop_eq_nil_of_le (by omega)]; simp
 simpa using (key BIG [] 0 ⟨by omega, by omega, by simp⟩ (gp (by omega))).eq
theorem D2 {l : List fJ} {op : Op} (hl : iy l) (ho : OpM op) {base : List Result} (hb : base.length ≤ 10) : oW l op base = some ((base ++ ig (jo l) op (casesS op) 0).filter (okR l op)) := by
 unfold oW
 rw [jv]
 simp only [Option.bind_some]
 have hcl := ho.casesLen
 generalize hcs : casesS op = cs at *
 have key : ∀ n out i, (0 ≤ i ∧ i ≤ (cs.length : Int) ∧ (out.length : Int) ≤ 10 + 2 * i) → ((cs.length : Int) - i).toNat < n → Ok (lp2 (rZ l cs op) n out i) (fun r => r = (out ++ ig (jo l) op (cs.drop i.toNat) i).filter (okR l op)) := by
  refine ip (fun _ i => ((cs.length : Int) - i).toNat) (fun out i => 0 ≤ i ∧ i ≤ (cs.length : Int) ∧ (out.length : Int) ≤ 10 + 2 * i) (fun out i r => r = (out ++ ig (jo l) op (cs.drop i.toNat) i).filter (okR l op)) ?_
  intro out i k ⟨h0, h1, hout⟩ hk
  unfold rZ
  refine Ok.ite (fun h => ?_) fun h => ?_
  ·have hg := fG h0 h
   rw [ij hg]
   generalize cs[i.toNat]'(by omega) = x at *
   have hJ : Ok (oV l out cs i op k (numOf op i)) (fun r => r = (out ++ ig (jo l) op (x :: cs.drop (i + 1).toNat) i).filter (okR l op)) := by
    unfold oV
    rw [hg, gh (x := i + 1) (by omega) (by omega)]
    simp only [Option.bind_some]
    have fin : ∀ out', out'.length ≤ out.length + 2 → out' = out ++ jo l x (numOf op i) → Ok (k out' (i + 1)) (fun r => r = (out ++ ig (jo l) op (x :: cs.drop (i + 1).toNat) i).filter (okR l op)) := fun out' hlen he => by
     refine (hk out' (i + 1) ⟨by omega, by omega, by omega⟩ (by omega)).mono fun r hr => ?_
     rw [hr, he]
     simp only [ig, List.append_assoc]
    refine Ok.ite (fun hs => ?_) fun hs => ?_
    ·rw [gl (by simp; omega)]
     simp only [Option.bind_some]
     refine fin _ (by simp) ?_
     unfold jo; rw [if_pos hs]; rfl
    ·have hJ4 : ∀ out', out'.length ≤ out.length + 1 → (out' ++ [rN (numOf op i)] = out ++ jo l x (numOf op i)) → Ok (oU l cs i (numOf op i) op k out') (fun r => r = (out ++ ig (jo l) op (x :: cs.drop (i + 1).toNat) i).filter (okR l op)) := fun out' hlen he => by
      unfold oU
      rw [gl (by simp; omega), gh (x := i + 1) (by omega) (by omega)]
      simp only [Option.bind_some]
      exact fin _ (by simp; omega) he
     rw [jW]
     simp only [Option.bind_some]
     have hno : ¬ 0 < (iK l x.channel).buffer.length → Ok (s1 l out cs i (numOf op i) op k false) (fun r => r = (out ++ ig (jo l) op (x :: cs.drop (i + 1).toNat) i).filter (okR l op)) := fun hb' => by
      unfold s1
      rw [if_neg (by decide)]
      refine hJ4 _ (by omega) ?_
      unfold jo; rw [if_neg hs, if_neg hb']; rfl
     cases hgc : getI l x.channel with
     | none =>
      simp only [Option.isSome_none, Bool.false_eq_true, if_false]
      exact hno (by unfold iK; rw [hgc]; simp)
     | some c =>
      have hf : iK l x.channel = c := by unfold iK; rw [hgc]; rfl
      simp only [Option.isSome_some, if_true, Option.bind_some]
      by_cases hb' : 0 < c.buffer.length
      ·rw [show dcd ((c.buffer.length : Int) > 0) = true from ik.2 (by omega)]
       unfold s1
       rw [if_pos rfl, hg]
       simp only [Option.bind_some]
       rw [hgc]
       simp only [Option.bind_some]
       rw [fG (by omega) (by omega)]
       simp only [Option.bind_some]
       rw [gl (by simp; omega)]
       simp only [Option.bind_some]
       have hv : c.buffer[(0 : Int).toNat]'(by simpa using hb') = mL l x := by
        unfold mL; rw [hf, List.getElem?_eq_getElem hb']; rfl
       refine hJ4 _ (by simp) ?_
       rw [hv]
       unfold jo; rw [if_neg hs, hf, if_pos hb', List.append_assoc]; rfl
      ·rw [show dcd ((c.buffer.length : Int) > 0) = false from js.2 (by omega)]
       exact hno (by rw [hf]; exact hb')
   unfold numOf at hJ
   refine Ok.ite (fun h4 => ?_) fun h4 => ?_
   ·rw [if_pos h4] at hJ; exact hJ
   ·rw [if_neg h4] at hJ; exact hJ
  ·refine Ok.of (zK hl ho (by omega)) ?_
   rw [List.drop_eq_nil_of_le (by omega)]; simp [ig]
 simpa using (key BIG base 0 ⟨by omega, by omega, by omega⟩ (gp (by omega))).eq
theorem xA {l : List fJ} {op : Op} (hl : iy l) (ho : OpM op) : oY l op = some (kQ l op) := by
 unfold oY kQ
 by_cases h3 : op.kind = 3
 ·rw [if_pos h3, if_pos h3, D2 hl ho (by simp)]
  have : casesS op = [] := by unfold casesS jC; simp [h3]
  rw [this]; rfl
 ·rw [if_neg h3, if_neg h3, D2 hl ho (by simp)]; rfl
theorem Dx (l : List fJ) (x : Case) (n : Int) : (jo l x n).length ≤ 2 := by
 unfold jo; split
 ·simp
 ·split <;> simp
theorem to (l : List fJ) (op : Op) : ∀ (cs : List Case) (i : Int), (ig (jo l) op cs i).length ≤ 2 * cs.length
 | [], i => by simp [ig]
 | x :: cs, i => by
  have h1 := Dx l x (numOf op i)
  have h2 := to l op cs (i + 1)
  simp only [ig, List.length_append, List.length_cons]; omega
theorem Bh {l : List fJ} {op : Op} (ho : OpM op) : (kQ l op).length ≤ 2002 := by
 unfold kQ
 have := ho.casesLen
 split
 ·have := mn (okR l op) [Result.mk 6 (-1) 0 false 0, rP (-1)]; simp at this ⊢; omega
 ·have h1 := mn (okR l op) (ig (jo l) op (casesS op) 0)
  have h2 := to l op (casesS op) 0
  omega
theorem mP (a b : List UInt8) : iG (a ++ b) = iG a ++ iG b := by unfold iG; rw [List.map_append]
theorem lq (a : List UInt8) : (iG a).length = a.length := by unfold iG; rw [List.length_map]
theorem zS (a : List UInt8) : yU (iG a) = some ⟨a.toArray⟩ := by
  unfold yU
  have h : (iG a).all (fun x => decide (0 ≤ x) && decide (x < 256)) = true := by
    rw [List.all_eq_true]
    intro x hx
    unfold iG at hx
    obtain ⟨b, _, rfl⟩ := List.mem_map.1 hx
    have := b.toNat_lt
    simp; omega
  rw [if_pos h]
  unfold zR iG
  rw [List.map_map]
  have e : ((fun x : Int => UInt8.ofNat x.toNat) ∘ fun b : UInt8 => (b.toNat : Int)) = id := by
    funext b
    simp
  rw [e, List.map_id]
theorem Ai : ∀ (k : Nat) (u : Nat), u < 10 ^ (k + 1) → (Lib.decDigits u).length ≤ k + 1
  | 0, u, h => by rw [nF, if_pos (by simpa using h)]; simp
  | k + 1, u, h => by
    rw [nF]
    split
    · simp
    · rw [List.length_append, List.length_singleton]
      have := Ai k (u / 10) (by rw [Nat.div_lt_iff_lt_mul (by omega)]; rw [Nat.pow_succ] at h; exact h)
      omega
theorem pp {u : Nat} (h : u < 18446744073709551616) : (Lib.decDigits u).length ≤ 20 := Ai 19 u (Nat.lt_trans h (by decide))
theorem xr {n : Int} (h : 0 ≤ n) : Lib.itoa n = Lib.decDigits n.toNat := by
  unfold Lib.itoa; rw [if_neg (by omega)]
theorem tW : ∀ (a : List Int) (n : Int), kg (a ++ [n]) = kg a ++ (Lib.itoa n ++ [32])
  | [], n => rfl
  | x :: a, n => by
    simp only [List.cons_append, kg, tW a n, List.append_assoc]
theorem qe : ∀ (a : List Int) (v : Int), jt (a ++ [v]) = jt a ++ 32 :: Lib.decDigits v.toNat
  | [], v => by simp [jt]
  | x :: a, v => by
    simp only [List.cons_append, jt, qe a v, List.append_assoc]
theorem qa : ∀ (a : List (Bool × List Int)) (c : Bool × List Int), jq (a ++ [c]) = jq a ++ 47 :: (boolT c.1 ++ jt c.2)
  | [], c => by simp [jq]
  | x :: a, c => by
    simp only [List.cons_append, jq, qa a c, List.append_assoc]
def chT (C : List fJ) : List (Bool × List Int) := C.map fun c => (c.closed, c.buffer)
def yp (p : List Int) (C : List fJ) : List UInt8 := kg p ++ jq (chT C)
def ke (p : List Int) (C : List fJ) : ByteArray := ⟨(yp p C).toArray⟩
def W64 (v : Int) : Prop := 0 ≤ v ∧ v < 18446744073709551616
structure ChW (caps : List Int) (C : List fJ) : Prop where
  ok : iy C
  caps : C.map (·.capacity) = caps
  val : ∀ c ∈ C, ∀ v ∈ c.buffer, W64 v
theorem xp : ∀ {C D : List fJ}, C.map (·.capacity) = D.map (·.capacity) → chT C = chT D → C = D
  | [], [], _, _ => rfl
  | [], _ :: _, h, _ => by simp at h
  | _ :: _, [], h, _ => by simp at h
  | c :: C, d :: D, h, h2 => by
    simp only [chT, List.map_cons, List.cons.injEq, Prod.mk.injEq] at h2 h
    obtain ⟨⟨a1, a2⟩, a3⟩ := h2
    obtain ⟨b1, b2⟩ := h
    rw [xp b2 a3]
    congr 1
    obtain ⟨x, y, z⟩ := c; obtain ⟨x', y', z'⟩ := d
    simp only at a1 a2 b1
    rw [a1, a2, b1]
theorem Bj {p q : List Int} {C D : List fJ} {caps : List Int} (hp : p.length = q.length) (hC : ChW caps C) (hD : ChW caps D) (h : ke p C = ke q D) : p = q ∧ C = D := by
  unfold ke at h
  have h : yp p C = yp q D := by
    have := congrArg (fun b : ByteArray => b.data.toList) h
    simpa using this
  unfold yp at h
  have hcap : C.map (·.capacity) = D.map (·.capacity) := by rw [hC.caps, hD.caps]
  have hl : C.length = D.length := by simpa using congrArg List.length hcap
  obtain ⟨e1, e2⟩ := Bn hp (by simp [chT, hl]) (fun c hc v hv => by
    obtain ⟨d, hd, rfl⟩ := List.mem_map.1 hc
    exact (hC.val d hd v hv).1) (fun c hc v hv => by
    obtain ⟨d, hd, rfl⟩ := List.mem_map.1 hc
    exact (hD.val d hd v hv).1) h
  exact ⟨e1, xp hcap e2⟩
theorem xZ (b : Bool) : (boolT b).length ≤ 5 := by cases b <;> decide
theorem mY : ∀ (l : List Int), (∀ v ∈ l, W64 v) → (jt l).length ≤ 21 * l.length
  | [], _ => by simp [jt]
  | v :: l, h => by
    have h1 := mY l fun v hv => h v (.tail _ hv)
    have h2 := pp (u := v.toNat) (by have := h v (.head _); unfold W64 at this; omega)
    simp only [jt, List.length_cons, List.length_append]; omega
theorem pu : ∀ (l : List Int), (∀ v ∈ l, W64 v) → (kg l).length ≤ 21 * l.length
  | [], _ => by simp [kg]
  | v :: l, h => by
    have h1 := pu l fun v hv => h v (.tail _ hv)
    have h0 := h v (.head _)
    have h2 := pp (u := v.toNat) (by unfold W64 at h0; omega)
    unfold W64 at h0
    simp only [kg, List.length_cons, List.length_append, xr h0.1]; omega
theorem tw : ∀ (l : List (Bool × List Int)), (∀ c ∈ l, c.2.length ≤ 1000 ∧ ∀ v ∈ c.2, W64 v) → (jq l).length ≤ 21006 * l.length
  | [], _ => by simp [jq]
  | c :: l, h => by
    have h1 := tw l fun v hv => h v (.tail _ hv)
    obtain ⟨h2, h3⟩ := h c (.head _)
    have h4 := mY c.2 h3
    have h5 := xZ c.1
    simp only [jq, List.length_cons, List.length_append]; omega
theorem AY {l : List Int} {n : Int} (h0 : 0 ≤ n) (h1 : n < 1000000000) (hl : l.length ≤ 1000000) : qO l n 10 = some (l ++ iG (Lib.itoa n)) := by
  unfold qO vg
  rw [if_neg (by omega)]
  unfold qN zc kZ
  rw [yY h0 (by omega), if_pos ⟨h0, by omega, rfl, hl⟩, xr h0]; rfl
theorem zy {l : List Int} {n : Int} (h : W64 n) (hl : l.length ≤ 1000000) : qQ l n 10 = some (l ++ iG (Lib.decDigits n.toNat)) := by
  unfold qQ ze kZ
  rw [if_pos ⟨h.1, h.2, rfl, hl⟩]; rfl
theorem zx {l : List Int} {b : Bool} (hl : l.length ≤ 1000000) : qP l b = some (l ++ iG (boolT b)) := by
  unfold qP zd nu
  rw [if_pos hl]
  cases b <;> rfl
theorem tQ {l : List Int} {n : Nat} (h : ∀ v ∈ l, W64 v) : ∀ v ∈ l.take n, W64 v := fun v hv => h v (List.mem_of_mem_take hv)
theorem yq {p : List Int} {C : List fJ} {caps : List Int} (hp : p.length ≤ 1000) (hp1 : ∀ n ∈ p, 0 ≤ n ∧ n ≤ 1000000) (hC : ChW caps C) (hc : caps.length ≤ 10) : qS p C = some (ke p C) := by
  have hlC : C.length ≤ 10 := by rw [← hC.caps, List.length_map] at hc; exact hc
  have hpW : ∀ v ∈ p, W64 v := fun v hv => ⟨(hp1 v hv).1, by have := (hp1 v hv).2; omega⟩
  have hcW : ∀ n : Nat, ∀ c ∈ (chT C).take n, c.2.length ≤ 1000 ∧ ∀ v ∈ c.2, W64 v := fun n c hc' => by
    have := List.mem_of_mem_take hc'
    unfold chT at this
    obtain ⟨d, hd, rfl⟩ := List.mem_map.1 this
    exact ⟨hC.ok.buf d hd, hC.val d hd⟩
  refine Ok.eq ?_
  unfold qS
  have hlp := pu p hpW
  have hJ1 : Ok (qR C (iG (kg p))) fun r => r = ke p C := by
    unfold qR
    refine ip (fun _ i => ((C.length : Int) - i).toNat) (fun l i => 0 ≤ i ∧ i ≤ (C.length : Int) ∧ l = iG (kg p ++ jq ((chT C).take i.toNat))) (fun _ _ r => r = ke p C) ?_ BIG _ 0 ⟨by omega, by omega, by simp [jq]⟩ (gp (by omega))
    intro l i k ⟨g0, g1, g2⟩ hk
    unfold vk
    have hlen := tw _ (hcW i.toNat)
    rw [List.length_take] at hlen
    have hll : l.length ≤ 300000 := by
      rw [g2, lq, List.length_append]
      have : min i.toNat (chT C).length ≤ 10 := by simp [chT]; omega
      have : 21006 * min i.toNat (chT C).length ≤ 210060 := by omega
      omega
    refine Ok.ite (fun hi => ?_) fun hi => ?_
    · obtain ⟨c, hc'⟩ : ∃ c, getI C i = some c := ⟨_, fG g0 hi⟩
      have hcm := fV hc'
      have hb := hC.ok.buf c hcm
      have hv := hC.val c hcm
      have htk : (chT C).take (i + 1).toNat = (chT C).take i.toNat ++ [(c.closed, c.buffer)] := by
        unfold chT
        rw [← List.map_take, ← List.map_take, iv hc', List.map_append]; rfl
      refine Ok.bindEq hc' ?_
      refine Ok.bindEq (gl (by simp; omega)) ?_
      refine Ok.bindEq (zx (by simp; omega)) ?_
      refine ip (fun _ j => ((c.buffer.length : Int) - j).toNat) (fun l' j => 0 ≤ j ∧ j ≤ (c.buffer.length : Int) ∧ l' = l ++ [47] ++ iG (boolT c.closed ++ jt (c.buffer.take j.toNat))) (fun _ _ r => r = ke p C) ?_ BIG _ 0 ⟨by omega, by omega, by simp [jt]⟩ (gp (by omega))
      intro l' j k' ⟨j0, j1, j2⟩ hk'
      unfold vj
      have hw := mY (c.buffer.take j.toNat) (tQ hv)
      rw [List.length_take] at hw
      have hbl := xZ c.closed
      have hll' : l'.length ≤ 400000 := by
        rw [j2]; simp only [List.length_append, lq, List.length_singleton]
        have : min j.toNat c.buffer.length ≤ 1000 := by omega
        omega
      refine Ok.ite (fun hj => ?_) fun hj => ?_
      · obtain ⟨v, hv'⟩ : ∃ v, getI c.buffer j = some v := ⟨_, fG j0 hj⟩
        refine Ok.bindEq hv' ?_
        refine Ok.bindEq (gl (by simp; omega)) ?_
        refine Ok.bindEq (zy (hv v (fV hv')) (by simp; omega)) ?_
        rw [gh (by omega) (by omega)]
        refine hk' _ _ ⟨by omega, by omega, ?_⟩ (by omega)
        rw [iv hv', qe, j2]
        simp only [mP, List.append_assoc]
        rfl
      · unfold vi
        rw [gh (by omega) (by omega)]
        refine hk _ _ ⟨by omega, by omega, ?_⟩ (by omega)
        have e47 : ∀ z : List UInt8, iG (47 :: z) = [47] ++ iG z := fun z => rfl
        rw [htk, qa, j2, g2, List.take_of_length_le (by omega : c.buffer.length ≤ j.toNat)]
        simp only [mP, e47, List.append_assoc]
    · unfold vh
      refine Ok.bindEq (by rw [g2]; exact zS _) ?_
      refine Ok.some ?_
      unfold ke yp
      rw [List.take_of_length_le (by simp [chT]; omega)]
  refine ip (fun _ i => ((p.length : Int) - i).toNat) (fun l i => 0 ≤ i ∧ i ≤ (p.length : Int) ∧ l = iG (kg (p.take i.toNat))) (fun _ _ r => r = ke p C) ?_ BIG _ 0 ⟨by omega, by omega, by simp [kg, iG]⟩ (gp (by omega))
  intro l i k ⟨g0, g1, g2⟩ hk
  unfold vl
  have hlen := pu (p.take i.toNat) (tQ hpW)
  rw [List.length_take] at hlen
  have hll : l.length ≤ 21000 := by rw [g2, lq]; have : min i.toNat p.length ≤ 1000 := by omega
                                    omega
  refine Ok.ite (fun hi => ?_) fun hi => ?_
  · obtain ⟨n, hn⟩ : ∃ n, getI p i = some n := ⟨_, fG g0 hi⟩
    obtain ⟨n0, n1⟩ := hp1 n (fV hn)
    refine Ok.bindEq hn ?_
    refine Ok.bindEq (AY n0 (by omega) (by omega)) ?_
    have := pp (u := n.toNat) (by omega)
    refine Ok.bindEq (gl (by simp only [List.length_append, lq, xr n0, List.length_singleton]; omega)) ?_
    rw [gh (by omega) (by omega)]
    refine hk _ _ ⟨by omega, by omega, ?_⟩ (by omega)
    rw [iv hn, tW, g2]
    simp only [mP, List.append_assoc]
    rfl
  · rw [List.take_of_length_le (by omega)] at g2
    rw [g2]; exact hJ1
def jF (v : Int) : List Int := [v % 256, v / 256 % 256, v / 65536 % 256, v / 16777216 % 256, v / 4294967296 % 256, v / 1099511627776 % 256, v / 281474976710656 % 256, v / 72057594037927936 % 256]
theorem F8 (x : Int) : wB x = x % 256 := by
 simp only [wB, IntKind.wrap, IntKind.bits, IntKind.signed]; simp
theorem kP (v : Int) {k : Nat} (hk : k ≤ 64) {c : Int} (hc : (2 : Int) ^ k = c) (h0 : 0 ≤ c) : ud .u64 v (k : Int) = v / c := by
 unfold ud
 have : min ((k : Int)).toNat (IntKind.u64.bits) = k := by
  show min ((k : Int)).toNat 64 = k
  omega
 rw [this, hc, Int.fdiv_eq_ediv_of_nonneg _ h0]
theorem byte_at {v i : Int} (h0 : 0 ≤ i) (h8 : i < 8) : DZ (wU (wI (8 * i))) = some (8 * i) ∧ getI (jF v) i = some (wB (ud .u64 v (wU (wI (8 * i))))) := by
 rw [gh (by omega) (by omega), yY (by omega) (by omega), F8]
 refine ⟨by unfold DZ; rw [if_pos (by omega)], ?_⟩
 have : i = 0 ∨ i = 1 ∨ i = 2 ∨ i = 3 ∨ i = 4 ∨ i = 5 ∨ i = 6 ∨ i = 7 := by omega
 rcases this with rfl | rfl | rfl | rfl | rfl | rfl | rfl | rfl
 ·rw [show (8 * 0 : Int) = ((0 : Nat) : Int) from rfl, kP v (by omega) (c := 1) (by decide) (by decide), Int.ediv_one]; rfl
 ·rw [show (8 * 1 : Int) = ((8 : Nat) : Int) from rfl, kP v (by omega) (c := 256) (by decide) (by decide)]; rfl
 ·rw [show (8 * 2 : Int) = ((16 : Nat) : Int) from rfl, kP v (by omega) (c := 65536) (by decide) (by decide)]; rfl
 ·rw [show (8 * 3 : Int) = ((24 : Nat) : Int) from rfl, kP v (by omega) (c := 16777216) (by decide) (by decide)]; rfl
 ·rw [show (8 * 4 : Int) = ((32 : Nat) : Int) from rfl, kP v (by omega) (c := 4294967296) (by decide) (by decide)]; rfl
 ·rw [show (8 * 5 : Int) = ((40 : Nat) : Int) from rfl, kP v (by omega) (c := 1099511627776) (by decide) (by decide)]; rfl
 ·rw [show (8 * 6 : Int) = ((48 : Nat) : Int) from rfl, kP v (by omega) (c := 281474976710656) (by decide) (by decide)]; rfl
 ·rw [show (8 * 7 : Int) = ((56 : Nat) : Int) from rfl, kP v (by omega) (c := 72057594037927936) (by decide) (by decide)]; rfl
theorem AN {l : List Int} {v : Int} (hl : l.length ≤ 1000000) : o5 l v = some (l ++ jF v) := by
 refine Ok.eq ?_
 unfold o5
 refine ip (fun _ i => (8 - i).toNat) (fun q i => 0 ≤ i ∧ i ≤ 8 ∧ q = l ++ (jF v).take i.toNat) (fun _ _ r => r = l ++ jF v) ?_ BIG l 0 ⟨by omega, by omega, by simp⟩ (gp (by omega))
 intro q i k ⟨i0, i1, hq⟩ hk
 have hw : (jF v).length = 8 := rfl
 unfold wj
 refine Ok.ite (fun hi => ?_) fun hi => ?_
 ·obtain ⟨h1, h2⟩ := byte_at (v := v) i0 hi
  refine Ok.bindEq h1 ?_
  refine Ok.bindEq (gl (by rw [hq]; simp; omega)) ?_
  rw [gh (x := i + 1) (by omega) (by omega)]
  refine hk _ _ ⟨by omega, by omega, ?_⟩ (by omega)
  rw [iv h2, hq, List.append_assoc]
 ·unfold wi
  refine Ok.some ?_
  rw [hq, List.take_of_length_le (by omega)]
def W56 (v : Int) : Prop := 0 ≤ v ∧ v < 72057594037927936
theorem W56.w {v : Int} (h : W56 v) : W64 v := ⟨h.1, by have := h.2; omega⟩
theorem word_inj {v w : Int} (hv : W56 v) (hw : W56 w) (h : jF v = jF w) : v = w := by
 obtain ⟨v0, v1⟩ := hv
 obtain ⟨w0, w1⟩ := hw
 simp only [jF, List.cons.injEq] at h
 obtain ⟨a0, a1, a2, a3, a4, a5, a6, _⟩ := h
 omega
theorem yZ (v : Int) : ∀ b ∈ jF v, 0 ≤ b ∧ b < 256 := by
 intro b hb
 simp only [jF, List.mem_cons, List.not_mem_nil, or_false] at hb
 rcases hb with rfl | rfl | rfl | rfl | rfl | rfl | rfl | rfl <;> omega
def iE : List Int → List Int
 | [] => []
 | v :: r => jF v ++ iE r
theorem qd : ∀ (l : List Int) (v : Int), iE (l ++ [v]) = iE l ++ jF v
 | [], v => by simp [iE]
 | x :: l, v => by simp only [List.cons_append, iE, qd l v, List.append_assoc]
theorem jH : ∀ l : List Int, (iE l).length = 8 * l.length
 | [] => rfl
 | v :: r => by
  have := jH r
  have h8 : (jF v).length = 8 := rfl
  simp only [iE, List.length_append, List.length_cons]; omega
theorem uh : ∀ (l : List Int), ∀ b ∈ iE l, 0 ≤ b ∧ b < 256
 | [], b, h => by cases h
 | v :: r, b, h => by
  rcases List.mem_append.1 h with h | h
  ·exact yZ v b h
  ·exact uh r b h
theorem ug : ∀ {l m : List Int}, l.length = m.length → (∀ v ∈ l, W56 v) → (∀ v ∈ m, W56 v) → iE l = iE m → l = m
 | [], [], _, _, _, _ => rfl
 | [], _ :: _, h, _, _, _ => by simp at h
 | _ :: _, [], h, _, _, _ => by simp at h
 | v :: l, w :: m, h, h1, h2, e => by
  unfold iE at e
  obtain ⟨e1, e2⟩ := List.append_inj e rfl
  rw [word_inj (h1 v (.head _)) (h2 w (.head _)) e1, ug (by simpa using h) (fun x hx => h1 x (.tail _ hx)) (fun x hx => h2 x (.tail _ hx)) e2]
theorem qc : ∀ {l : List Int}, l ≠ [] → (∀ v ∈ l, W56 v) → ∃ p, iE l = p ++ [0]
 | [], h, _ => absurd rfl h
 | [v], _, h => by
  obtain ⟨v0, v1⟩ := h v (.head _)
  refine ⟨[v % 256, v / 256 % 256, v / 65536 % 256, v / 16777216 % 256, v / 4294967296 % 256, v / 1099511627776 % 256, v / 281474976710656 % 256], ?_⟩
  have : v / 72057594037927936 % 256 = 0 := by omega
  simp [iE, jF, this]
 | v :: w :: r, _, h => by
  obtain ⟨p, hp⟩ := qc (l := w :: r) (by simp) fun x hx => h x (.tail _ hx)
  refine ⟨jF v ++ p, ?_⟩
  show jF v ++ iE (w :: r) = _
  rw [hp, List.append_assoc]
def uI (c : Bool × List Int) : List Int := jF (c.2.length : Int) ++ ((if c.1 = true then [1] else []) ++ (iE c.2 ++ [2]))
def iH : List (Bool × List Int) → List Int
 | [] => []
 | c :: r => uI c ++ iH r
theorem pZ : ∀ (l : List (Bool × List Int)) c, iH (l ++ [c]) = iH l ++ uI c
 | [], c => by simp [iH]
 | x :: l, c => by simp only [List.cons_append, iH, pZ l c, List.append_assoc]
theorem uJ {b b' : List Int} {r r' : List Int} (hl : b.length = b'.length) (h1 : ∀ v ∈ b, W56 v) (h : 1 :: (iE b ++ 2 :: r) = iE b' ++ 2 :: r') : False := by
 have hl' : (iE b').length = (iE b).length := by rw [jH, jH, hl]
 cases hb : b with
 | nil =>
  rw [hb] at hl h
  have : b' = [] := by simpa using hl.symm
  subst this
  simp [iE] at h
 | cons v t =>
  obtain ⟨p, hp⟩ := qc (l := b) (by rw [hb]; simp) h1
  rw [hp] at h hl'
  have e : 1 :: (p ++ [0] ++ 2 :: r) = (1 :: p) ++ 0 :: 2 :: r := by simp
  rw [e] at h
  obtain ⟨_, e2⟩ := List.append_inj h (by rw [hl']; simp)
  simp at e2
theorem tq : ∀ {l m : List (Bool × List Int)}, l.length = m.length → (∀ c ∈ l, c.2.length < 1000000 ∧ ∀ v ∈ c.2, W56 v) → (∀ c ∈ m, c.2.length < 1000000 ∧ ∀ v ∈ c.2, W56 v) → iH l = iH m → l = m
 | [], [], _, _, _, _ => rfl
 | [], _ :: _, h, _, _, _ => by simp at h
 | _ :: _, [], h, _, _, _ => by simp at h
 | (a, b) :: l, (a', b') :: m, h, h1, h2, e => by
  obtain ⟨g1, g2⟩ := h1 _ (.head _)
  obtain ⟨g3, g4⟩ := h2 _ (.head _)
  simp only at g1 g2 g3 g4
  unfold iH uI at e
  simp only [List.append_assoc] at e
  obtain ⟨e1, e2⟩ := List.append_inj e rfl
  have hl : b.length = b'.length := by
   have := word_inj (v := (b.length : Int)) (w := (b'.length : Int)) ⟨by omega, by omega⟩ ⟨by omega, by omega⟩ e1
   omega
  have hlw : (iE b).length = (iE b').length := by rw [jH, jH, hl]
  have hsame : iE b ++ ([2] ++ iH l) = iE b' ++ ([2] ++ iH m) → a = a' → (a, b) :: l = (a', b') :: m := fun e3 ea => by
   obtain ⟨e4, e5⟩ := List.append_inj e3 hlw
   have e5 : iH l = iH m := by simpa using e5
   rw [ea, ug hl g2 g4 e4, tq (by simpa using h) (fun c hc => h1 c (.tail _ hc)) (fun c hc => h2 c (.tail _ hc)) e5]
  cases a with
  | true =>
   cases a' with
   | true => exact hsame (by simpa using e2) rfl
   | false =>
    exfalso
    refine uJ (b := b) (b' := b') (r := iH l) (r' := iH m) hl g2 ?_
    simpa using e2
  | false =>
   cases a' with
   | true =>
    exfalso
    refine uJ (b := b') (b' := b) (r := iH m) (r' := iH l) hl.symm g4 ?_
    simpa using e2.symm
   | false => exact hsame (by simpa using e2) rfl
theorem tt : ∀ (l : List (Bool × List Int)), ∀ b ∈ iH l, 0 ≤ b ∧ b < 256
 | [], b, h => by cases h
 | c :: r, b, h => by
  rcases List.mem_append.1 h with h | h
  ·unfold uI at h
   rcases List.mem_append.1 h with h | h
   ·exact yZ _ b h
   rcases List.mem_append.1 h with h | h
   ·split at h
    ·rw [List.mem_singleton] at h; subst h; omega
    ·cases h
   rcases List.mem_append.1 h with h | h
   ·exact uh _ b h
   ·rw [List.mem_singleton] at h; subst h; omega
  ·exact tt r b h
theorem tr : ∀ (l : List (Bool × List Int)), (∀ c ∈ l, c.2.length ≤ 1000) → (iH l).length ≤ 8010 * l.length
 | [], _ => by simp [iH]
 | c :: r, h => by
  have h1 := tr r fun x hx => h x (.tail _ hx)
  have h2 := h c (.head _)
  have h3 := jH c.2
  have h8 : (jF (c.2.length : Int)).length = 8 := rfl
  have h4 : (if c.1 = true then [(1 : Int)] else []).length ≤ 1 := by split <;> simp
  simp only [iH, uI, List.length_append, List.length_cons, List.length_nil]; omega
def jB (d : List Bool) : List Int := d.map fun b => if b = true then 1 else 0
theorem tD : ∀ {d e : List Bool}, jB d = jB e → d = e
 | [], [], _ => rfl
 | [], _ :: _, h => by simp [jB] at h
 | _ :: _, [], h => by simp [jB] at h
 | a :: d, b :: e, h => by
  simp only [jB, List.map_cons, List.cons.injEq] at h
  rw [tD (d := d) (e := e) h.2]
  cases a <;> cases b <;> simp at h <;> rfl
def stT (d : List Bool) (C : List fJ) : List Int := jB d ++ iH (chT C)
def stB (d : List Bool) (C : List fJ) : ByteArray := zR (stT d C)
theorem Ej {l m : List Int} (hl : ∀ b ∈ l, 0 ≤ b ∧ b < 256) (hm : ∀ b ∈ m, 0 ≤ b ∧ b < 256) (h : zR l = zR m) : l = m := by
 unfold zR at h
 have h : l.map (fun x => UInt8.ofNat x.toNat) = m.map (fun x => UInt8.ofNat x.toNat) := by
  have := congrArg (fun b : ByteArray => b.data.toList) h
  simpa using this
 have key : ∀ l m : List Int, (∀ b ∈ l, 0 ≤ b ∧ b < 256) → (∀ b ∈ m, 0 ≤ b ∧ b < 256) → l.map (fun x => UInt8.ofNat x.toNat) = m.map (fun x => UInt8.ofNat x.toNat) → l = m := by
  intro l
  induction l with
  | nil => intro m _ _ h; cases m with
   | nil => rfl
   | cons => simp at h
  | cons x l ih =>
   intro m h1 h2 h
   cases m with
   | nil => simp at h
   | cons y m =>
    simp only [List.map_cons, List.cons.injEq] at h
    obtain ⟨x0, x1⟩ := h1 x (.head _)
    obtain ⟨y0, y1⟩ := h2 y (.head _)
    have e := congrArg UInt8.toNat h.1
    rw [UInt8.toNat_ofNat', UInt8.toNat_ofNat', Nat.mod_eq_of_lt (by omega), Nat.mod_eq_of_lt (by omega)] at e
    rw [ih m (fun b hb => h1 b (.tail _ hb)) (fun b hb => h2 b (.tail _ hb)) h.2]
    congr 1; omega
 exact key l m hl hm h
theorem zA (d : List Bool) : ∀ b ∈ jB d, 0 ≤ b ∧ b < 256 := by
 intro b hb
 obtain ⟨x, _, rfl⟩ := List.mem_map.1 hb
 split <;> omega
theorem xG (d : List Bool) (C : List fJ) : ∀ b ∈ stT d C, 0 ≤ b ∧ b < 256 := by
 intro b hb
 rcases List.mem_append.1 hb with hb | hb
 ·exact zA d b hb
 ·exact tt _ b hb
structure Ch56 (caps : List Int) (C : List fJ) : Prop where
 w : ChW caps C
 v : ∀ c ∈ C, ∀ v ∈ c.buffer, W56 v
theorem E9 {d e : List Bool} {C D : List fJ} {caps : List Int} (hd : d.length = e.length) (hC : Ch56 caps C) (hD : Ch56 caps D) (h : stB d C = stB e D) : d = e ∧ C = D := by
 have h := Ej (xG d C) (xG e D) h
 unfold stT at h
 obtain ⟨h1, h2⟩ := List.append_inj h (by simp [jB, hd])
 have hcap : C.map (·.capacity) = D.map (·.capacity) := by rw [hC.w.caps, hD.w.caps]
 have hl : C.length = D.length := by simpa using congrArg List.length hcap
 have hr : ∀ {E : List fJ}, Ch56 caps E → ∀ c ∈ chT E, c.2.length < 1000000 ∧ ∀ v ∈ c.2, W56 v := fun {E} hE c hc => by
  unfold chT at hc
  obtain ⟨x, hx, rfl⟩ := List.mem_map.1 hc
  exact ⟨by have := hE.w.ok.buf x hx; simp only; omega, hE.v x hx⟩
 exact ⟨tD h1, xp hcap (tq (by simp [chT, hl]) (hr hC) (hr hD) h2)⟩
theorem En {l : List Int} (h : ∀ b ∈ l, 0 ≤ b ∧ b < 256) : yU l = some (zR l) := by
 unfold yU
 rw [if_pos]
 rw [List.all_eq_true]
 intro x hx
 have := h x hx
 simp; omega
theorem Ei {d : List Bool} {C : List fJ} {caps : List Int} (hd : d.length ≤ 1000) (hC : Ch56 caps C) (hc : caps.length ≤ 10) : sb d C = some (stB d C) := by
 have hlC : C.length ≤ 10 := by rw [← hC.w.caps, List.length_map] at hc; exact hc
 have hbuf := hC.w.ok.buf
 refine Ok.eq ?_
 unfold sb
 have htk : ∀ n : Nat, (iH ((chT C).take n)).length ≤ 80100 := fun n => by
  have h1 := tr ((chT C).take n) fun c hc' => by
   have hm := List.mem_of_mem_take hc'
   unfold chT at hm
   obtain ⟨x, hx, rfl⟩ := List.mem_map.1 hm
   exact hbuf x hx
  have h2 : ((chT C).take n).length ≤ 10 := by rw [List.length_take]; simp [chT]; omega
  omega
 have hfl : ∀ n : Nat, (jB (d.take n)).length ≤ 1000 := fun n => by simp [jB]; omega
 have hJ1 : ∀ l, l = jB d → Ok (sa C l) fun r => r = stB d C := by
  intro l hl
  have hfd : l.length ≤ 1000 := by rw [hl]; simp [jB]; omega
  unfold sa
  refine ip (fun _ i => ((C.length : Int) - i).toNat) (fun q i => 0 ≤ i ∧ i ≤ (C.length : Int) ∧ q = l ++ iH ((chT C).take i.toNat)) (fun _ _ r => r = stB d C) ?_ BIG l 0 ⟨by omega, by omega, by simp [iH]⟩ (gp (by omega))
  intro q i k ⟨i0, i1, hq⟩ hk
  have hql : q.length ≤ 90000 := by rw [hq, List.length_append]; have := htk i.toNat; omega
  unfold wo
  refine Ok.ite (fun hi => ?_) fun hi => ?_
  rotate_left
  ·unfold wk
   have e : q = stT d C := by rw [hq, List.take_of_length_le (by simp [chT]; omega), hl]; rfl
   refine Ok.bindEq (by rw [e]; exact En (xG d C)) (Ok.some rfl)
  obtain ⟨c, hc'⟩ : ∃ c, getI C i = some c := ⟨_, fG i0 hi⟩
  have hcb := hbuf c (fV hc')
  have hnext : (chT C).take (i + 1).toNat = (chT C).take i.toNat ++ [(c.closed, c.buffer)] := by
   unfold chT
   rw [← List.map_take, ← List.map_take, iv hc', List.map_append]; rfl
  refine Ok.bindEq hc' ?_
  rw [yY (by omega) (by omega)]
  refine Ok.bindEq (AN (by omega)) ?_
  refine Ok.bindEq hc' ?_
  have hJ4 : ∀ m : List Int, m = q ++ (jF (c.buffer.length : Int) ++ if c.closed = true then [1] else []) → Ok (o6 C i k m) fun r => r = stB d C := by
   intro m hm
   have hml : m.length ≤ 91000 := by
    have h8 : (jF (c.buffer.length : Int)).length = 8 := rfl
    have h4 : (if c.closed = true then [(1 : Int)] else []).length ≤ 1 := by split <;> simp
    rw [hm]; simp only [List.length_append]; omega
   unfold o6
   refine ip (fun _ j => ((c.buffer.length : Int) - j).toNat) (fun q2 j => 0 ≤ j ∧ j ≤ (c.buffer.length : Int) ∧ q2 = m ++ iE (c.buffer.take j.toNat)) (fun _ _ r => r = stB d C) ?_ BIG m 0 ⟨by omega, by omega, by simp [iE]⟩ (gp (by omega))
   intro q2 j k2 ⟨j0, j1, hq2⟩ hk2
   have hq2l : q2.length ≤ 100000 := by
    rw [hq2, List.length_append, jH, List.length_take]; omega
   unfold wn
   refine Ok.bindEq hc' ?_
   refine Ok.ite (fun hj => ?_) fun hj => ?_
   ·obtain ⟨v, hv⟩ : ∃ v, getI c.buffer j = some v := ⟨_, fG j0 hj⟩
    refine Ok.bindEq hc' ?_
    refine Ok.bindEq hv ?_
    refine Ok.bindEq (AN (by omega)) ?_
    rw [gh (by omega) (by omega)]
    refine hk2 _ _ ⟨by omega, by omega, ?_⟩ (by omega)
    rw [iv hv, qd, hq2, List.append_assoc]
   ·unfold wm
    refine Ok.bindEq (gl (by simp; omega)) ?_
    unfold wl
    rw [gh (by omega) (by omega)]
    refine hk _ _ ⟨by omega, by omega, ?_⟩ (by omega)
    rw [hnext, pZ, hq2, hm, hq, show c.buffer.take j.toNat = c.buffer from List.take_of_length_le (by omega)]
    simp [uI]
  refine Ok.ite (fun hcl => ?_) fun hcl => ?_
  ·refine Ok.bindEq (gl (by simp [jF]; omega)) ?_
   exact hJ4 _ (by rw [if_pos hcl]; simp)
  ·exact hJ4 _ (by rw [if_neg hcl]; simp)
 refine ip (fun _ i => ((d.length : Int) - i).toNat) (fun q i => 0 ≤ i ∧ i ≤ (d.length : Int) ∧ q = jB (d.take i.toNat)) (fun _ _ r => r = stB d C) ?_ BIG [] 0 ⟨by omega, by omega, by simp [jB]⟩ (gp (by omega))
 intro q i k ⟨i0, i1, hq⟩ hk
 have hql : q.length ≤ 1000 := by rw [hq]; exact hfl _
 unfold wq
 refine Ok.ite (fun hi => ?_) fun hi => ?_
 ·obtain ⟨b, hb⟩ : ∃ b, getI d i = some b := ⟨_, fG i0 hi⟩
  refine Ok.bindEq hb ?_
  rw [gh (by omega) (by omega)]
  have e : ∀ z : Int, (z = if b = true then 1 else 0) → q ++ [z] = jB (d.take (i + 1).toNat) := fun z hz => by
   rw [iv hb, hq]; unfold jB; rw [List.map_append, hz]; rfl
  refine Ok.ite (fun h => ?_) fun h => ?_
  ·refine Ok.bindEq (gl (by simp; omega)) ?_
   exact hk _ _ ⟨by omega, by omega, e 1 (by rw [if_pos h])⟩ (by omega)
  ·refine Ok.bindEq (gl (by simp; omega)) ?_
   exact hk _ _ ⟨by omega, by omega, e 0 (by rw [if_neg h])⟩ (by omega)
 ·exact hJ1 q (by rw [hq, List.take_of_length_le (by omega)])
def tP (l : List fJ) (x y : Case) : Bool := decide (x.channel = y.channel) && ((x.send != y.send) && uR l x.channel)
def jG (l : List fJ) (xs ys : List Case) : Bool := xs.any fun x => ys.any (tP l x)
def pqS (x y : Case) (n m : Int) : gq := if x.send = true then gq.mk (rS n) (rV m x.value) else gq.mk (rV n y.value) (rS m)
theorem l0 {l : List fJ} {a b : Op} {x y : Case} {n m : Int} (ha : gI a n = some x) (hb : gI b m = some y) :
  (gV l a (pqS x y n m).x0 b (pqS x y n m).x1 || gV l b (pqS x y n m).x1 a (pqS x y n m).x0) = tP l x y := by
 unfold pqS gV tP
 cases hs : x.send
 ·simp only [Bool.false_eq_true, if_false]
  simp only [rV, rS, ha, hb]
  unfold nQ
  by_cases hch : x.channel = y.channel
  ·cases hy : y.send <;> simp [hs, hch, gK]
  ·cases hy : y.send <;> simp [hs, hch, gK, Ne.symm hch]
 ·simp only [if_true]
  simp only [rV, rS, ha, hb]
  unfold nQ
  by_cases hch : x.channel = y.channel
  ·cases hy : y.send <;> simp [hs, hch, gK]
  ·cases hy : y.send <;> simp [hs, hch, gK, Ne.symm hch]
theorem FI {op : Op} (h : op.kind = 3) : casesS op = [] := by unfold casesS jC; simp [h]
theorem cases_num' {op : Op} {i : Nat} {x : Case} (h : (casesS op)[i]? = some x) : gI op (numOf op i) = some x := by
 by_cases h3 : op.kind = 3
 ·rw [FI h3] at h; simp at h
 ·exact pn h3 h
theorem jp {op : Op} {i : Int} {x : Case} (h : getI (casesS op) i = some x) : gI op (numOf op i) = some x := by
 obtain ⟨h0, h1, h2⟩ := fL h
 rw [h2]; exact cases_num' h1
def iZ (l : List fJ) (a b : Op) (p : gq) : Prop := (gV l a p.x0 b p.x1 || gV l b p.x1 a p.x0) = true
theorem zo {l : List fJ} {a b : Op} (ha : OpM a) (hb : OpM b) : Ok (pQ l a b) fun r => (∀ p ∈ r, iZ l a b p) ∧ (0 < r.length ↔ jG l (casesS a) (casesS b) = true) ∧ r.length ≤ 1000000 := by
 unfold pQ
 refine Ok.bindEq (jv a) ?_
 refine Ok.bindEq (jv b) ?_
 have hal := ha.casesLen
 have hbl := hb.casesLen
 have hxs := @jp a
 have hys := @jp b
 generalize hxs' : casesS a = xs at *
 generalize hys' : casesS b = ys at *
 refine ip (fun _ i => ((xs.length : Int) - i).toNat) (fun out i => 0 ≤ i ∧ i ≤ (xs.length : Int) ∧ (out.length : Int) ≤ 1000 * i ∧ (∀ p ∈ out, iZ l a b p) ∧ ((0 < out.length ∨ jG l (xs.drop i.toNat) ys = true) ↔ jG l xs ys = true)) (fun _ _ => _) ?_ BIG [] 0 ⟨by omega, by omega, by simp, by simp, by simp⟩ (gp (by omega))
 intro out i k ⟨h0, h1, hout, hp, hany⟩ hk
 unfold r6
 refine Ok.ite (fun h => ?_) fun h => ?_
 ·have hg := fG h0 h
  rw [ij hg] at hany
  generalize xs[i.toNat]'(by omega) = x at *
  have hcx := hxs hg
  refine ip (fun _ j => ((ys.length : Int) - j).toNat) (fun out j => 0 ≤ j ∧ j ≤ (ys.length : Int) ∧ (out.length : Int) ≤ 1000 * i + j ∧ (∀ p ∈ out, iZ l a b p) ∧ ((0 < out.length ∨ (ys.drop j.toNat).any (tP l x) = true ∨ jG l (xs.drop (i + 1).toNat) ys = true) ↔ jG l xs ys = true)) (fun _ _ => _) ?_ BIG out 0 ⟨by omega, by omega, by omega, hp, by rw [← hany]; simp [jG]⟩ (gp (by omega))
  intro out j k2 ⟨g0, g1, hout2, hp2, hany2⟩ hk2
  unfold r5
  refine Ok.ite (fun h2 => ?_) fun h2 => ?_
  ·have hgy := fG g0 h2
   rw [ij hgy] at hany2
   generalize ys[j.toNat]'(by omega) = y at *
   have hcy := hys hgy
   have hfin : Ok (pP l a (pqS x y (numOf a i) (numOf b j)).x0 b (pqS x y (numOf a i) (numOf b j)).x1 |>.bind fun t => if t = true then (app out [pqS x y (numOf a i) (numOf b j)]).bind fun o => k2 o (wI (j + 1)) else k2 out (wI (j + 1))) (fun r => (∀ p ∈ r, iZ l a b p) ∧ (0 < r.length ↔ jG l xs ys = true) ∧ r.length ≤ 1000000) := by
    rw [ma]
    simp only [Option.bind_some]
    rw [l0 hcx hcy, gh (by omega) (by omega)]
    refine Ok.ite (fun hm => ?_) fun hm => ?_
    ·rw [gl (by simp; omega)]
     simp only [Option.bind_some]
     refine hk2 _ _ ⟨by omega, by omega, by simp; omega, fun p hp' => ?_, ?_⟩ (by omega)
     ·rcases List.mem_append.1 hp' with hp' | hp'
      ·exact hp2 p hp'
      ·simp at hp'; subst hp'
       unfold iZ; rw [l0 hcx hcy]; exact hm
     ·rw [← hany2]
      simp [hm]
    ·refine hk2 _ _ ⟨by omega, by omega, by omega, hp2, ?_⟩ (by omega)
     rw [← hany2]
     simp [hm]
   have hJ4 : Ok (mG l out xs ys i j (numOf a i) b a k k2 (numOf b j)) (fun r => (∀ p ∈ r, iZ l a b p) ∧ (0 < r.length ↔ jG l xs ys = true) ∧ r.length ≤ 1000000) := by
    unfold mG r4 o4
    rw [hg, hgy]
    simp only [Option.bind_some]
    unfold pqS at hfin
    cases hs : x.send
    ·simp only [hs, Bool.false_eq_true, if_false] at hfin ⊢
     exact hfin
    ·simp only [hs, if_true] at hfin ⊢
     exact hfin
   have hJ3 : Ok (mH l out xs ys i j b a k k2 (numOf a i)) (fun r => (∀ p ∈ r, iZ l a b p) ∧ (0 < r.length ↔ jG l xs ys = true) ∧ r.length ≤ 1000000) := by
    unfold mH
    have e : ∀ z, z = numOf b j → Ok (mG l out xs ys i j (numOf a i) b a k k2 z) (fun r => (∀ p ∈ r, iZ l a b p) ∧ (0 < r.length ↔ jG l xs ys = true) ∧ r.length ≤ 1000000) := fun z hz => hz ▸ hJ4
    refine Ok.ite (fun h4 => e _ (by unfold numOf; rw [if_pos h4])) fun h4 => e _ (by unfold numOf; rw [if_neg h4])
   have e : ∀ z, z = numOf a i → Ok (mH l out xs ys i j b a k k2 z) (fun r => (∀ p ∈ r, iZ l a b p) ∧ (0 < r.length ↔ jG l xs ys = true) ∧ r.length ≤ 1000000) := fun z hz => hz ▸ hJ3
   refine Ok.ite (fun h4 => e _ (by unfold numOf; rw [if_pos h4])) fun h4 => e _ (by unfold numOf; rw [if_neg h4])
  ·unfold r3
   rw [gh (by omega) (by omega)]
   refine hk _ _ ⟨by omega, by omega, by omega, hp2, ?_⟩ (by omega)
   rw [← hany2, List.drop_eq_nil_of_le (show ys.length ≤ j.toNat by omega)]
   simp
 ·unfold r0
  refine Ok.some ⟨hp, ?_, by omega⟩
  rw [← hany, List.drop_eq_nil_of_le (by omega)]
  simp [jG]
end Go.Hx
