
import Derived.Test.YtphoeijgpmlbpaaGreatDoorXZDesk
import Derived.Test.YtphoeijgpmlbpaaGreatDoorHxLoops
import Derived.Test.YtphoeijgpmlbpaaGreatDoorHxIdx
set_option linter.unusedVariables false
set_option linter.unusedSimpArgs false
namespace Go.Hx
open Go
def und : List Bool → Nat
 | [] => 0
 | b :: r => (if b = true then 0 else 1) + und r
theorem zS : ∀ {d : List Bool} {i : Nat}, d[i]? = some false → und (d.set i true) + 1 = und d
 | [], _, h => by simp at h
 | b :: d, 0, h => by simp at h; subst h; simp [und]; omega
 | b :: d, i + 1, h => by
  have := zS (d := d) (i := i) (by simpa using h)
  simp only [List.set_cons_succ, und]; omega
theorem yi {d : List Bool} {i : Int} (h : getI d i = some false) : und (f6 d i true) + 1 = und d := zS (fK h).2.1
theorem jZ : ∀ (d : List Bool) (n : Nat), und (d.take n) ≤ und d
 | [], n => by simp
 | b :: d, 0 => by simp [und]
 | b :: d, n + 1 => by
  have := jZ d n
  simp only [List.take_succ_cons, und]; omega
theorem yj : ∀ {d : List Bool} {i : Nat} {b : Bool}, d[i]? = some b → und (d.take (i + 1)) = und (d.take i) + if b = true then 0 else 1
 | [], _, _, h => by simp at h
 | c :: d, 0, b, h => by simp at h; subst h; simp [und]
 | c :: d, i + 1, b, h => by
  have := yj (d := d) (i := i) (b := b) (by simpa using h)
  simp only [List.take_succ_cons, und]; omega
theorem uo {d : List Bool} {i : Int} {b : Bool} (h : getI d i = some b) : und (d.take (i + 1).toNat) = und (d.take i.toNat) + if b = true then 0 else 1 := by
 obtain ⟨h0, h1, _⟩ := fK h
 rw [show (i + 1).toNat = i.toNat + 1 by omega]
 exact yj h1
def fS : Nat → Nat
 | 0 => 1
 | 1 => 7
 | n + 2 => 1 + (n + 2) * (6 * fS (n + 1) + (n + 2) * fS n)
def g1 : Nat → Nat
 | 0 => 0
 | n + 1 => fS n
def g2 : Nat → Nat
 | n + 2 => fS n
 | _ => 0
def wS (u : Nat) : Nat := 6 * g1 u + u * g2 u
theorem Eo : ∀ u : Nat, fS u = 1 + u * wS u
 | 0 => rfl
 | 1 => rfl
 | n + 2 => rfl
theorem EV (u : Nat) : 1 ≤ fS u := by rw [Eo]; omega
theorem g1_eq {u v : Nat} (h : v + 1 = u) : g1 u = fS v := by subst h; rfl
theorem g2_eq {u v : Nat} (h : v + 2 = u) : g2 u = fS v := by subst h; rfl
theorem np {α : Type} (l : List α) (i : Int) (x : α) : (f6 l i x).length = l.length := f9
section
variable (ops : List (List Op)) (calls : List A2Int) (before : List (List Bool)) (back : List Bool) (result : List Result) (cl : Bool) (caps : List Int)
def AV (t : ByteArray) : Prop := ∀ d C, d.length = calls.length → Ch56 caps C → stB d C = t → ¬ ku ops calls before back result cl d C
def OldT (u : Nat) (t : ByteArray) : Prop := ∀ d C, d.length = calls.length → Ch56 caps C → stB d C = t → u < und d
structure wX (d : List Bool) (C : List fL) (seen : List ByteArray) (r : Bool × List ByteArray) : Prop where
 yes : r.1 = true → ku ops calls before back result cl d C
 no : r.1 = false → ¬ ku ops calls before back result cl d C ∧ ∃ new, r.2 = seen ++ new ∧ new.length ≤ fS (und d) ∧ ∀ t ∈ new, AV ops calls before back result cl caps t
def SinceT (s0 : List ByteArray) (m : Nat) (s : List ByteArray) : Prop := ∃ new, s = s0 ++ new ∧ new.length ≤ m ∧ ∀ t ∈ new, AV ops calls before back result cl caps t
structure AU (d : List Bool) (C : List fL) (i : Int) : Prop where
 one : ∀ o r, kV before back cl d i → opA ops calls i = some o → r ∈ tN back result o C i → (gu C o r).2 = true → ¬ ku ops calls before back result cl (f6 d i true) (gu C o r).1
 two : ∀ k a b x y, i < k → kV before back cl d i → kV before back cl d k → opA ops calls i = some a → opA ops calls k = some b → (gX C a x b y || gX C b y a x) = true → ke back result i x → ke back result k y → ¬ ku ops calls before back result cl (f6 (f6 d i true) k true) C
end
section
variable {ops : List (List Op)} {l : List Event} {calls : List A2Int} {before : List (List Bool)} {back : List Bool} {result : List Result} {cl : Bool} {caps : List Int}
theorem SinceT.mono {s0 s : List ByteArray} {m m' : Nat} (h : SinceT ops calls before back result cl caps s0 m s) (hm : m ≤ m') : SinceT ops calls before back result cl caps s0 m' s := by
 obtain ⟨new, h1, h2, h3⟩ := h
 exact ⟨new, h1, by omega, h3⟩
theorem E4 {d : List Bool} {C : List fL} (hs : ¬ ∀ i, getI back i = some true → getI d i = some true) (h : ∀ i, 0 ≤ i → i < (d.length : Int) → AU ops calls before back result cl d C i) : ¬ ku ops calls before back result cl d C := by
 intro hw
 cases hw with
 | stop h1 => exact hs h1
 | one hm ho hr ha hw => exact (h _ (gf hm.un).1 (gf hm.un).2).one _ _ hm ho hr ha hw
 | two hik hi hk ha hb hp hx hy hw => exact (h _ (gf hi.un).1 (gf hi.un).2).two _ _ _ _ _ hik hi hk ha hb hp hx hy hw
theorem zK (h : Sea ops calls before back result) (hcap : caps.length ≤ 10) : ∀ (fu : Nat) (d : List Bool) (C : List fL) (seen : List ByteArray), d.length = calls.length → Ch56 caps C → und d < fu → seen.length + fS (und d) ≤ 4294967296 → (∀ t ∈ seen, AV ops calls before back result cl caps t ∨ OldT calls caps (und d) t) → Ok (pt fu ops l calls before back result cl false seen d C) fun r => wX ops calls before back result cl caps d C seen r
 | 0, _, _, _, _, _, h, _, _ => by omega
 | fu + 1, d, C, seen, hd, hC, hfu, hlen, hseen => by
  have ih := fun d C seen => zK h hcap fu d C seen
  have hn := h.n
  have hfp := EV (und d)
  show Ok (rL (pt fu) ops l calls before back result cl false seen d C) _
  generalize hrc : pt fu = rc at *
  unfold rL
  refine Ok.bind (xH h hd) fun b hb => ?_
  refine Ok.ite (fun hbt => Ok.some ⟨fun _ => .stop (hb.1 hbt), fun h => (by cases h)⟩) fun hbf => ?_
  have hns : ¬ ∀ i, getI back i = some true → getI d i = some true := fun hh => hbf (hb.2 hh)
  refine Ok.bindEq (Do (by omega) hC hcap) ?_
  refine Ok.bd2 (CX (by omega)) fun kb s2 ⟨hk1, hk2⟩ => ?_
  simp only at hk1 hk2
  refine Ok.ite (fun hkt => ?_) fun hkf => ?_
  ·obtain ⟨hm, hs2⟩ := hk1 hkt
   subst hs2
   have hdead : ¬ ku ops calls before back result cl d C := by
    rcases hseen _ hm with hD | hO
    ·exact hD d C hd hC rfl
    ·exact absurd (hO d C hd hC rfl) (Nat.lt_irrefl _)
   exact Ok.some ⟨fun h => (by cases h), fun _ => ⟨hdead, [], by simp, by simp, by simp⟩⟩
  obtain ⟨hnm, hs2⟩ := hk2 (by simpa using hkf)
  subst hs2
  have hfu2 := Eo (und d)
  generalize hu : und d = u at *
  have hinj : ∀ d' C', d'.length = calls.length → Ch56 caps C' → stB d' C' = stB d C → d' = d ∧ C' = C := fun d' C' h1 h2 h3 => Ej (by omega) h2 hC h3
  have hchild : ∀ (d' : List Bool) (C' : List fL) (s : List ByteArray) (m : Nat), SinceT ops calls before back result cl caps (seen ++ [stB d C]) m s → d'.length = calls.length → Ch56 caps C' → und d' < u → m + fS (und d') ≤ u * wS u → Ok (rc ops l calls before back result cl false s d' C') fun r => (r.1 = true → ku ops calls before back result cl d' C') ∧ (r.1 = false → ¬ ku ops calls before back result cl d' C' ∧ SinceT ops calls before back result cl caps (seen ++ [stB d C]) (m + fS (und d')) r.2) := by
   intro d' C' s m hI hd' hC' hlt hm
   obtain ⟨new, rfl, hl, hD⟩ := hI
   refine (ih d' C' _ hd' hC' (by omega) (by simp; omega) fun t ht => ?_).mono fun r hr => ⟨hr.yes, fun hb => ?_⟩
   ·rcases List.mem_append.1 ht with ht | ht
    ·rcases List.mem_append.1 ht with ht | ht
     ·rcases hseen t ht with h1 | h1
      ·exact .inl h1
      ·exact .inr fun d2 C2 e1 e2 e3 => Nat.lt_trans hlt (h1 d2 C2 e1 e2 e3)
     ·rw [List.mem_singleton] at ht
      refine .inr fun d2 C2 e1 e2 e3 => ?_
      rw [(hinj d2 C2 e1 e2 (by rw [e3, ht])).1, hu]; exact hlt
    ·exact .inl (hD t ht)
   ·obtain ⟨h1, new', h2, h3, h4⟩ := hr.no hb
    refine ⟨h1, new ++ new', by rw [h2]; simp [List.append_assoc], by simp; omega, fun t ht => ?_⟩
    rcases List.mem_append.1 ht with ht | ht
    ·exact hD t ht
    ·exact h4 t ht
  have hfinal : ∀ s m, SinceT ops calls before back result cl caps (seen ++ [stB d C]) m s → m ≤ u * wS u → ¬ ku ops calls before back result cl d C → wX ops calls before back result cl caps d C seen (false, s) := by
   intro s m hI hm hno
   obtain ⟨new, rfl, hl, hD⟩ := hI
   refine ⟨fun h => (by cases h), fun _ => ⟨hno, stB d C :: new, by simp, by rw [hu, hfu2]; simp; omega, fun t ht => ?_⟩⟩
   rcases List.mem_cons.1 ht with rfl | ht
   ·intro d2 C2 e1 e2 e3
    obtain ⟨rfl, rfl⟩ := hinj d2 C2 e1 e2 e3
    exact hno
   ·exact hD t ht
  refine ie (fun i _ => ((d.length : Int) - i).toNat) (fun i s => 0 ≤ i ∧ i ≤ (d.length : Int) ∧ SinceT ops calls before back result cl caps (seen ++ [stB d C]) (und (d.take i.toNat) * wS u) s ∧ ∀ i', 0 ≤ i' → i' < i → AU ops calls before back result cl d C i') (fun _ _ r => wX ops calls before back result cl caps d C seen r) ?_ BIG 0 (seen ++ [stB d C]) ⟨by omega, by omega, ⟨[], by simp, by simp, by simp⟩, fun i' h0 h1 => by omega⟩ (gr (by omega))
  intro i s k ⟨i0, i1, hI, hdead⟩ hk
  unfold vW
  refine Ok.ite (fun hi => ?_) fun hi => ?_
  rotate_left
  ·unfold vS
   refine Ok.some (hfinal s _ hI (Nat.mul_le_mul_right _ (by rw [← hu]; exact jZ _ _)) (E4 hns fun i' h0 h1 => hdead i' h0 (by omega)))
  obtain ⟨di, hdi⟩ : ∃ b, getI d i = some b := ⟨_, fH i0 hi⟩
  have htk := uo hdi
  have hcle := jZ d (i + 1).toNat
  rw [hu] at hcle
  refine Ok.bind (C5 h hd i0 (by omega)) fun mb hmb => ?_
  have hJ2 : ∀ s', SinceT ops calls before back result cl caps (seen ++ [stB d C]) (und (d.take (i + 1).toNat) * wS u) s' → AU ops calls before back result cl d C i → Ok (oH d C i ops l calls before back result cl false k rc s') fun r => wX ops calls before back result cl caps d C seen r := fun s' h1 h2 => by
   unfold oH
   rw [gh (by omega) (by omega)]
   refine hk _ _ ⟨by omega, by omega, h1, fun i' h0 h3 => ?_⟩ (by omega)
   by_cases e : i' = i
   ·subst e; exact h2
   ·exact hdead i' h0 (by omega)
  refine Ok.ite (fun hmt => ?_) fun hmf => ?_
  rotate_left
  ·have hno : ¬ kV before back cl d i := fun hh => hmf (hmb.2 hh)
   exact hJ2 s (hI.mono (Nat.mul_le_mul_right _ (by rw [htk]; omega))) ⟨fun o r hM => absurd hM hno, fun k a b x y _ hM => absurd hM hno⟩
  have hM := hmb.1 hmt
  have hdf := hM.un
  rw [hdi] at hdf; cases hdf
  rw [if_neg (by decide)] at htk
  generalize hc : und (d.take i.toNat) = c at *
  have hAw : (c + 1) * wS u ≤ u * wS u := Nat.mul_le_mul_right _ (by omega)
  rw [Nat.succ_mul] at hAw
  have hwS : wS u = 6 * g1 u + u * g2 u := rfl
  obtain ⟨o, ho, hom, hov, hoc⟩ := h.op i i0 (by omega)
  refine Ok.bindEq (za h hC.w.ok i0 (by omega) ho hom) ?_
  have hrl : (tN back result o C i).length ≤ 6 := by
   unfold tN; split
   ·simp
   ·exact Aq hoc
  have hu1 := yi hdi
  rw [hu] at hu1
  have hg1 := g1_eq hu1
  have hd1 : (f6 d i true).length = calls.length := by rw [np]; exact hd
  generalize hA : c * wS u = A at *
  generalize hrs : tN back result o C i = rs at *
  refine ie (fun n _ => ((rs.length : Int) - n).toNat) (fun n s => 0 ≤ n ∧ n ≤ (rs.length : Int) ∧ SinceT ops calls before back result cl caps (seen ++ [stB d C]) (A + n.toNat * g1 u) s ∧ ∀ r ∈ rs.take n.toNat, (gu C o r).2 = true → ¬ ku ops calls before back result cl (f6 d i true) (gu C o r).1) (fun _ _ r => wX ops calls before back result cl caps d C seen r) ?_ BIG 0 s ⟨by omega, by omega, hI.mono (by omega), by simp⟩ (gr (by omega))
  intro n s k2 ⟨n0, n1, hI, hdn⟩ hk2
  unfold vV
  refine Ok.ite (fun hnl => ?_) fun hnl => ?_
  ·obtain ⟨r, hr⟩ : ∃ r, getI rs n = some r := ⟨_, fH n0 hnl⟩
   have hng : n.toNat * g1 u + g1 u ≤ 6 * g1 u := by
    rw [← Nat.succ_mul]; exact Nat.mul_le_mul_right _ (by omega)
   have hn1 : (n + 1).toNat * g1 u = n.toNat * g1 u + g1 u := by
    rw [show (n + 1).toNat = n.toNat + 1 by omega, Nat.succ_mul]
   rw [zD]
   refine Ok.bindEq ho ?_
   refine Ok.bindEq hr ?_
   refine Ok.bd2 (Q := fun z => z = gu C o r) ⟨_, nu hC.w.ok hom, rfl⟩ fun C' ok' hC' => ?_
   have e1 : (gu C o r).1 = C' := by rw [← hC']
   have e2 : (gu C o r).2 = ok' := by rw [← hC']
   have hgo : ∀ s', SinceT ops calls before back result cl caps (seen ++ [stB d C]) (A + (n + 1).toNat * g1 u) s' → ((gu C o r).2 = true → ¬ ku ops calls before back result cl (f6 d i true) (gu C o r).1) → Ok (sx d C i rs n ops l calls before back result cl false k k2 rc false s') fun r => wX ops calls before back result cl caps d C seen r := fun s' h1 h2 => by
    unfold sx
    rw [if_neg (by decide), gh (by omega) (by omega)]
    refine hk2 _ _ ⟨by omega, by omega, h1, fun r' hr' => ?_⟩ (by omega)
    rw [iC hr] at hr'
    rcases List.mem_append.1 hr' with hr' | hr'
    ·exact hdn r' hr'
    ·rw [List.mem_singleton] at hr'; subst hr'; exact h2
   refine Ok.ite (fun hok => ?_) fun hok => ?_
   rotate_left
   ·exact hgo s (hI.mono (by omega)) fun h => absurd (by rw [← e2]; exact h) hok
   have hap : (gu C o r).2 = true := by rw [e2]; exact hok
   have hCn := hC.apply hov hap
   rw [e1] at hCn
   refine Ok.bindEq (wP (by omega) i0 hi) ?_
   refine Ok.bd2 (hchild _ C' s _ hI hd1 hCn (by omega) (by omega)) fun b s3 ⟨q1, q2⟩ => ?_
   simp only at q1 q2
   cases b with
   | true =>
    unfold sx
    rw [if_pos rfl]
    exact Ok.some ⟨fun _ => .one hM ho (by rw [hrs]; exact fZ hr) hap (by rw [e1]; exact q1 rfl), fun h => (by cases h)⟩
   | false =>
    obtain ⟨q3, q4⟩ := q2 rfl
    exact hgo s3 (q4.mono (by omega)) fun _ => by rw [e1]; exact q3
  unfold vU
  rw [gh (by omega) (by omega)]
  have hn6 : n.toNat * g1 u ≤ 6 * g1 u := Nat.mul_le_mul_right _ (by omega)
  have hone : ∀ o' r, kV before back cl d i → opA ops calls i = some o' → r ∈ tN back result o' C i → (gu C o' r).2 = true → ¬ ku ops calls before back result cl (f6 d i true) (gu C o' r).1 := fun o' r _ ho' hr' ha => by
   rw [ho] at ho'; cases ho'
   rw [hrs] at hr'
   exact hdn r (by rw [List.take_of_length_le (by omega)]; exact hr') ha
  refine ie (fun j _ => ((d.length : Int) - j).toNat) (fun j s => i + 1 ≤ j ∧ j ≤ (d.length : Int) ∧ SinceT ops calls before back result cl caps (seen ++ [stB d C]) (A + 6 * g1 u + und (d.take j.toNat) * g2 u) s ∧ ∀ k', k' < j → ∀ a b x y, i < k' → kV before back cl d i → kV before back cl d k' → opA ops calls i = some a → opA ops calls k' = some b → (gX C a x b y || gX C b y a x) = true → ke back result i x → ke back result k' y → ¬ ku ops calls before back result cl (f6 (f6 d i true) k' true) C) (fun _ _ r => wX ops calls before back result cl caps d C seen r) ?_ BIG (i + 1) s ⟨by omega, by omega, hI.mono (by omega), fun k' hk' a b x y hik => by omega⟩ (gr (by omega))
  intro j s k3 ⟨j0, j1, hI, hdj⟩ hk3
  unfold vT
  refine Ok.ite (fun hj => ?_) fun hj => ?_
  rotate_left
  ·refine hJ2 s (hI.mono ?_) ⟨hone, fun k' a b x y hik h1 h2 => hdj k' (by have := (gf h2.un).2; omega) a b x y hik h1 h2⟩
   have h9 : und (d.take j.toNat) * g2 u ≤ u * g2 u := Nat.mul_le_mul_right _ (by rw [← hu]; exact jZ _ _)
   rw [htk, show (c + 1) * wS u = c * wS u + wS u from Nat.succ_mul _ _, hA]; omega
  obtain ⟨dj, hdj'⟩ : ∃ b, getI d j = some b := ⟨_, fH (by omega) hj⟩
  have htj := uo hdj'
  have hjle : und (d.take (j + 1).toNat) * g2 u ≤ u * g2 u := Nat.mul_le_mul_right _ (by rw [← hu]; exact jZ _ _)
  have hgo : ∀ s', SinceT ops calls before back result cl caps (seen ++ [stB d C]) (A + 6 * g1 u + und (d.take (j + 1).toNat) * g2 u) s' → (∀ a b x y, kV before back cl d j → opA ops calls i = some a → opA ops calls j = some b → (gX C a x b y || gX C b y a x) = true → ke back result i x → ke back result j y → ¬ ku ops calls before back result cl (f6 (f6 d i true) j true) C) → Ok (pr d C i j ops l calls before back result cl false k k3 rc false s') fun r => wX ops calls before back result cl caps d C seen r := fun s' h1 h2 => by
   unfold pr
   rw [if_neg (by decide), gh (by omega) (by omega)]
   refine hk3 _ _ ⟨by omega, by omega, h1, fun k' hk' a b x y hik g1' g2' g3 g4 g5 g6 g7 => ?_⟩ (by omega)
   by_cases e : k' = j
   ·subst e; exact h2 a b x y g2' g3 g4 g5 g6 g7
   ·exact hdj k' (by omega) a b x y hik g1' g2' g3 g4 g5 g6 g7
  have hsame : und (d.take j.toNat) * g2 u ≤ und (d.take (j + 1).toNat) * g2 u := Nat.mul_le_mul_right _ (by rw [htj]; omega)
  refine Ok.bind (C5 h hd (by omega) (by omega)) fun mj hmj => ?_
  refine Ok.ite (fun hmjt => ?_) fun hmjf => ?_
  rotate_left
  ·exact hgo s (hI.mono (by omega)) fun a b x y hMj => absurd (hmj.2 hMj) hmjf
  have hMj := hmj.1 hmjt
  have hdf := hMj.un
  rw [hdj'] at hdf; cases hdf
  rw [if_neg (by decide)] at htj
  rw [htj, Nat.succ_mul] at hjle
  obtain ⟨o2, ho2, hom2, hov2, hoc2⟩ := h.op j (by omega) (by omega)
  refine Ok.bind (D6 h i0 (by omega) (by omega) (by omega) ho hom ho2 hom2) fun mt hmt2 => ?_
  refine Ok.ite (fun hmtt => ?_) fun hmtf => ?_
  rotate_left
  ·refine hgo s (hI.mono (by omega)) fun a b x y _ g3 g4 g5 g6 g7 => ?_
   rw [ho] at g3; cases g3
   rw [ho2] at g4; cases g4
   exact absurd (hmt2.2 ⟨x, y, g5, g6, g7⟩) hmtf
  refine Ok.bindEq (wP (by omega) i0 hi) ?_
  refine Ok.bindEq (wP (by rw [np]; omega) (by omega) (by rw [np]; omega)) ?_
  have hdj2 : getI (f6 d i true) j = some false := by
   rw [jq i0 hi, if_neg (by omega)]; exact hdj'
  have hu2 := yi hdj2
  have hg2 := g2_eq (u := u) (v := und (f6 (f6 d i true) j true)) (by omega)
  refine Ok.bd2 (hchild _ C s _ hI (by rw [np]; exact hd1) hC (by omega) (by omega)) fun b s3 ⟨q1, q2⟩ => ?_
  simp only at q1 q2
  cases b with
  | true =>
   unfold pr
   rw [if_pos rfl]
   obtain ⟨x, y, g5, g6, g7⟩ := hmt2.1 hmtt
   exact Ok.some ⟨fun _ => .two (by omega) hM hMj ho ho2 g5 g6 g7 (q1 rfl), fun h => (by cases h)⟩
  | false =>
   obtain ⟨q3, q4⟩ := q2 rfl
   refine hgo s3 (q4.mono ?_) fun a b x y _ _ _ _ _ _ => q3
   rw [htj, show (und (d.take j.toNat) + 1) * g2 u = und (d.take j.toNat) * g2 u + g2 u from Nat.succ_mul _ _]; omega
end
def gj (l : List Event) : List A2Int := (l.filter fun e => !e.ret).map fun e => A2Int.mk e.thread e.op
theorem yZ (l : List Event) : (gj l).length ≤ l.length := by unfold gj; rw [List.length_map]; exact List.length_filter_le _ _
theorem AB {l : List Event} {c : A2Int} : c ∈ gj l ↔ ∃ e ∈ l, isE c.x0 c.x1 false e = true := by
 unfold gj
 simp only [List.mem_map, List.mem_filter]
 constructor
 ·rintro ⟨e, ⟨h1, h2⟩, rfl⟩
  exact ⟨e, h1, by simpa [isE] using h2⟩
 ·rintro ⟨e, h1, h2⟩
  simp [isE] at h2
  exact ⟨e, ⟨h1, by simp [h2.2.2]⟩, by obtain ⟨x0, x1⟩ := c; simp at h2; simp [h2]⟩
theorem x5 (l : List Event) (t o : Int) (b : Bool) : o5 l t o b = o6 l t o b := by
 unfold o5 o6
 have : rm l t o b = rR t o b l := by
  funext k i
  unfold rm rR
  cases h : getI l i <;> simp [vo, qj, oi, rQ]
 rw [this]
theorem mn {l : List Event} {t o : Int} {b : Bool} (hl : l.length ≤ 1000000000) : o5 l t o b = some (gk l t o b) := by rw [x5, oQ hl]
theorem pP {l : List Event} {t o : Int} (hl : l.length ≤ 1000000000) : rn l t o = some (mA l t o) := by
 rw [← pw hl]
 unfold rn tP
 rw [x5]
def lM (l : List Event) (a b : A2Int) : Bool := decide (0 ≤ gk l a.x0 a.x1 true) && (decide (0 ≤ gk l b.x0 b.x1 false) && decide (gk l a.x0 a.x1 true < gk l b.x0 b.x1 false))
theorem pO {l : List Event} {a b : A2Int} (hl : l.length ≤ 1000000000) : rp l a b = some (lM l a b) := by
 unfold rp lM oj
 rw [mn hl, mn hl]
 simp only [Option.bind_some, ge_iff_le]
 split
 ·split
  ·rename_i h1 h2; simp [h1, h2, gR]
  ·rename_i h1 h2; simp [h1, h2]
 ·rename_i h1; simp [h1]
theorem wF {l : List Event} (hl : l.length ≤ 1000000000) : rk l = some (gj l) := by
 unfold rk gj
 have key : ∀ n p i, (0 ≤ i ∧ i ≤ (l.length : Int) ∧ (p.length : Int) ≤ i) → ((l.length : Int) - i).toNat < n → Ok (lp2 (rj l) n p i) (fun r => r = p ++ ((l.drop i.toNat).filter fun e => !e.ret).map fun e => A2Int.mk e.thread e.op) := by
  refine ie (fun _ i => ((l.length : Int) - i).toNat) (fun p i => 0 ≤ i ∧ i ≤ (l.length : Int) ∧ (p.length : Int) ≤ i) (fun p i r => r = p ++ ((l.drop i.toNat).filter fun e => !e.ret).map fun e => A2Int.mk e.thread e.op) ?_
  intro p i k ⟨h0, h1, hp⟩ hk
  unfold rj
  refine Ok.ite (fun h => ?_) fun h => ?_
  ·have hg := fH h0 h
   rw [hg]
   simp only [Option.bind_some]
   rw [iv hg]
   generalize l[i.toNat]'(by omega) = e at *
   rw [gh (x := i + 1) (by omega) (by omega)]
   refine Ok.ite (fun h2 => ?_) fun h2 => ?_
   ·refine (hk p (i + 1) ⟨by omega, by omega, by omega⟩ (by omega)).mono fun r hr => ?_
    rw [hr, List.filter_cons, if_neg (by simp [h2])]
   ·rw [gi (by simp; omega)]
    simp only [Option.bind_some]
    refine (hk _ (i + 1) ⟨by omega, by omega, by simp; omega⟩ (by omega)).mono fun r hr => ?_
    rw [hr, List.filter_cons, if_pos (by simpa using h2)]
    simp
  ·unfold vn
   refine Ok.some ?_
   rw [List.drop_eq_nil_of_le (by omega)]; simp
 simpa using (key BIG [] 0 ⟨by omega, by omega, by simp⟩ (gr (by omega))).eq
def iZ (l : List Event) : List (List Bool) := (gj l).map fun a => (gj l).map fun b => lM l a b
def jJ (l : List Event) : List Bool := (gj l).map fun c => dcd (gk l c.x0 c.x1 true ≥ 0)
def jh (l : List Event) : List Result := (gj l).map fun c => (mA l c.x0 c.x1).1
theorem jW {α β : Type} {f : α → β} {l : List α} {i : Int} : getI (l.map f) i = (getI l i).map f := by
 by_cases h : 0 ≤ i
 ·obtain ⟨k, rfl⟩ : ∃ k : Nat, i = (k : Int) := ⟨i.toNat, by omega⟩
  rw [ij, ij, List.getElem?_map]
 ·rw [gC (.inl (by omega)), gC (.inl (by omega))]; rfl
theorem Dn {ops : List (List Op)} {l : List Event} {cl st : Bool} (hl : l.length ≤ 100000) : rq ops l cl st = some (ops, l, gj l, iZ l, jJ l, jh l, cl, st) := by
 refine Ok.eq ?_
 have hcl := yZ l
 unfold rq
 refine Ok.bindEq (wF (by omega)) ?_
 generalize hcs : gj l = cs at *
 have hB : iZ l = cs.map fun a => cs.map fun b => lM l a b := by unfold iZ; rw [hcs]
 have hK : jJ l = cs.map fun c => dcd (gk l c.x0 c.x1 true ≥ 0) := by unfold jJ; rw [hcs]
 have hR : jh l = cs.map fun c => (mA l c.x0 c.x1).1 := by unfold jh; rw [hcs]
 refine td (fun i _ _ _ => ((cs.length : Int) - i).toNat) (fun i be ba re => 0 ≤ i ∧ i ≤ (cs.length : Int) ∧ be = (cs.take i.toNat).map (fun a => cs.map fun b => lM l a b) ∧ ba = (cs.take i.toNat).map (fun c => dcd (gk l c.x0 c.x1 true ≥ 0)) ∧ re = (cs.take i.toNat).map (fun c => (mA l c.x0 c.x1).1)) (fun _ _ _ _ r => r = (ops, l, cs, iZ l, jJ l, jh l, cl, st)) ?_ BIG 0 [] [] [] ⟨by omega, by omega, by simp, by simp, by simp⟩ (gr (by omega))
 intro i be ba re k ⟨i0, i1, h1, h2, h3⟩ hk
 unfold vw
 refine Ok.ite (fun hi => ?_) fun hi => ?_
 rotate_left
 ·unfold vp
  refine Ok.some ?_
  rw [h1, h2, h3, hB, hK, hR, List.take_of_length_le (by omega)]
 obtain ⟨c, hc⟩ : ∃ c, getI cs i = some c := ⟨_, fH i0 hi⟩
 have htk := iC hc
 refine Ok.bindEq hc ?_
 refine Ok.bindEq hc ?_
 refine Ok.bd2 (Q := fun x => x = mA l c.x0 c.x1) ⟨_, pP (by omega), rfl⟩ fun r n hrn => ?_
 have hr : r = (mA l c.x0 c.x1).1 := by rw [← hrn]
 have hn : n = gk l c.x0 c.x1 true := by rw [← x6, ← hrn]
 unfold vv
 refine Ok.bindEq (gi (by rw [h2]; simp; omega)) ?_
 refine Ok.bindEq (gi (by rw [h3]; simp; omega)) ?_
 unfold vu
 refine Ok.bindEq (jR (by omega) (by omega)) ?_
 refine ie (fun _ j => ((cs.length : Int) - j).toNat) (fun row j => 0 ≤ j ∧ j ≤ (cs.length : Int) ∧ row.length = cs.length ∧ ∀ q b, q < j → getI cs q = some b → getI row q = some (lM l c b)) (fun _ _ r => r = (ops, l, cs, iZ l, jJ l, jh l, cl, st)) ?_ BIG (List.replicate ((cs.length : Int)).toNat false) 0 ⟨by omega, by omega, by simp, fun q b hq hb => by have := (gf hb).1; omega⟩ (gr (by omega))
 intro row j k2 ⟨j0, j1, g1, g2⟩ hk2
 unfold vt
 refine Ok.ite (fun hj => ?_) fun hj => ?_
 ·obtain ⟨b, hb⟩ : ∃ b, getI cs j = some b := ⟨_, fH j0 hj⟩
  refine Ok.bindEq hc ?_
  refine Ok.bindEq hb ?_
  refine Ok.bindEq (pO (by omega)) ?_
  refine Ok.bindEq (fH j0 (by omega)) ?_
  rw [gh (by omega) (by omega)]
  refine hk2 _ _ ⟨by omega, by omega, by rw [f9]; exact g1, fun q b' hq hb' => ?_⟩ (by omega)
  rw [jq j0 (by omega)]
  by_cases e : q = j
  ·subst e; rw [hb] at hb'; cases hb'; rw [if_pos rfl]
  ·rw [if_neg e]; exact g2 q b' (by omega) hb'
 ·unfold vr
  have hrow : row = cs.map fun b => lM l c b := by
   refine s4 fun q hq => ?_
   rw [jW]
   by_cases h : q < (cs.length : Int)
   ·obtain ⟨b, hb⟩ : ∃ b, getI cs q = some b := ⟨_, fH hq h⟩
    rw [hb, g2 q b (by omega) hb]; rfl
   ·rw [gC (.inr (by omega)), gC (.inr (by omega))]; rfl
  refine Ok.bindEq (gi (by rw [h1]; simp; omega)) ?_
  unfold vq
  rw [gh (by omega) (by omega)]
  refine hk _ _ _ _ ⟨by omega, by omega, ?_, ?_, ?_⟩ (by omega)
  ·rw [htk, List.map_append, h1, hrow]; rfl
  ·rw [htk, List.map_append, h2, hn]; rfl
  ·rw [htk, List.map_append, h3, hr]; rfl
section
variable {ops : List (List Op)} {l : List Event} {N : Int → Int} {B : Int → Bool}
theorem xG {e : Event} {t o : Int} {b : Bool} (h : gk l t o b < 0) (he : ¬ isE t o b e = true) : gk (l ++ [e]) t o b < 0 := by
 refine sL.2 fun x hx => ?_
 rcases List.mem_append.1 hx with hx | hx
 ·exact sL.1 h x hx
 ·rw [List.mem_singleton] at hx; subst hx; simpa using he
theorem Hs.ord (h : Hs ops l N B) : ∀ t j k, 0 ≤ j → j < k → 0 ≤ gk l t k false → 0 ≤ gk l t j true ∧ gk l t j true < gk l t k false := by
 induction h with
 | nil => intro t j k _ _ h; have : gk [] t k false = -1 := rfl; omega
 | @call l N B u r h hr hb hn ih =>
  intro t j k h0 h1 hk
  by_cases hc : 0 ≤ gk l t k false
  ·obtain ⟨g1, g2⟩ := ih t j k h0 h1 hc
   rw [lH g1, lH hc]; exact ⟨g1, g2⟩
  ·by_cases he : isE t k false (Event.mk u (N u) false yq) = true
   ·obtain ⟨e1, e2, _⟩ := nn.1 he
    simp only at e1 e2
    subst e1
    have hrt := lV.2 (h.returned u j h0 (by omega))
    have hlt := (oP l u j true).2
    rw [lH hrt, CQ (by omega) he]
    exact ⟨hrt, by omega⟩
   ·have := xG (l := l) (show gk l t k false < 0 by omega) he
    omega
 | @ret l N B u r x h hr hb ih =>
  intro t j k h0 h1 hk
  have hc : 0 ≤ gk l t k false := by
   refine Int.not_lt.1 fun hc => ?_
   have := xG (e := Event.mk u (N u) true x) hc (by simp [isE])
   omega
  obtain ⟨g1, g2⟩ := ih t j k h0 h1 hc
  rw [lH g1, lH hc]; exact ⟨g1, g2⟩
theorem D3 {t o t' o' : Int} (h1 : 0 ≤ gk l t o true) (h2 : 0 ≤ gk l t' o' false) : gk l t o true ≠ gk l t' o' false := by
 intro e
 unfold gk at h1 h2 e
 rcases kn (isE t o true) l 0 (by omega) with ⟨a1, _⟩ | ⟨_, _, x, a3, a4⟩
 ·omega
 rcases kn (isE t' o' false) l 0 (by omega) with ⟨b1, _⟩ | ⟨_, _, y, b3, b4⟩
 ·omega
 rw [e, b3] at a3
 cases a3
 have := (nn.1 a4).2.2
 rw [(nn.1 b4).2.2] at this; cases this
theorem jd {c : A2Int} : c ∈ gj l ↔ 0 ≤ gk l c.x0 c.x1 false := by rw [AB, lV]
theorem Hs.called_ops (h : Hs ops l N B) {t k : Int} (hc : 0 ≤ gk l t k false) : 0 ≤ k ∧ (k < N t ∨ k = N t ∧ B t = true) ∧ ∃ r o, getI ops t = some r ∧ getI r k = some o := by
 have hN := h.nonneg t
 obtain ⟨e, he, hE⟩ := lV.1 hc
 obtain ⟨e1, e2, e3⟩ := nn.1 hE
 obtain ⟨⟨r, hr⟩, h0, h2⟩ := h.mem e he
 rw [e1] at hr h2
 rw [e2] at h0 h2
 refine ⟨h0, ?_, ?_⟩
 ·rcases h2 with h2 | ⟨h2, _, h3⟩
  ·exact .inl h2
  ·exact .inr ⟨h2, h3⟩
 ·have hlen : k < (r.length : Int) := by
   clear hN h0
   revert t k
   intro t k hc hE e1 e2 hr h2
   have key : ∀ {l : List Event} {N : Int → Int} {B : Int → Bool}, Hs ops l N B → ∀ e ∈ l, e.ret = false → ∀ r, getI ops e.thread = some r → e.op < (r.length : Int) := by
    intro l N B h
    induction h with
    | nil => intro e he; cases he
    | call u r' h hr' hb hn ih =>
     intro e he hf r hr
     rcases List.mem_append.1 he with he | he
     ·exact ih e he hf r hr
     ·rw [List.mem_singleton] at he; subst he
      simp only at hr ⊢
      rw [hr'] at hr; cases hr; exact hn
    | ret u r' x h hr' hb ih =>
     intro e he hf r hr
     rcases List.mem_append.1 he with he | he
     ·exact ih e he hf r hr
     ·rw [List.mem_singleton] at he; subst he; cases hf
   have := key h e he e3 r (by rw [e1]; exact hr)
   omega
  exact ⟨r, _, hr, fH h0 hlen⟩
theorem Hs.calls_nodup (h : Hs ops l N B) : (gj l).Nodup := by
 induction h with
 | nil => exact List.Pairwise.nil
 | @call l N B u r h hr hb hn ih =>
  have e : gj (l ++ [Event.mk u (N u) false yq]) = gj l ++ [A2Int.mk u (N u)] := by unfold gj; rw [List.filter_append, List.map_append]; rfl
  rw [e, List.nodup_append]
  refine ⟨ih, by simp, fun a ha b hb' => ?_⟩
  rw [List.mem_singleton] at hb'; subst hb'
  intro e
  subst e
  have hc := jd.1 ha
  obtain ⟨_, h2, _⟩ := h.called_ops hc
  simp only at h2
  rcases h2 with h2 | ⟨_, h2⟩
  ·omega
  ·rw [hb] at h2; cases h2
 | @ret l N B u r x h hr hb ih =>
  have e : gj (l ++ [Event.mk u (N u) true x]) = gj l := by unfold gj; rw [List.filter_append, List.map_append]; simp
  rw [e]; exact ih
theorem xZ {a b : A2Int} : lM l a b = true ↔ 0 ≤ gk l a.x0 a.x1 true ∧ 0 ≤ gk l b.x0 b.x1 false ∧ gk l a.x0 a.x1 true < gk l b.x0 b.x1 false := by
 unfold lM; simp
end
def pf (P : List Int) (t : Int) : Int := (getI P t).getD 0
def jx (l : List Event) (P : List Int) : List Bool := (gj l).map fun c => decide (c.x1 < pf P c.x0)
structure WfPl (ops : List (List Op)) (P : List Int) : Prop where
 len : P.length = ops.length
 pos : ∀ t n, getI P t = some n → 0 ≤ n
section
variable {ops : List (List Op)} {l : List Event} {N : Int → Int} {B : Int → Bool} {P : List Int}
theorem jP : (jx l P).length = (gj l).length := by unfold jx; rw [List.length_map]
theorem jU {i : Int} {c : A2Int} (h : getI (gj l) i = some c) : getI (jx l P) i = some (decide (c.x1 < pf P c.x0)) := by
 unfold jx; rw [jW, h]; rfl
theorem uk {t n : Int} (h : getI P t = some n) : pf P t = n := by unfold pf; rw [h]; rfl
theorem C7 {t s n : Int} (h : getI P t = some n) : pf (iY P t) s = if s = t then n + 1 else pf P s := by
 unfold pf
 rw [jQ h]
 by_cases e : s = t
 ·rw [if_pos e, if_pos e]; rfl
 ·rw [if_neg e, if_neg e]
theorem WfPl.inc {t n : Int} (h : WfPl ops P) (hn : getI P t = some n) : WfPl ops (iY P t) := by
 refine ⟨by rw [xK]; exact h.len, fun s m hm => ?_⟩
 rw [jQ hn] at hm
 split at hm
 ·cases hm; have := h.pos t n hn; omega
 ·exact h.pos s m hm
theorem xJ {i k : Int} {c : A2Int} (hH : Hs ops l N B) (hi : getI (gj l) i = some c) (hk : getI (gj l) k = some c) : i = k := by
 obtain ⟨i0, i1, _⟩ := fK hi
 obtain ⟨k0, k1, _⟩ := fK hk
 obtain ⟨a1, a2⟩ := List.getElem?_eq_some_iff.1 i1
 obtain ⟨b1, b2⟩ := List.getElem?_eq_some_iff.1 k1
 have := (List.getElem_inj hH.calls_nodup).1 (a2.trans b2.symm)
 omega
theorem kk {t n i : Int} (hH : Hs ops l N B) (hn : getI P t = some n) (hi : getI (gj l) i = some (A2Int.mk t n)) : jx l (iY P t) = f6 (jx l P) i true := by
 obtain ⟨i0, i1⟩ := gf hi
 refine s4 fun q hq => ?_
 rw [jq i0 (by rw [jP]; exact i1)]
 by_cases e : q = i
 ·subst e
  rw [if_pos rfl, jU hi, C7 hn, if_pos rfl]
  simp; omega
 ·rw [if_neg e]
  by_cases h : q < ((gj l).length : Int)
  ·obtain ⟨c, hc⟩ : ∃ c, getI (gj l) q = some c := ⟨_, fH hq h⟩
   rw [jU hc, jU hc, C7 hn]
   by_cases ht : c.x0 = t
   ·rw [if_pos ht, ht, uk hn]
    have hne : c.x1 ≠ n := fun hx => e (xJ hH hc (by rw [hi]; congr 1; cases c; simp only at ht hx; rw [ht, hx]))
    congr 1
    rw [decide_eq_decide]; omega
   ·rw [if_neg ht]
  ·rw [gC (.inr (by rw [jP]; omega)), gC (.inr (by rw [jP]; omega))]
theorem tn {i : Int} {c : A2Int} (h : getI (gj l) i = some c) : opA ops (gj l) i = (getI ops c.x0).bind fun r => getI r c.x1 := by unfold opA; rw [h]; rfl
theorem kW {i : Int} {c : A2Int} (h : getI (gj l) i = some c) : getI (jJ l) i = some true ↔ 0 ≤ gk l c.x0 c.x1 true := by
 unfold jJ
 rw [jW, h]
 simp [gR]
theorem ul {i : Int} {c : A2Int} (h : getI (gj l) i = some c) : getI (jh l) i = some (mA l c.x0 c.x1).1 := by
 unfold jh; rw [jW, h]; rfl
theorem By {i k : Int} : bef (iZ l) i k ↔ ∃ a b, getI (gj l) i = some a ∧ getI (gj l) k = some b ∧ lM l a b = true := by
 unfold bef iZ
 constructor
 ·rintro ⟨r, h1, h2⟩
  rw [jW] at h1
  cases ha : getI (gj l) i with
  | none => rw [ha] at h1; cases h1
  | some a =>
   rw [ha] at h1
   cases h1
   rw [jW] at h2
   cases hb : getI (gj l) k with
   | none => rw [hb] at h2; cases h2
   | some b =>
    rw [hb] at h2
    exact ⟨a, b, rfl, rfl, by simpa using h2⟩
 ·rintro ⟨a, b, ha, hb, hp⟩
  refine ⟨(gj l).map fun b => lM l a b, by rw [jW, ha]; rfl, ?_⟩
  rw [jW, hb]
  simp [hp]
theorem qd (hH : Hs ops l N B) (hP : WfPl ops P) {t : Int} {a : fw} : Nxt (hQ ops l) P t a ↔ ∃ n r o, getI P t = some n ∧ getI ops t = some r ∧ getI r n = some o ∧ 0 ≤ gk l t n false ∧ a = jE o l t n := by
 constructor
 ·rintro ⟨L, n, h1, h2, h3⟩
  obtain ⟨r, hr, rfl⟩ := ny h1
  obtain ⟨n0, h4, _⟩ := fK h3
  obtain ⟨o, ho, ha, hc⟩ := (lN _ _ _ _ _ _).1 h4
  have hcn := hc n.toNat (Nat.le_refl _)
  have e : (0 : Int) + (n.toNat : Int) = n := by omega
  rw [e] at ha hcn
  refine ⟨n, r, o, h2, hr, ?_, hcn, ha⟩
  rw [show n = ((n.toNat : Nat) : Int) by omega, ij]; exact ho
 ·rintro ⟨n, r, o, h1, hr, ho, hc, rfl⟩
  refine ⟨jS l t r 0, n, nz hr, h1, ?_⟩
  obtain ⟨n0, h4, _⟩ := fK ho
  have e : n = ((n.toNat : Nat) : Int) := by omega
  rw [e, ij]
  refine (lN _ _ _ _ _ _).2 ⟨o, h4, by rw [Int.zero_add], fun j hj => ?_⟩
  rw [Int.zero_add]
  obtain ⟨_, h5, _⟩ := hH.called_ops hc
  by_cases ej : (j : Int) = n
  ·rw [ej]; exact hc
  ·exact hH.call_ex (by omega) (.inl (by omega))
theorem nA (hH : Hs ops l N B) (hP : WfPl ops P) {c : fw} : pQ (hQ ops l) P c ↔ ∃ t j r o, getI ops t = some r ∧ getI r j = some o ∧ 0 ≤ gk l t j false ∧ pf P t ≤ j ∧ c = jE o l t j := by
 constructor
 ·rintro ⟨t, L, n, h1, h2, h3⟩
  obtain ⟨r, hr, rfl⟩ := ny h1
  have hn := hP.pos t n h2
  obtain ⟨i, hi⟩ := List.mem_iff_getElem?.1 h3
  rw [List.getElem?_drop] at hi
  obtain ⟨o, ho, ha, hc⟩ := (lN _ _ _ _ _ _).1 hi
  have hcn := hc _ (Nat.le_refl _)
  have e : (0 : Int) + ((n.toNat + i : Nat) : Int) = ((n.toNat + i : Nat) : Int) := by omega
  rw [e] at ha hcn
  exact ⟨t, _, r, o, hr, by rw [ij]; exact ho, hcn, by rw [uk h2]; omega, ha⟩
 ·rintro ⟨t, j, r, o, hr, ho, hc, hp, rfl⟩
  obtain ⟨t0, t1⟩ := gf hr
  have hl := hP.len
  obtain ⟨n, hn⟩ : ∃ n, getI P t = some n := ⟨_, fH t0 (by omega)⟩
  rw [uk hn] at hp
  have n0 := hP.pos t n hn
  refine ⟨t, _, n, nz hr, hn, ?_⟩
  obtain ⟨j0, h4, _⟩ := fK ho
  have hg : (jS l t r 0)[j.toNat]? = some (jE o l t j) := by
   refine (lN _ _ _ _ _ _).2 ⟨o, h4, by congr 1; omega, fun q hq => ?_⟩
   rw [Int.zero_add]
   obtain ⟨_, h5, _⟩ := hH.called_ops hc
   by_cases ej : (q : Int) = j
   ·rw [ej]; exact hc
   ·exact hH.call_ex (by omega) (.inl (by omega))
  refine List.mem_iff_getElem?.2 ⟨j.toNat - n.toNat, ?_⟩
  rw [List.getElem?_drop, show n.toNat + (j.toNat - n.toNat) = j.toNat by omega]
  exact hg
theorem nb {t n : Int} (h : 0 ≤ gk l t n false) : ∃ i, getI (gj l) i = some (A2Int.mk t n) := by
 obtain ⟨i, hi⟩ := List.mem_iff_getElem?.1 (jd (c := A2Int.mk t n).2 h)
 exact ⟨(i : Int), by rw [ij]; exact hi⟩
theorem lK (hH : Hs ops l N B) (hP : WfPl ops P) {op : Bool} {t n i : Int} {r : List Op} {o : Op} (hn : getI P t = some n) (hi : getI (gj l) i = some (A2Int.mk t n)) (hc : Cand (hQ ops l) op P t (jE o l t n)) : kV (iZ l) (jJ l) (!op) (jx l P) i := by
 refine ⟨by rw [jU hi, uk hn]; simp, fun hcl => ?_, fun k hk => ?_⟩
 ·rw [kW hi]
  rcases hc.ret with h | h
  ·rw [h] at hcl; cases hcl
  ·exact h
 ·obtain ⟨a, b, ha, hb, hp⟩ := By.1 hk
  rw [hi] at hb; cases hb
  obtain ⟨p1, p2, p3⟩ := xZ.1 hp
  rw [jU ha]
  congr 1
  rw [decide_eq_true_eq]
  refine Int.not_le.1 fun hle => ?_
  have hca := jd.1 (fZ ha)
  obtain ⟨_, _, r', o', hr', ho'⟩ := hH.called_ops hca
  have hu : pQ (hQ ops l) P (jE o' l a.x0 a.x1) := (nA hH hP).2 ⟨_, _, r', o', hr', ho', hca, hle, rfl⟩
  have := hc.early _ hu p1
  have h1 : (jE o' l a.x0 a.x1).coming = gk l a.x0 a.x1 true := rfl
  have h2 : (jE o l t n).called = gk l t n false := rfl
  simp only at p3
  omega
theorem lC (hH : Hs ops l N B) (hP : WfPl ops P) {op : Bool} {i : Int} {c : A2Int} {o : Op} (hc : getI (gj l) i = some c) (ho : opA ops (gj l) i = some o) (hm : kV (iZ l) (jJ l) (!op) (jx l P) i) : getI P c.x0 = some c.x1 ∧ Cand (hQ ops l) op P c.x0 (jE o l c.x0 c.x1) := by
 have hca := jd.1 (fZ hc)
 obtain ⟨c0, hcN, r, o1, hr, ho1⟩ := hH.called_ops hca
 have hoo : o1 = o := by
  rw [tn hc, hr] at ho
  simp only [Option.bind_some] at ho
  rw [ho1] at ho; exact Option.some.inj ho
 subst hoo
 obtain ⟨t0, t1⟩ := gf hr
 have hl := hP.len
 obtain ⟨n, hn⟩ : ∃ n, getI P c.x0 = some n := ⟨_, fH t0 (by omega)⟩
 have n0 := hP.pos _ n hn
 have hun := hm.un
 rw [jU hc, uk hn] at hun
 have hge : n ≤ c.x1 := by
  have := Option.some.inj hun
  rw [decide_eq_false_iff_not] at this; omega
 have hpre : ∀ a : A2Int, a ∈ gj l → pf P a.x0 ≤ a.x1 → 0 ≤ gk l a.x0 a.x1 true → gk l c.x0 c.x1 false ≤ gk l a.x0 a.x1 true := fun a ha hpa h0 => by
  refine Int.not_lt.1 fun hlt => ?_
  obtain ⟨q, hq⟩ := List.mem_iff_getElem?.1 ha
  have hq : getI (gj l) (q : Int) = some a := by rw [ij]; exact hq
  have := hm.pre (q : Int) (By.2 ⟨a, c, hq, hc, xZ.2 ⟨h0, hca, hlt⟩⟩)
  rw [jU hq] at this
  have := Option.some.inj this
  rw [decide_eq_true_eq] at this; omega
 have heq : n = c.x1 := by
  by_cases e : n = c.x1
  ·exact e
  ·have hcn : 0 ≤ gk l c.x0 n false := hH.call_ex n0 (.inl (by omega))
   obtain ⟨g1, g2⟩ := hH.ord c.x0 n c.x1 n0 (by omega) hca
   have := hpre (A2Int.mk c.x0 n) (jd.2 hcn) (by simp only; rw [uk hn]; omega) g1
   simp only at this; omega
 subst heq
 refine ⟨hn, ⟨(qd hH hP).2 ⟨_, r, o1, hn, hr, ho1, hca, rfl⟩, fun d hd h0 => ?_, ?_⟩⟩
 ·obtain ⟨u, j, r', o', hr', ho', hcj, hpj, rfl⟩ := (nA hH hP).1 hd
  have h0 : 0 ≤ gk l u j true := h0
  show gk l c.x0 c.x1 false < gk l u j true
  have h5 := hpre (A2Int.mk u j) (jd.2 hcj) hpj h0
  have h6 := D3 (t' := c.x0) (o' := c.x1) h0 hca
  simp only at h5; omega
 ·cases op with
  | true => exact .inl rfl
  | false => exact .inr ((kW hc).1 (hm.back rfl))
theorem Dc {i : Int} {c : A2Int} {o : Op} {C : List fL} (hc : getI (gj l) i = some c) : tN (jJ l) (jh l) o C i = oV (jE o l c.x0 c.x1) C := by
 unfold tN oV
 have hco : (jE o l c.x0 c.x1).coming = gk l c.x0 c.x1 true := rfl
 by_cases h : 0 ≤ gk l c.x0 c.x1 true
 ·rw [if_pos ((kW hc).2 h), if_pos (by rw [hco]; exact h), ul hc]; rfl
 ·rw [if_neg fun h' => h ((kW hc).1 h'), if_neg (by rw [hco]; exact h)]; rfl
theorem lI {i : Int} {c : A2Int} {o : Op} {x : Result} (hc : getI (gj l) i = some c) : ke (jJ l) (jh l) i x ↔ jf (jE o l c.x0 c.x1) x := by
 unfold ke jf
 have hco : (jE o l c.x0 c.x1).coming = gk l c.x0 c.x1 true := rfl
 have hre : (jE o l c.x0 c.x1).result = (mA l c.x0 c.x1).1 := rfl
 rw [kW hc, ul hc, hco, hre]
 constructor
 ·intro h
  by_cases h0 : 0 ≤ gk l c.x0 c.x1 true
  ·exact .inr (Option.some.inj (h h0))
  ·exact .inl (by omega)
 ·rintro (h | h) h0
  ·omega
  ·rw [h]
theorem E8 (hH : Hs ops l N B) {op : Bool} {C : List fL} {ds : List Done} (hw : Way (hQ ops l) op (fun _ => True) P C ds) : WfPl ops P → ku ops (gj l) (iZ l) (jJ l) (jh l) (!op) (jx l P) C := by
 induction hw with
 | @stop P C h _ =>
  intro hP
  refine .stop fun i hi => ?_
  obtain ⟨i0, i1⟩ := gf hi
  have hlen : (jJ l).length = (gj l).length := by unfold jJ; rw [List.length_map]
  obtain ⟨c, hc⟩ : ∃ c, getI (gj l) i = some c := ⟨_, fH i0 (by omega)⟩
  rw [jU hc]
  congr 1
  rw [decide_eq_true_eq]
  refine Int.not_le.1 fun hle => ?_
  have hca := jd.1 (fZ hc)
  obtain ⟨_, _, r', o', hr', ho'⟩ := hH.called_ops hca
  have := h _ ((nA hH hP).2 ⟨_, _, r', o', hr', ho', hca, hle, rfl⟩)
  have h2 := (kW hc).1 hi
  have h1 : (jE o' l c.x0 c.x1).coming = gk l c.x0 c.x1 true := rfl
  omega
 | @one P C t a x ds hc hr ha _ ih =>
  intro hP
  obtain ⟨n, r, o, hn, hro, hoo, hcl, rfl⟩ := (qd hH hP).1 hc.nxt
  obtain ⟨i, hi⟩ := nb hcl
  have hw := ih (hP.inc hn)
  rw [kk hH hn hi] at hw
  refine .one (lK (r := r) hH hP hn hi hc) (by rw [tn hi, hro]; exact hoo) ?_ ha hw
  rw [Dc hi]; exact hr
 | @two P C t u a b x y ds hc hc' hne hp hx hy _ ih =>
  intro hP
  obtain ⟨n, r, o, hn, hro, hoo, hcl, rfl⟩ := (qd hH hP).1 hc.nxt
  obtain ⟨m, r', o', hm, hro', hoo', hcl', rfl⟩ := (qd hH hP).1 hc'.nxt
  obtain ⟨i, hi⟩ := nb hcl
  obtain ⟨k, hk⟩ := nb hcl'
  have hm' : getI (iY P t) u = some m := by rw [jQ hn, if_neg hne]; exact hm
  have hw := ih ((hP.inc hn).inc hm')
  rw [kk hH hm' hk, kk hH hn hi] at hw
  have hik : i ≠ k := fun e => by
   subst e; rw [hi] at hk; cases hk; exact hne rfl
  have hmi := lK (r := r) hH hP hn hi hc
  have hmk := lK (r := r') hH hP hm hk hc'
  have hoi : opA ops (gj l) i = some o := by rw [tn hi, hro]; exact hoo
  have hok : opA ops (gj l) k = some o' := by rw [tn hk, hro']; exact hoo'
  have hp : gX C o x o' y = true := hp
  rcases Int.lt_or_lt_of_ne hik with h | h
  ·exact .two h hmi hmk hoi hok (by rw [hp]; rfl) ((lI hi).2 hx) ((lI hk).2 hy) hw
  ·refine .two h hmk hmi hok hoi (x := y) (y := x) (by rw [hp]; simp) ((lI hk).2 hy) ((lI hi).2 hx) ?_
   have hcomm : f6 (f6 (jx l P) k true) i true = f6 (f6 (jx l P) i true) k true := by
    unfold f6
    have := (gf hi).1
    have := (gf hk).1
    rw [List.set_comm]; omega
   rw [hcomm]; exact hw
theorem E5 (hH : Hs ops l N B) {op : Bool} {d : List Bool} {C : List fL} (hw : ku ops (gj l) (iZ l) (jJ l) (jh l) (!op) d C) : ∀ P, WfPl ops P → d = jx l P → ∃ ds, Way (hQ ops l) op (fun _ => True) P C ds := by
 induction hw with
 | @stop d C h =>
  intro P hP hd
  subst hd
  refine ⟨[], .stop (fun c hc => ?_) trivial⟩
  obtain ⟨t, j, r, o, hr, ho, hcj, hpj, rfl⟩ := (nA hH hP).1 hc
  show gk l t j true < 0
  refine Int.not_le.1 fun h0 => ?_
  obtain ⟨i, hi⟩ := nb hcj
  have := h i ((kW hi).2 h0)
  rw [jU hi] at this
  have := Option.some.inj this
  rw [decide_eq_true_eq] at this
  simp only at this; omega
 | @one d C i o x hm ho hr ha _ ih =>
  intro P hP hd
  subst hd
  obtain ⟨c, hc⟩ : ∃ c, getI (gj l) i = some c := by
   unfold opA at ho
   cases hc : getI (gj l) i with
   | none => rw [hc] at ho; cases ho
   | some c => exact ⟨c, rfl⟩
  obtain ⟨hn, hcand⟩ := lC hH hP hc ho hm
  obtain ⟨ds, hds⟩ := ih (iY P c.x0) (hP.inc hn) (kk hH hn (by rw [hc])).symm
  rw [Dc hc] at hr
  exact ⟨_, .one hcand hr ha hds⟩
 | @two d C i k a b x y hik hi hk ha hb hp hx hy _ ih =>
  intro P hP hd
  subst hd
  obtain ⟨c, hc⟩ : ∃ c, getI (gj l) i = some c := by
   unfold opA at ha
   cases hc : getI (gj l) i with
   | none => rw [hc] at ha; cases ha
   | some c => exact ⟨c, rfl⟩
  obtain ⟨e, he⟩ : ∃ c, getI (gj l) k = some c := by
   unfold opA at hb
   cases hc : getI (gj l) k with
   | none => rw [hc] at hb; cases hb
   | some c => exact ⟨c, rfl⟩
  obtain ⟨hn, hcand⟩ := lC hH hP hc ha hi
  obtain ⟨hm, hcand'⟩ := lC hH hP he hb hk
  have hne : e.x0 ≠ c.x0 := fun h => by
   rw [h, hn] at hm
   have : c = e := by cases c; cases e; simp only at h hm ⊢; rw [h, Option.some.inj hm]
   subst this
   have := xJ hH hc he
   omega
  have hm' : getI (iY P c.x0) e.x0 = some e.x1 := by rw [jQ hn, if_neg hne]; exact hm
  obtain ⟨ds, hds⟩ := ih (iY (iY P c.x0) e.x0) ((hP.inc hn).inc hm') (by rw [kk hH hm' (by rw [he]), kk hH hn (by rw [hc])])
  rw [Bool.or_eq_true] at hp
  rcases hp with hp | hp
  ·exact ⟨_, .two hcand hcand' hne hp ((lI hc).1 hx) ((lI he).1 hy) hds⟩
  ·have hm2 : getI (iY P e.x0) c.x0 = some c.x1 := by rw [jQ hm, if_neg fun h => hne h.symm]; exact hn
   have hcomm : iY (iY P e.x0) c.x0 = iY (iY P c.x0) e.x0 := by
    rw [k7 hm2, k7 hm, k7 hm', k7 hn]
    have := (gf hn).1
    have := (gf hm).1
    unfold f6
    rw [List.set_comm]; omega
   exact ⟨_, .two hcand' hcand (fun h => hne h.symm) hp ((lI he).1 hy) ((lI hc).1 hx) (by rw [hcomm]; exact hds)⟩
end
def nN (s : MS) (u : Int) : Int := (getI s.nx u).getD 0
def sN (s : MS) (u : Int) : Int := (getI s.st u).getD 0
def bN (s : MS) (u : Int) : Bool := !decide (sN s u = 0)
section
variable {x : fP} {ops : List (List Op)} {n : Nat} {s : MS} {t : Int} {o : Op}
theorem ER (h : lG ops s t = some o) : getI s.nx t = some (nN s t) ∧ ∃ r, getI ops t = some r ∧ getI r (nN s t) = some o := by
  obtain ⟨k, r, c1, c2, c3⟩ := kP h
  have : nN s t = k := by simp [nN, c1]
  rw [this]; exact ⟨c1, r, c2, c3⟩
theorem x9 {v : Int} (h : getI s.st t = some v) : sN s t = v := by simp [sN, h]
theorem Run.base (hx : wR x) (hf : OpsFine ops) (hl : (ops.length : Int) = x.threads) (h : Run ops (jg x) n s) : n ≤ 800 → Base ops n s := by
  induction h with
  | nil => exact fun _ => t8 hx hl
  | call h h0 hk hr ho ih => exact fun hn => (ih (by omega)).call (by omega) h0 hk hr ho
  | doo h h1 ho ih => exact fun hn => (ih (by omega)).doo hf (by omega) h1 ho
  | ret h h3 hk hr ho ih =>
    intro hn
    obtain ⟨k', row, c1, c2, c3⟩ := kP ho
    rw [hk] at c1; cases c1
    have h4 := hf.2.1 row (fZ c2)
    have h5 := (gf c3).2
    exact (ih (by omega)).ret (by omega) h3 hk (by omega) c2 c3
theorem Eb {k : Int} (hB : t < (s.st.length : Int)) (h0 : 0 ≤ t) (u : Int) : sN (lp s t k) u = if u = t then 1 else sN s u := by
  unfold sN lp
  simp only
  rw [iQ h0 hB]
  by_cases e : u = t
  · rw [if_pos e, if_pos e]; rfl
  · rw [if_neg e, if_neg e]
theorem E6 {k : Int} {r : Result} (hB : t < (s.st.length : Int)) (h0 : 0 ≤ t) (u : Int) : sN (lr s t k r) u = if u = t then 0 else sN s u := by
  unfold sN lr
  simp only
  rw [iQ h0 hB]
  by_cases e : u = t
  · rw [if_pos e, if_pos e]; rfl
  · rw [if_neg e, if_neg e]
theorem E2 {k : Int} {r : Result} (hB : t < (s.nx.length : Int)) (h0 : 0 ≤ t) (u : Int) : nN (lr s t k r) u = if u = t then k + 1 else nN s u := by
  unfold nN lr
  simp only
  rw [iQ h0 hB]
  by_cases e : u = t
  · rw [if_pos e, if_pos e]; rfl
  · rw [if_neg e, if_neg e]
theorem do_st (hB : Base ops n s) (hf : OpsFine ops) (h1 : getI s.st t = some 1) (ho : lG ops s t = some o) (u : Int) : sN (doS s t o) u = if u ∈ je (DoD s.d t o).2.1 then 3 else if u = t then 2 else sN s u := by
  obtain ⟨_, d2, _⟩ := nj hB hf h1 ho
  obtain ⟨t0, t1⟩ := gf h1
  have hsl := hB.sl
  unfold sN doS
  simp only
  rw [mD _ _ _ u fun y hy => by rw [f9]; have := d2 y hy; omega, iQ t0 t1]
  split
  · rfl
  · split <;> rfl
theorem D1 (hB : Base ops n s) (hf : OpsFine ops) (h1 : getI s.st t = some 1) (ho : lG ops s t = some o) {y : Done} (hy : y ∈ (DoD s.d t o).2.1) : (sN s y.thread = 1 ∨ sN s y.thread = 2) ∧ 0 ≤ y.thread ∧ y.thread < (ops.length : Int) := by
  obtain ⟨_, d2, _⟩ := nj hB hf h1 ho
  obtain ⟨y0, y1, h2⟩ := d2 y hy
  refine ⟨?_, y0, y1⟩
  rcases h2 with h2 | ⟨w, hw, h2⟩
  · rw [h2]; exact .inl (x9 h1)
  · rw [← h2]; exact .inr (x9 (hB.wt w hw).1)
theorem Run.hs (hx : wR x) (hf : OpsFine ops) (hl : (ops.length : Int) = x.threads) (h : Run ops (jg x) n s) : n ≤ 800 → Hs ops s.l (nN s) (bN s) := by
  induction h with
  | nil =>
    intro _
    have e1 : nN (jg x) = fun _ => 0 := funext fun u => by
      unfold nN
      cases h : getI (jg x).nx u with
      | none => rfl
      | some v => exact kQ (n := x.threads.toNat) h
    have e2 : bN (jg x) = fun _ => false := funext fun u => by
      unfold bN sN
      cases h : getI (jg x).st u with
      | none => rfl
      | some v => have h3 : v = 0 := kQ (n := x.threads.toNat) h
                  subst h3; rfl
    rw [e1, e2]; exact .nil
  | @call n s t k r o h h0 hk hr ho ih =>
    intro hn
    have hB := h.base hx hf hl (by omega)
    obtain ⟨t0, t1⟩ := gf h0
    have hN : nN s t = k := by simp [nN, hk]
    have h2 := Hs.call t r (ih (by omega)) hr (by unfold bN; rw [x9 h0]; rfl) (by rw [hN]; exact (gf ho).2)
    have e1 : nN (lp s t k) = nN s := rfl
    have e2 : bN (lp s t k) = up (bN s) t true := funext fun u => by
      unfold bN up
      rw [Eb t1 t0]
      by_cases e : u = t
      · rw [if_pos e, if_pos e]; rfl
      · rw [if_neg e, if_neg e]
    rw [e1, e2]
    rw [hN] at h2; exact h2
  | @doo n s t o h h1 ho ih =>
    intro hn
    have hB := h.base hx hf hl (by omega)
    have e1 : nN (doS s t o) = nN s := rfl
    have e2 : bN (doS s t o) = bN s := funext fun u => by
      unfold bN
      rw [do_st hB hf h1 ho]
      by_cases e : u ∈ je (DoD s.d t o).2.1
      · rw [if_pos e]
        obtain ⟨y, hy, rfl⟩ := List.mem_map.1 e
        rcases (D1 hB hf h1 ho hy).1 with h2 | h2 <;> rw [h2] <;> rfl
      · rw [if_neg e]
        by_cases e3 : u = t
        · rw [if_pos e3, e3, x9 h1]; rfl
        · rw [if_neg e3]
    rw [e1, e2]; exact ih (by omega)
  | @ret n s t k r o h h3 hk hr ho ih =>
    intro hn
    have hB := h.base hx hf hl (by omega)
    obtain ⟨t0, t1⟩ := gf h3
    obtain ⟨_, row, c2, c3⟩ := ER ho
    have hN : nN s t = k := by simp [nN, hk]
    have h2 := Hs.ret t row r (ih (by omega)) c2 (by unfold bN; rw [x9 h3]; rfl)
    have e1 : nN (lr s t k r) = up (nN s) t (nN s t + 1) := funext fun u => by
      unfold up
      rw [E2 (gf hk).2 t0, hN]
    have e2 : bN (lr s t k r) = up (bN s) t false := funext fun u => by
      unfold bN up
      rw [E6 t1 t0]
      by_cases e : u = t
      · rw [if_pos e, if_pos e]; rfl
      · rw [if_neg e, if_neg e]
    rw [e1, e2]
    rw [hN] at h2 ⊢; exact h2
end
section
variable {ops : List (List Op)} {L tail : List Event} {s : MS} {t : Int} {o : Op}
end
section
variable {x : fP} {ops : List (List Op)} {L tail : List Event} {s : MS} {t : Int} {o : Op} {n : Nat}
end
theorem OpOk.v {o : Op} (h : OpOk o) : OpV o := by
 intro i x hx
 unfold gA at hx
 split at hx
 ·split at hx
  ·cases hx; exact h.val
  ·cases hx
 ·split at hx
  ·exact (h.cases x (fZ hx)).v
  ·cases hx
theorem MadeOk.hist {x : fP} {ops : List (List Op)} {l m : List Event} (h : MadeOk x ops l) (hm : m.length ≤ 1000) : HistIn x ops m := by
 have h1 := h.cfg.t4
 have h2 := h.len
 have h3 := h.cfg.n3
 exact ⟨by omega, by omega, fun r hr => by have := h.rows r hr; omega, by omega, fun k hk => by have := h.cfg.cap k hk; omega, fun r hr o ho => ⟨(h.fine.2.2 r hr o ho).m, (h.fine.2.2 r hr o ho).v⟩⟩
theorem DJ : ve = some true := by decide +kernel
theorem Eu {a n : Int} (h : 1 ≤ n) (h1 : n ≤ 1000) : Ok (tO a n) fun r => 0 ≤ r ∧ r < n := by
 unfold tO
 have hn : tq a n = some (Int.tmod a n) := by unfold tq; rw [if_neg (by omega)]
 refine Ok.bindEq hn ?_
 have h3 : Int.tmod a n < n := Int.tmod_lt_of_pos _ (by omega)
 have h4 : -n < Int.tmod a n := by
  have h5 := Int.tmod_lt_of_pos (-a) (show 0 < n by omega)
  rw [Int.neg_tmod] at h5; omega
 refine Ok.ite (fun h => ?_) fun h => Ok.some ⟨by omega, by omega⟩
 rw [gh (by omega) (by omega)]
 exact Ok.some ⟨by omega, by omega⟩
open Classical in
theorem zB {α : Type} : ∀ {l m : List α}, l.Nodup → (∀ x ∈ l, x ∈ m) → l.length ≤ m.length
 | [], _, _, _ => Nat.zero_le _
 | x :: l, m, hn, hs => by
  rw [List.nodup_cons] at hn
  have hx := hs x (.head _)
  have h1 := zB (l := l) (m := m.erase x) hn.2 fun y hy => by
   have hne : y ≠ x := fun e => hn.1 (e ▸ hy)
   exact (List.mem_erase_of_ne hne).2 (hs y (.tail _ hy))
  have h2 := List.length_erase_of_mem hx
  have h3 := List.length_pos_of_mem hx
  simp only [List.length_cons]; omega
def Bo (ops : List (List Op)) : List A2Int := (ops.mapIdx fun t r => (List.range r.length).map fun (k : Nat) => A2Int.mk (t : Int) (k : Int)).flatten
theorem Br (ops : List (List Op)) : (Bo ops).length = sumL ops := by
 unfold Bo sumL
 rw [List.length_flatten]
 congr 1
 refine List.ext_getElem? fun n => ?_
 rw [List.getElem?_map, List.getElem?_mapIdx, List.getElem?_map]
 cases ops[n]? with
 | none => rfl
 | some r => simp
theorem Bv {ops : List (List Op)} {t k : Int} {r : List Op} {o : Op} (hr : getI ops t = some r) (ho : getI r k = some o) : A2Int.mk t k ∈ Bo ops := by
 obtain ⟨t0, h1, _⟩ := fK hr
 obtain ⟨k0, h2, _⟩ := fK ho
 have hk := (List.getElem?_eq_some_iff.1 h2).1
 unfold Bo
 refine List.mem_flatten.2 ⟨(List.range r.length).map fun (k : Nat) => A2Int.mk ((t.toNat : Nat) : Int) (k : Int), ?_, ?_⟩
 ·refine List.mem_iff_getElem?.2 ⟨t.toNat, ?_⟩
  rw [List.getElem?_mapIdx, h1]; rfl
 ·refine List.mem_map.2 ⟨k.toNat, List.mem_range.2 hk, ?_⟩
  congr 1 <;> omega
theorem zR : ∀ d : List Bool, und d ≤ d.length
 | [] => Nat.le_refl _
 | b :: d => by
  have := zR d
  simp only [und, List.length_cons]; split <;> omega
theorem fS_le : ∀ k < 8, fS k ≤ 4294967296 := by decide
theorem VB.v5 {o : Op} (h : VB 1000 o) : OpV5 o := by
 intro i x hx
 unfold gA at hx
 split at hx
 ·split at hx
  ·cases hx
   have := h.v
   exact ⟨this.1, by show o.value < _; omega⟩
  ·cases hx
 ·split at hx
  ·have := h.c x (fZ hx)
   exact ⟨this.1, by omega⟩
  ·cases hx
theorem wH {x : fP} (hx : x.capacities.length ≤ 1000) : o4 x = some (pM x) := by
 refine Ok.eq ?_
 unfold o4
 refine ie (fun _ i => ((x.capacities.length : Int) - i).toNat) (fun l i => 0 ≤ i ∧ i ≤ (x.capacities.length : Int) ∧ l = (x.capacities.take i.toNat).map fun k => fL.mk k [] false) (fun _ _ r => r = pM x) ?_ BIG [] 0 ⟨by omega, by omega, by simp⟩ (gr (by omega))
 intro l i k ⟨h0, h1, h2⟩ hk
 unfold wT
 refine Ok.ite (fun h3 => ?_) fun h3 => ?_
 ·obtain ⟨y, hy⟩ : ∃ y, getI x.capacities i = some y := ⟨_, fH h0 h3⟩
  refine Ok.bindEq hy ?_
  refine Ok.bindEq (gi (by rw [h2]; simp; omega)) ?_
  rw [gh (by omega) (by omega)]
  refine hk _ _ ⟨by omega, by omega, ?_⟩ (by omega)
  rw [iC hy, h2]; simp
 ·refine Ok.some ?_
  rw [h2, List.take_of_length_le (by omega)]; rfl
structure Few (ops : List (List Op)) : Prop where
 sum : sumL ops ≤ 7
 vb : ∀ r ∈ ops, ∀ o ∈ r, VB 1000 o
 six : ∀ r ∈ ops, ∀ o ∈ r, o.cases.length ≤ 6
section
variable {x : fP} {ops : List (List Op)} {l : List Event} {N : Int → Int} {B : Int → Bool}
theorem Ai (hH : Hs ops l N B) (hf : Few ops) : (gj l).length ≤ 7 := by
 have := zB hH.calls_nodup (m := Bo ops) fun c hc => by
  obtain ⟨_, _, r, o, hr, ho⟩ := hH.called_ops (jd.1 hc)
  exact Bv hr ho
 rw [Br] at this
 have := hf.sum; omega
theorem E7 (h : HistIn x ops l) (hH : Hs ops l N B) (hf : Few ops) : Sea ops (gj l) (iZ l) (jJ l) (jh l) := by
 refine ⟨Ai hH hf, by unfold iZ; rw [List.length_map], fun r hr => ?_, by unfold jJ; rw [List.length_map], by unfold jh; rw [List.length_map], fun i i0 i1 => ?_⟩
 ·unfold iZ at hr
  obtain ⟨a, _, rfl⟩ := List.mem_map.1 hr
  rw [List.length_map]
 ·obtain ⟨c, hc⟩ : ∃ c, getI (gj l) i = some c := ⟨_, fH i0 i1⟩
  obtain ⟨_, _, r, o, hr, ho⟩ := hH.called_ops (jd.1 (fZ hc))
  have hrm := fZ hr
  have hom := fZ ho
  exact ⟨o, by rw [tn hc, hr]; exact ho, (h.ops r hrm o hom).1, (hf.vb r hrm o hom).v5, hf.six r hrm o hom⟩
theorem zh (hH : Hs ops l N B) : List.replicate (((gj l).length : Int)).toNat false = jx l (j8 ops) := by
 refine s4 fun i hi => ?_
 by_cases h : i < ((gj l).length : Int)
 ·obtain ⟨c, hc⟩ : ∃ c, getI (gj l) i = some c := ⟨_, fH hi h⟩
  obtain ⟨b, hb⟩ : ∃ b, getI (List.replicate (((gj l).length : Int)).toNat false) i = some b := ⟨_, fH hi (by simp; omega)⟩
  have hbf := (List.mem_replicate.1 (fZ hb)).2
  obtain ⟨c0, _⟩ := hH.called_ops (jd.1 (fZ hc))
  have hz : pf (j8 ops) c.x0 = 0 := by
   unfold pf
   cases hg : getI (j8 ops) c.x0 with
   | none => rfl
   | some v => rw [kQ hg]; rfl
  rw [hb, hbf, jU hc, hz, decide_eq_false (by omega)]
 ·rw [gC (.inr (by simp; omega)), gC (.inr (by rw [jP]; omega))]
theorem yp : WfPl ops (j8 ops) := ⟨by simp [j8], fun t n h => by rw [kQ h]; exact Int.le_refl _⟩
theorem D7 (h : HistIn x ops l) : Ch56 x.capacities (pM x) := ⟨C6 h, fun c hc v hv => by
 unfold pM at hc
 obtain ⟨k, _, rfl⟩ := List.mem_map.1 hc; cases hv⟩
theorem zZ (h : HistIn x ops l) (hH : Hs ops l N B) (hf : Few ops) : Ok (sy x ops l) fun b => b = true ↔ ∃ ds, Dw x ops l ds := by
 have h2 := h.caps
 have hsea := E7 h hH hf
 have hn := hsea.n
 have hu := zR (jx l (j8 ops))
 rw [jP] at hu
 have hfs := fS_le (und (jx l (j8 ops))) (by omega)
 unfold sy
 refine Ok.bd8 (Q := fun r => r = (ops, l, gj l, iZ l, jJ l, jh l, false, false)) ⟨_, Dn h.len, rfl⟩ fun a b c d e g i j hq => ?_
 cases hq
 refine Ok.bindEq (jR (by omega) (by omega)) ?_
 refine Ok.bindEq (wH (by omega)) ?_
 rw [zh hH]
 refine Ok.bd2 (zK (caps := x.capacities) hsea h2 100 (jx l (j8 ops)) (pM x) [] jP (D7 h) (by omega) (by simp; omega) (by simp)) fun b s hR => ?_
 have hy := hR.yes
 have hno := hR.no
 simp only at hy hno
 unfold vX
 refine Ok.some ⟨fun hb => E5 (op := true) hH (hy hb) _ yp rfl, ?_⟩
 rintro ⟨ds, hd⟩
 have := E8 hH (op := true) hd yp
 cases b with
 | true => rfl
 | false => exact absurd this (hno rfl).1
theorem Hs.set (h : Hs ops l N B) : ∀ (i : Nat) (e : Event) (r : Result), l[i]? = some e → e.ret = true → Hs ops (l.set i (Event.mk e.thread e.op e.ret r)) N B := by
 induction h with
 | nil => intro i e r hi; simp at hi
 | @call l N B u row h hr hb hn ih =>
  intro i e r hi he
  by_cases hlt : i < l.length
  ·rw [List.getElem?_append_left hlt] at hi
   rw [List.set_append_left _ _ hlt]
   exact .call u row (ih i e r hi he) hr hb hn
  ·rw [List.getElem?_append_right (by omega)] at hi
   have : i - l.length = 0 := by
    rcases Nat.eq_zero_or_pos (i - l.length) with h | h
    ·exact h
    ·rw [List.getElem?_eq_none (by simp; omega)] at hi; cases hi
   rw [this] at hi
   simp at hi; subst hi; cases he
 | @ret l N B u row x h hr hb ih =>
  intro i e r hi he
  by_cases hlt : i < l.length
  ·rw [List.getElem?_append_left hlt] at hi
   rw [List.set_append_left _ _ hlt]
   exact .ret u row x (ih i e r hi he) hr hb
  ·rw [List.getElem?_append_right (by omega)] at hi
   have h0 : i - l.length = 0 := by
    rcases Nat.eq_zero_or_pos (i - l.length) with h | h
    ·exact h
    ·rw [List.getElem?_eq_none (by simp; omega)] at hi; cases hi
   rw [h0] at hi
   simp at hi; subst hi
   rw [List.set_append_right _ _ (by omega), h0]
   exact .ret u row r h hr hb
end
theorem MadeOk.hs {x : fP} {ops : List (List Op)} {l : List Event} (h : MadeOk x ops l) : ∃ n s, n ≤ 100 ∧ Run ops (jg x) n s ∧ s.l = l ∧ Hs ops l (nN s) (bN s) := by
 obtain ⟨s, _, n, hR, hn, _, _, rfl⟩ := h.run
 exact ⟨n, s, hn, hR, rfl, hR.hs h.cfg h.fine h.len (by omega)⟩
theorem CP {x : fP} {ops : List (List Op)} {l : List Event} (h : MadeOk x ops l) (h1 : ((sumL ops : Nat) : Int) ≤ 7) (h2 : ∀ w ∈ ops, ∀ o ∈ w, VB 1000 o) : Few ops := ⟨by omega, h2, fun r hr o ho => (h.fine.2.2 r hr o ho).lens.2⟩
theorem agree {x : fP} {ops : List (List Op)} {l m : List Event} {N : Int → Int} {B : Int → Bool} (h : MadeOk x ops l) (hf : Few ops) (hH : Hs ops m N B) (hm : m.length ≤ 1000) {P : Bool → Prop} {k : Bool → Bool → Option Bool} (hk : ∀ b, Ok (k b b) P) : Ok ((mI x ops m).bind fun a => (sy x ops m).bind fun b => k a b) P := by
 refine Ok.bind (AT (h.hist hm)) fun a ha => ?_
 refine Ok.bind (zZ (h.hist hm) hH hf) fun b hb => ?_
 have : a = b := by rw [Bool.eq_iff_iff, ha, hb]
 subst this
 exact hk a
inductive St (ops : List (List Op)) : (Int → Int) → (Int → Bool) → Event → (Int → Int) → (Int → Bool) → Prop
 | call {N : Int → Int} {B : Int → Bool} (t : Int) (r : List Op) (hr : getI ops t = some r) (hb : B t = false) (hn : N t < (r.length : Int)) : St ops N B (Event.mk t (N t) false yq) N (up B t true)
 | ret {N : Int → Int} {B : Int → Bool} (t : Int) (r : List Op) (x : Result) (hr : getI ops t = some r) (hb : B t = true) : St ops N B (Event.mk t (N t) true x) (up N t (N t + 1)) (up B t false)
inductive Pth (ops : List (List Op)) : (Int → Int) → (Int → Bool) → List Event → (Int → Int) → (Int → Bool) → Prop
 | nil {N : Int → Int} {B : Int → Bool} : Pth ops N B [] N B
 | cons {N N1 N2 : Int → Int} {B B1 B2 : Int → Bool} {e : Event} {l : List Event} (h : St ops N B e N1 B1) (h2 : Pth ops N1 B1 l N2 B2) : Pth ops N B (e :: l) N2 B2
section
variable {ops : List (List Op)} {N N1 N2 : Int → Int} {B B1 B2 : Int → Bool}
theorem Pth.app {a b : List Event} (h : Pth ops N B a N1 B1) (h2 : Pth ops N1 B1 b N2 B2) : Pth ops N B (a ++ b) N2 B2 := by
 induction h with
 | nil => exact h2
 | cons h _ ih => exact .cons h (ih h2)
theorem Pth.split {a b : List Event} : ∀ {N B}, Pth ops N B (a ++ b) N2 B2 → ∃ N1 B1, Pth ops N B a N1 B1 ∧ Pth ops N1 B1 b N2 B2 := by
 induction a with
 | nil => intro N B h; exact ⟨N, B, .nil, h⟩
 | cons e a ih =>
  intro N B h
  cases h with
  | cons h h2 =>
   obtain ⟨N1, B1, g1, g2⟩ := ih h2
   exact ⟨N1, B1, .cons h g1, g2⟩
theorem Hs.pth {l : List Event} (h : Hs ops l N B) : Pth ops (fun _ => 0) (fun _ => false) l N B := by
 induction h with
 | nil => exact .nil
 | call t r h hr hb hn ih => exact ih.app (.cons (.call t r hr hb hn) .nil)
 | ret t r x h hr hb ih => exact ih.app (.cons (.ret t r x hr hb) .nil)
theorem Pth.hs {l0 l : List Event} (h0 : Hs ops l0 N B) (h : Pth ops N B l N2 B2) : Hs ops (l0 ++ l) N2 B2 := by
 induction h generalizing l0 with
 | nil => rw [List.append_nil]; exact h0
 | @cons N N1 N2 B B1 B2 e l h _ ih =>
  have h1 : Hs ops (l0 ++ [e]) N1 B1 := by
   cases h with
   | call t r hr hb hn => exact .call t r h0 hr hb hn
   | ret t r x hr hb => exact .ret t r x h0 hr hb
  have := ih h1
  rw [List.append_assoc] at this; exact this
theorem nB {α : Type} {f : Int → α} {t u : Int} {a b : α} (h : t ≠ u) : up (up f t a) u b = up (up f u b) t a := by
 funext s
 unfold up
 by_cases h1 : s = u
 ·rw [if_pos h1, if_neg (by omega), if_pos h1]
 ·rw [if_neg h1]
  by_cases h2 : s = t
  ·rw [if_pos h2, if_pos h2]
  ·rw [if_neg h2, if_neg h2, if_neg h1]
theorem St.swap {x y : Event} (h : St ops N B x N1 B1) (h2 : St ops N1 B1 y N2 B2) (hne : x.thread ≠ y.thread) : ∃ N3 B3, St ops N B y N3 B3 ∧ St ops N3 B3 x N2 B2 := by
 cases h with
 | call t r hr hb hn =>
  cases h2 with
  | call u r' hr' hb' hn' =>
   have hne : t ≠ u := hne
   rw [ig (fun e => hne e.symm)] at hb'
   refine ⟨_, _, .call u r' hr' hb' hn', ?_⟩
   rw [nB hne]
   exact .call t r hr (by rw [ig hne]; exact hb) hn
  | ret u r' z hr' hb' =>
   have hne : t ≠ u := hne
   rw [ig (fun e => hne e.symm)] at hb'
   refine ⟨_, _, .ret u r' z hr' hb', ?_⟩
   rw [nB hne]
   have := St.call (ops := ops) (N := up N u (N u + 1)) (B := up B u false) t r hr (by rw [ig hne]; exact hb) (by rw [ig hne]; exact hn)
   rw [ig hne] at this; exact this
 | ret t r x hr hb =>
  cases h2 with
  | call u r' hr' hb' hn' =>
   have hne : t ≠ u := hne
   rw [ig (fun e => hne e.symm)] at hb' hn'
   refine ⟨N, up B u true, ?_, ?_⟩
   ·have := St.call (ops := ops) (N := N) (B := B) u r' hr' hb' hn'
    rw [ig (fun e => hne e.symm)]; exact this
   ·rw [nB hne]
    exact .ret t r x hr (by rw [ig hne]; exact hb)
  | ret u r' z hr' hb' =>
   have hne : t ≠ u := hne
   rw [ig (fun e => hne e.symm)] at hb'
   refine ⟨up N u (N u + 1), up B u false, ?_, ?_⟩
   ·have := St.ret (ops := ops) (N := N) (B := B) u r' z hr' hb'
    rw [ig (fun e => hne e.symm)]; exact this
   ·rw [nB hne, ig (fun e => hne e.symm), nB hne]
    have := St.ret (ops := ops) (N := up N u (N u + 1)) (B := up B u false) t r x hr (by rw [ig hne]; exact hb)
    rw [ig hne] at this; exact this
theorem Hs.swap {a b : List Event} {x y : Event} (h : Hs ops (a ++ x :: y :: b) N B) (hne : x.thread ≠ y.thread) : Hs ops (a ++ y :: x :: b) N B := by
 obtain ⟨M, D, h1, h2⟩ := h.pth.split
 cases h2 with
 | cons g1 h2 =>
  cases h2 with
  | cons g2 h2 =>
   obtain ⟨N3, B3, e1, e2⟩ := g1.swap g2 hne
   have := Pth.hs (l0 := []) .nil (h1.app (.cons e1 (.cons e2 h2)))
   rw [List.nil_append] at this; exact this
theorem Hs.take {l : List Event} (h : Hs ops l N B) (k : Nat) : ∃ N' B', Hs ops (l.take k) N' B' := by
 have hp := h.pth
 rw [← List.take_append_drop k l] at hp
 obtain ⟨M, D, h1, _⟩ := hp.split
 have := Pth.hs (l0 := []) .nil h1
 rw [List.nil_append] at this; exact ⟨M, D, this⟩
theorem Ak {l : List Event} (h : Hs ops l N B) (hl : l.length ≤ 1000) (ho : ops.length ≤ 1000) : rM l ops = some true := by
 refine Ok.eq ?_
 unfold rM
 refine Ok.bindEq (jR (by omega) (by omega)) ?_
 refine Ok.bindEq (jR (by omega) (by omega)) ?_
 have hrep : ∀ {α : Type} (z : α) t, 0 ≤ t → t < (ops.length : Int) → getI (List.replicate ((ops.length : Int)).toNat z) t = some z := fun z t t0 t1 => by
  obtain ⟨v, hv⟩ : ∃ v, getI (List.replicate ((ops.length : Int)).toNat z) t = some v := ⟨_, fH t0 (by rw [List.length_replicate]; omega)⟩
  rw [hv, (List.mem_replicate.1 (fZ hv)).2]
 refine lb (fun _ _ i => ((l.length : Int) - i).toNat) (fun n b i => 0 ≤ i ∧ i ≤ (l.length : Int) ∧ n.length = ops.length ∧ b.length = ops.length ∧ ∃ M D, Pth ops M D (l.drop i.toNat) N B ∧ ∀ t, 0 ≤ t → t < (ops.length : Int) → getI n t = some (M t) ∧ getI b t = some (D t) ∧ 0 ≤ M t ∧ M t ≤ i) (fun _ _ _ r => r = true) ?_ BIG (List.replicate ((ops.length : Int)).toNat 0) (List.replicate ((ops.length : Int)).toNat false) 0 ⟨by omega, by omega, by simp, by simp, fun _ => 0, fun _ => false, by simpa using h.pth, fun t t0 t1 => ⟨hrep _ t t0 t1, hrep _ t t0 t1, by simp, by simp⟩⟩ (gr (by omega))
 intro n b i k ⟨i0, i1, hn, hb, M, D, hp, hnb⟩ hk
 unfold vZ
 refine Ok.ite (fun hi => ?_) fun hi => ?_
 rotate_left
 ·unfold vY
  exact Ok.some rfl
 obtain ⟨e, he⟩ : ∃ e, getI l i = some e := ⟨_, fH i0 hi⟩
 rw [iv he] at hp
 refine Ok.bindEq he ?_
 cases hp with
 | cons hs hp =>
  cases hs with
  | call t r hr hbf hlt =>
   obtain ⟨t0, t1⟩ := gf hr
   obtain ⟨g1, g2, g3, g4⟩ := hnb t t0 t1
   refine Ok.ite (fun h => by simp only at h; omega) fun _ => Ok.ite (fun h => by simp only at h; omega) fun _ => ?_
   refine Ok.bindEq g1 ?_
   refine Ok.ite (fun _ => ?_) fun h => absurd rfl h
   refine Ok.bindEq g2 ?_
   rw [hbf]
   unfold pu
   refine Ok.ite (fun h => (by cases h)) fun _ => ?_
   refine Ok.ite (fun h => (by cases h)) fun _ => ?_
   refine Ok.bindEq g1 ?_
   refine Ok.bindEq hr ?_
   refine Ok.ite (fun h => by omega) fun _ => ?_
   have hz : dcd (yq = Result.mk 0 0 0 false 0) = true := ik.2 rfl
   simp only [hz]
   unfold sA
   refine Ok.ite (fun h => (by cases h)) fun _ => ?_
   refine Ok.ite (fun h => (by cases h)) fun _ => ?_
   unfold oI
   refine Ok.bindEq g2 ?_
   refine Ok.bindEq g2 ?_
   rw [gh (by omega) (by omega), hbf]
   refine hk _ _ _ ⟨by omega, by omega, hn, by rw [f9]; exact hb, M, up D t true, hp, fun u u0 u1 => ?_⟩ (by omega)
   obtain ⟨f1, f2, f3, f4⟩ := hnb u u0 u1
   refine ⟨f1, ?_, f3, by omega⟩
   show getI (f6 b t (!false)) u = _
   rw [jq t0 (by omega)]
   unfold up
   by_cases eu : u = t
   ·rw [if_pos eu, if_pos eu]; rfl
   ·rw [if_neg eu, if_neg eu]; exact f2
  | ret t r x hr hbt =>
   obtain ⟨t0, t1⟩ := gf hr
   obtain ⟨g1, g2, g3, g4⟩ := hnb t t0 t1
   refine Ok.ite (fun h => by simp only at h; omega) fun _ => Ok.ite (fun h => by simp only at h; omega) fun _ => ?_
   refine Ok.bindEq g1 ?_
   refine Ok.ite (fun _ => ?_) fun h => absurd rfl h
   refine Ok.bindEq g2 ?_
   rw [hbt]
   unfold pu
   refine Ok.ite (fun h => (by cases h)) fun _ => ?_
   refine Ok.ite (fun _ => ?_) fun h => absurd rfl h
   unfold sA
   refine Ok.ite (fun h => (by cases h)) fun _ => ?_
   refine Ok.ite (fun _ => ?_) fun h => absurd rfl h
   refine Ok.bindEq g1 ?_
   refine Ok.bindEq g1 ?_
   unfold oI
   refine Ok.bindEq g2 ?_
   refine Ok.bindEq g2 ?_
   rw [gh (x := i + 1) (by omega) (by omega), gh (by omega) (by omega), hbt]
   refine hk _ _ _ ⟨by omega, by omega, by rw [f9]; exact hn, by rw [f9]; exact hb, up M t (M t + 1), up D t false, hp, fun u u0 u1 => ?_⟩ (by omega)
   obtain ⟨f1, f2, f3, f4⟩ := hnb u u0 u1
   show getI (f6 n t (M t + 1)) u = _ ∧ getI (f6 b t (!true)) u = _ ∧ _
   rw [jq t0 (by omega), jq t0 (by omega)]
   unfold up
   by_cases eu : u = t
   ·subst eu
    rw [if_pos rfl, if_pos rfl, if_pos rfl, if_pos rfl]
    exact ⟨rfl, rfl, by omega, by omega⟩
   ·rw [if_neg eu, if_neg eu, if_neg eu, if_neg eu]
    exact ⟨f1, f2, f3, by omega⟩
end
theorem Eg {m : List Event} {k : Int} {x y : Event} (hx : getI m k = some x) (hy : getI m (k + 1) = some y) : m = m.take k.toNat ++ x :: y :: m.drop (k.toNat + 2) ∧ f6 (f6 m k y) (k + 1) x = m.take k.toNat ++ y :: x :: m.drop (k.toNat + 2) := by
 obtain ⟨k0, h1, _⟩ := fK hx
 obtain ⟨_, h2, _⟩ := fK hy
 rw [show (k + 1).toNat = k.toNat + 1 by omega] at h2
 obtain ⟨a1, a2⟩ := List.getElem?_eq_some_iff.1 h1
 obtain ⟨b1, b2⟩ := List.getElem?_eq_some_iff.1 h2
 have e : m = m.take k.toNat ++ x :: y :: m.drop (k.toNat + 2) := by
  conv => lhs; rw [← List.take_append_drop k.toNat m, List.drop_eq_getElem_cons a1, a2, List.drop_eq_getElem_cons b1, b2]
 refine ⟨e, ?_⟩
 have hlen : (m.take k.toNat).length = k.toNat := by rw [List.length_take]; omega
 unfold f6
 rw [show (k + 1).toNat = k.toNat + 1 by omega]
 generalize hA : m.take k.toNat = A at *
 generalize hD : m.drop (k.toNat + 2) = D at *
 rw [e, List.set_append_right _ _ (by omega), hlen, List.set_append_right _ _ (by omega), hlen]
 rw [Nat.sub_self, show k.toNat + 1 - k.toNat = 1 by omega]; rfl
theorem pL (codes : List Int) (a b cut : Int) (hc : ∀ b ∈ codes, 0 ≤ b ∧ b < 256) : wb codes a b cut = some true := by
 refine Ok.eq ?_
 unfold wb
 refine Ok.bindEq DJ ?_
 rw [if_pos rfl]
 refine Ok.bd3 (C4 hc (by omega) (by omega)) fun x ops l ⟨hm, hs, hv⟩ => ?_
 simp only at hm hs hv
 have hll := hm.ev.2
 have hf := CP hm hs hv
 have hol := hm.len
 have ht4 := hm.cfg.t4
 obtain ⟨n, s, hn, hR, hsl, hH⟩ := hm.hs
 refine Ok.bindEq (gi (by simp; omega)) ?_
 rw [List.nil_append]
 refine ie (fun _ i => (3 - i).toNat) (fun m i => 0 ≤ i ∧ i ≤ 3 ∧ m.length = l.length ∧ ∃ N B, Hs ops m N B) (fun _ _ r => r = true) ?_ BIG l 0 ⟨by omega, by omega, rfl, _, _, hH⟩ (gr (by omega))
 intro m i k ⟨i0, i1, hml, N, B, hHm⟩ hk
 have hJ2 : ∀ m', i < 3 → m'.length = l.length → (∃ N B, Hs ops m' N B) → Ok (sB cut ops a b i x k m') fun r => r = true := fun m' hi h1 h2 => by
  unfold sB
  rw [gh (by omega) (by omega)]
  exact hk _ _ ⟨by omega, by omega, h1, h2⟩ (by omega)
 unfold wa
 generalize hL : [a, b, wI (a + 1)] = L at *
 have hL3 : L.length = 3 := by rw [← hL]; rfl
 refine Ok.ite (fun hi => ?_) fun hi => ?_
 ·obtain ⟨z, hz⟩ : ∃ z, getI L i = some z := ⟨_, fH i0 hi⟩
  have hi3 : i < 3 := by omega
  refine Ok.bindEq hz ?_
  refine Ok.ite (fun hlt => ?_) fun _ => hJ2 m hi3 hml ⟨N, B, hHm⟩
  rw [gh (by omega) (by omega)]
  refine Ok.bind (Eu (by omega) (by omega)) fun q ⟨q0, q1⟩ => ?_
  rw [gh (by omega) (by omega)]
  obtain ⟨e1, he1⟩ : ∃ e, getI m q = some e := ⟨_, fH q0 (by omega)⟩
  obtain ⟨e2, he2⟩ : ∃ e, getI m (q + 1) = some e := ⟨_, fH (by omega) (by omega)⟩
  refine Ok.bindEq he1 ?_
  refine Ok.bindEq he2 ?_
  refine Ok.ite (fun _ => hJ2 m hi3 hml ⟨N, B, hHm⟩) fun hne => ?_
  refine Ok.bindEq he1 ?_
  refine Ok.bindEq he2 ?_
  unfold v8
  refine Ok.bindEq he1 ?_
  rw [gh (by omega) (by omega)]
  refine Ok.bindEq (fH (by omega) (by rw [f9]; omega)) ?_
  obtain ⟨g1, g2⟩ := Eg he1 he2
  refine hJ2 _ hi3 (by rw [f9, f9]; exact hml) ⟨N, B, ?_⟩
  show Hs ops (f6 (f6 m q e2) (q + 1) e1) N B
  rw [g2]
  rw [g1] at hHm
  exact hHm.swap hne
 ·unfold v6
  refine Ok.bindEq (Ak hHm (by omega) (by omega)) ?_
  rw [if_pos rfl, gh (by omega) (by omega)]
  refine Ok.bind (Eu (by omega) (by omega)) fun q ⟨q0, q1⟩ => ?_
  have hcut : ka m 0 q = some (m.take q.toNat) := by rw [i7 (by omega) (by omega) (by omega)]; simp
  refine Ok.bindEq hcut ?_
  refine agree hm hf hHm (by omega) fun b1 => ?_
  rw [if_pos (by simp)]
  obtain ⟨N', B', hH'⟩ := hHm.take q.toNat
  exact agree hm hf hH' (by rw [List.length_take]; omega) fun b2 => Ok.some (by simp)
end Go.Hx
