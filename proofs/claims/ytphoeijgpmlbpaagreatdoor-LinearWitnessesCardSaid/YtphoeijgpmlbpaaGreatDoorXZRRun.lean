
import Derived.Test.YtphoeijgpmlbpaaGreatDoorXZDesk
import Derived.Test.YtphoeijgpmlbpaaGreatDoorHxLoops
import Derived.Test.YtphoeijgpmlbpaaGreatDoorHxIdx
import Derived.Test.YtphoeijgpmlbpaaGreatDoorXZNum
set_option linter.unusedVariables false
set_option linter.unusedSimpArgs false
namespace Go.Hx
open Go
def und : List Bool → Nat
 | [] => 0
 | b :: r => (if b = true then 0 else 1) + und r
theorem AL : ∀ {d : List Bool} {i : Nat}, d[i]? = some false → und (d.set i true) + 1 = und d
 | [], _, h => by simp at h
 | b :: d, 0, h => by simp at h; subst h; simp [und]; omega
 | b :: d, i + 1, h => by
  have := AL (d := d) (i := i) (by simpa using h)
  simp only [List.set_cons_succ, und]; omega
theorem yW {d : List Bool} {i : Int} (h : getI d i = some false) : und (f8 d i true) + 1 = und d := AL (fL h).2.1
theorem kj : ∀ (d : List Bool) (n : Nat), und (d.take n) ≤ und d
 | [], n => by simp
 | b :: d, 0 => by simp [und]
 | b :: d, n + 1 => by
  have := kj d n
  simp only [List.take_succ_cons, und]; omega
theorem yX : ∀ {d : List Bool} {i : Nat} {b : Bool}, d[i]? = some b → und (d.take (i + 1)) = und (d.take i) + if b = true then 0 else 1
 | [], _, _, h => by simp at h
 | c :: d, 0, b, h => by simp at h; subst h; simp [und]
 | c :: d, i + 1, b, h => by
  have := yX (d := d) (i := i) (b := b) (by simpa using h)
  simp only [List.take_succ_cons, und]; omega
theorem uU {d : List Bool} {i : Int} {b : Bool} (h : getI d i = some b) : und (d.take (i + 1).toNat) = und (d.take i.toNat) + if b = true then 0 else 1 := by
 obtain ⟨h0, h1, _⟩ := fL h
 rw [show (i + 1).toNat = i.toNat + 1 by omega]
 exact yX h1
def fS : Nat → Nat
 | 0 => 1
 | 1 => 7
 | n + 2 => 1 + (n + 2) * (6 * fS (n + 1) + (n + 2) * fS n)
def g1 : Nat → Nat
 | 0 => 0
 | n + 1 => fS n
def g2 : Nat → Nat
 | n + 2 => fS n
 | _ => 0
def wS (u : Nat) : Nat := 6 * g1 u + u * g2 u
theorem Fe : ∀ u : Nat, fS u = 1 + u * wS u
 | 0 => rfl
 | 1 => rfl
 | n + 2 => rfl
theorem FR (u : Nat) : 1 ≤ fS u := by rw [Fe]; omega
theorem g1_eq {u v : Nat} (h : v + 1 = u) : g1 u = fS v := by subst h; rfl
theorem g2_eq {u v : Nat} (h : v + 2 = u) : g2 u = fS v := by subst h; rfl
theorem nK {α : Type} (l : List α) (i : Int) (x : α) : (f8 l i x).length = l.length := gd
section
variable (ops : List (List Op)) (calls : List A2Int) (before : List (List Bool)) (back : List Bool) (result : List Result) (cl : Bool) (caps : List Int)
def BU (t : ByteArray) : Prop := ∀ d C, d.length = calls.length → Ch56 caps C → stB d C = t → ¬ kF ops calls before back result cl d C
def OldT (u : Nat) (t : ByteArray) : Prop := ∀ d C, d.length = calls.length → Ch56 caps C → stB d C = t → u < und d
structure xO (d : List Bool) (C : List fJ) (seen : List ByteArray) (r : Bool × List ByteArray) : Prop where
 yes : r.1 = true → kF ops calls before back result cl d C
 no : r.1 = false → ¬ kF ops calls before back result cl d C ∧ ∃ new, r.2 = seen ++ new ∧ new.length ≤ fS (und d) ∧ ∀ t ∈ new, BU ops calls before back result cl caps t
def SinceT (s0 : List ByteArray) (m : Nat) (s : List ByteArray) : Prop := ∃ new, s = s0 ++ new ∧ new.length ≤ m ∧ ∀ t ∈ new, BU ops calls before back result cl caps t
structure BS (d : List Bool) (C : List fJ) (i : Int) : Prop where
 one : ∀ o r, lm before back cl d i → opA ops calls i = some o → r ∈ ux back result o C i → (ge C o r).2 = true → ¬ kF ops calls before back result cl (f8 d i true) (ge C o r).1
 two : ∀ k a b x y, i < k → lm before back cl d i → lm before back cl d k → opA ops calls i = some a → opA ops calls k = some b → (gV C a x b y || gV C b y a x) = true → kr back result i x → kr back result k y → ¬ kF ops calls before back result cl (f8 (f8 d i true) k true) C
end
section
variable {ops : List (List Op)} {l : List Event} {calls : List A2Int} {before : List (List Bool)} {back : List Bool} {result : List Result} {cl : Bool} {caps : List Int}
theorem SinceT.mono {s0 s : List ByteArray} {m m' : Nat} (h : SinceT ops calls before back result cl caps s0 m s) (hm : m ≤ m') : SinceT ops calls before back result cl caps s0 m' s := by
 obtain ⟨new, h1, h2, h3⟩ := h
 exact ⟨new, h1, by omega, h3⟩
theorem F3 {d : List Bool} {C : List fJ} (hs : ¬ ∀ i, getI back i = some true → getI d i = some true) (h : ∀ i, 0 ≤ i → i < (d.length : Int) → BS ops calls before back result cl d C i) : ¬ kF ops calls before back result cl d C := by
 intro hw
 cases hw with
 | stop h1 => exact hs h1
 | one hm ho hr ha hw => exact (h _ (gj hm.un).1 (gj hm.un).2).one _ _ hm ho hr ha hw
 | two hik hi hk ha hb hp hx hy hw => exact (h _ (gj hi.un).1 (gj hi.un).2).two _ _ _ _ _ hik hi hk ha hb hp hx hy hw
theorem AC (h : Sea ops calls before back result) (hcap : caps.length ≤ 10) : ∀ (fu : Nat) (d : List Bool) (C : List fJ) (seen : List ByteArray), d.length = calls.length → Ch56 caps C → und d < fu → seen.length + fS (und d) ≤ 4294967296 → (∀ t ∈ seen, BU ops calls before back result cl caps t ∨ OldT calls caps (und d) t) → Ok (pS fu ops l calls before back result cl false seen d C) fun r => xO ops calls before back result cl caps d C seen r
 | 0, _, _, _, _, _, h, _, _ => by omega
 | fu + 1, d, C, seen, hd, hC, hfu, hlen, hseen => by
  have ih := fun d C seen => AC h hcap fu d C seen
  have hn := h.n
  have hfp := FR (und d)
  show Ok (sf (pS fu) ops l calls before back result cl false seen d C) _
  generalize hrc : pS fu = rc at *
  unfold sf
  refine Ok.bind (yu h hd) fun b hb => ?_
  refine Ok.ite (fun hbt => Ok.some ⟨fun _ => .stop (hb.1 hbt), fun h => (by cases h)⟩) fun hbf => ?_
  have hns : ¬ ∀ i, getI back i = some true → getI d i = some true := fun hh => hbf (hb.2 hh)
  refine Ok.bindEq (Ei (by omega) hC hcap) ?_
  refine Ok.bd2 (DN (by omega)) fun kb s2 ⟨hk1, hk2⟩ => ?_
  simp only at hk1 hk2
  refine Ok.ite (fun hkt => ?_) fun hkf => ?_
  ·obtain ⟨hm, hs2⟩ := hk1 hkt
   subst hs2
   have hdead : ¬ kF ops calls before back result cl d C := by
    rcases hseen _ hm with hD | hO
    ·exact hD d C hd hC rfl
    ·exact absurd (hO d C hd hC rfl) (Nat.lt_irrefl _)
   exact Ok.some ⟨fun h => (by cases h), fun _ => ⟨hdead, [], by simp, by simp, by simp⟩⟩
  obtain ⟨hnm, hs2⟩ := hk2 (by simpa using hkf)
  subst hs2
  have hfu2 := Fe (und d)
  generalize hu : und d = u at *
  have hinj : ∀ d' C', d'.length = calls.length → Ch56 caps C' → stB d' C' = stB d C → d' = d ∧ C' = C := fun d' C' h1 h2 h3 => E9 (by omega) h2 hC h3
  have hchild : ∀ (d' : List Bool) (C' : List fJ) (s : List ByteArray) (m : Nat), SinceT ops calls before back result cl caps (seen ++ [stB d C]) m s → d'.length = calls.length → Ch56 caps C' → und d' < u → m + fS (und d') ≤ u * wS u → Ok (rc ops l calls before back result cl false s d' C') fun r => (r.1 = true → kF ops calls before back result cl d' C') ∧ (r.1 = false → ¬ kF ops calls before back result cl d' C' ∧ SinceT ops calls before back result cl caps (seen ++ [stB d C]) (m + fS (und d')) r.2) := by
   intro d' C' s m hI hd' hC' hlt hm
   obtain ⟨new, rfl, hl, hD⟩ := hI
   refine (ih d' C' _ hd' hC' (by omega) (by simp; omega) fun t ht => ?_).mono fun r hr => ⟨hr.yes, fun hb => ?_⟩
   ·rcases List.mem_append.1 ht with ht | ht
    ·rcases List.mem_append.1 ht with ht | ht
     ·rcases hseen t ht with h1 | h1
      ·exact .inl h1
      ·exact .inr fun d2 C2 e1 e2 e3 => Nat.lt_trans hlt (h1 d2 C2 e1 e2 e3)
     ·rw [List.mem_singleton] at ht
      refine .inr fun d2 C2 e1 e2 e3 => ?_
      rw [(hinj d2 C2 e1 e2 (by rw [e3, ht])).1, hu]; exact hlt
    ·exact .inl (hD t ht)
   ·obtain ⟨h1, new', h2, h3, h4⟩ := hr.no hb
    refine ⟨h1, new ++ new', by rw [h2]; simp [List.append_assoc], by simp; omega, fun t ht => ?_⟩
    rcases List.mem_append.1 ht with ht | ht
    ·exact hD t ht
    ·exact h4 t ht
  have hfinal : ∀ s m, SinceT ops calls before back result cl caps (seen ++ [stB d C]) m s → m ≤ u * wS u → ¬ kF ops calls before back result cl d C → xO ops calls before back result cl caps d C seen (false, s) := by
   intro s m hI hm hno
   obtain ⟨new, rfl, hl, hD⟩ := hI
   refine ⟨fun h => (by cases h), fun _ => ⟨hno, stB d C :: new, by simp, by rw [hu, hfu2]; simp; omega, fun t ht => ?_⟩⟩
   rcases List.mem_cons.1 ht with rfl | ht
   ·intro d2 C2 e1 e2 e3
    obtain ⟨rfl, rfl⟩ := hinj d2 C2 e1 e2 e3
    exact hno
   ·exact hD t ht
  refine ip (fun i _ => ((d.length : Int) - i).toNat) (fun i s => 0 ≤ i ∧ i ≤ (d.length : Int) ∧ SinceT ops calls before back result cl caps (seen ++ [stB d C]) (und (d.take i.toNat) * wS u) s ∧ ∀ i', 0 ≤ i' → i' < i → BS ops calls before back result cl d C i') (fun _ _ r => xO ops calls before back result cl caps d C seen r) ?_ BIG 0 (seen ++ [stB d C]) ⟨by omega, by omega, ⟨[], by simp, by simp, by simp⟩, fun i' h0 h1 => by omega⟩ (gp (by omega))
  intro i s k ⟨i0, i1, hI, hdead⟩ hk
  unfold wG
  refine Ok.ite (fun hi => ?_) fun hi => ?_
  rotate_left
  ·unfold wA
   refine Ok.some (hfinal s _ hI (Nat.mul_le_mul_right _ (by rw [← hu]; exact kj _ _)) (F3 hns fun i' h0 h1 => hdead i' h0 (by omega)))
  obtain ⟨di, hdi⟩ : ∃ b, getI d i = some b := ⟨_, fG i0 hi⟩
  have htk := uU hdi
  have hcle := kj d (i + 1).toNat
  rw [hu] at hcle
  refine Ok.bind (DW h hd i0 (by omega)) fun mb hmb => ?_
  have hJ2 : ∀ s', SinceT ops calls before back result cl caps (seen ++ [stB d C]) (und (d.take (i + 1).toNat) * wS u) s' → BS ops calls before back result cl d C i → Ok (o8 d C i ops l calls before back result cl false k rc s') fun r => xO ops calls before back result cl caps d C seen r := fun s' h1 h2 => by
   unfold o8
   rw [gh (by omega) (by omega)]
   refine hk _ _ ⟨by omega, by omega, h1, fun i' h0 h3 => ?_⟩ (by omega)
   by_cases e : i' = i
   ·subst e; exact h2
   ·exact hdead i' h0 (by omega)
  refine Ok.ite (fun hmt => ?_) fun hmf => ?_
  rotate_left
  ·have hno : ¬ lm before back cl d i := fun hh => hmf (hmb.2 hh)
   exact hJ2 s (hI.mono (Nat.mul_le_mul_right _ (by rw [htk]; omega))) ⟨fun o r hM => absurd hM hno, fun k a b x y _ hM => absurd hM hno⟩
  have hM := hmb.1 hmt
  have hdf := hM.un
  rw [hdi] at hdf; cases hdf
  rw [if_neg (by decide)] at htk
  generalize hc : und (d.take i.toNat) = c at *
  have hAw : (c + 1) * wS u ≤ u * wS u := Nat.mul_le_mul_right _ (by omega)
  rw [Nat.succ_mul] at hAw
  have hwS : wS u = 6 * g1 u + u * g2 u := rfl
  obtain ⟨o, ho, hom, hov, hoc⟩ := h.op i i0 (by omega)
  refine Ok.bindEq (zM h hC.w.ok i0 (by omega) ho hom) ?_
  have hrl : (ux back result o C i).length ≤ 6 := by
   unfold ux; split
   ·simp
   ·exact Bi hoc
  have hu1 := yW hdi
  rw [hu] at hu1
  have hg1 := g1_eq hu1
  have hd1 : (f8 d i true).length = calls.length := by rw [nK]; exact hd
  generalize hA : c * wS u = A at *
  generalize hrs : ux back result o C i = rs at *
  refine ip (fun n _ => ((rs.length : Int) - n).toNat) (fun n s => 0 ≤ n ∧ n ≤ (rs.length : Int) ∧ SinceT ops calls before back result cl caps (seen ++ [stB d C]) (A + n.toNat * g1 u) s ∧ ∀ r ∈ rs.take n.toNat, (ge C o r).2 = true → ¬ kF ops calls before back result cl (f8 d i true) (ge C o r).1) (fun _ _ r => xO ops calls before back result cl caps d C seen r) ?_ BIG 0 s ⟨by omega, by omega, hI.mono (by omega), by simp⟩ (gp (by omega))
  intro n s k2 ⟨n0, n1, hI, hdn⟩ hk2
  unfold wF
  refine Ok.ite (fun hnl => ?_) fun hnl => ?_
  ·obtain ⟨r, hr⟩ : ∃ r, getI rs n = some r := ⟨_, fG n0 hnl⟩
   have hng : n.toNat * g1 u + g1 u ≤ 6 * g1 u := by
    rw [← Nat.succ_mul]; exact Nat.mul_le_mul_right _ (by omega)
   have hn1 : (n + 1).toNat * g1 u = n.toNat * g1 u + g1 u := by
    rw [show (n + 1).toNat = n.toNat + 1 by omega, Nat.succ_mul]
   rw [Ar]
   refine Ok.bindEq ho ?_
   refine Ok.bindEq hr ?_
   refine Ok.bd2 (Q := fun z => z = ge C o r) ⟨_, jM hC.w.ok hom, rfl⟩ fun C' ok' hC' => ?_
   have e1 : (ge C o r).1 = C' := by rw [← hC']
   have e2 : (ge C o r).2 = ok' := by rw [← hC']
   have hgo : ∀ s', SinceT ops calls before back result cl caps (seen ++ [stB d C]) (A + (n + 1).toNat * g1 u) s' → ((ge C o r).2 = true → ¬ kF ops calls before back result cl (f8 d i true) (ge C o r).1) → Ok (s7 d C i rs n ops l calls before back result cl false k k2 rc false s') fun r => xO ops calls before back result cl caps d C seen r := fun s' h1 h2 => by
    unfold s7
    rw [if_neg (by decide), gh (by omega) (by omega)]
    refine hk2 _ _ ⟨by omega, by omega, h1, fun r' hr' => ?_⟩ (by omega)
    rw [iv hr] at hr'
    rcases List.mem_append.1 hr' with hr' | hr'
    ·exact hdn r' hr'
    ·rw [List.mem_singleton] at hr'; subst hr'; exact h2
   refine Ok.ite (fun hok => ?_) fun hok => ?_
   rotate_left
   ·exact hgo s (hI.mono (by omega)) fun h => absurd (by rw [← e2]; exact h) hok
   have hap : (ge C o r).2 = true := by rw [e2]; exact hok
   have hCn := hC.apply hov hap
   rw [e1] at hCn
   refine Ok.bindEq (xI (by omega) i0 hi) ?_
   refine Ok.bd2 (hchild _ C' s _ hI hd1 hCn (by omega) (by omega)) fun b s3 ⟨q1, q2⟩ => ?_
   simp only at q1 q2
   cases b with
   | true =>
    unfold s7
    rw [if_pos rfl]
    exact Ok.some ⟨fun _ => .one hM ho (by rw [hrs]; exact fV hr) hap (by rw [e1]; exact q1 rfl), fun h => (by cases h)⟩
   | false =>
    obtain ⟨q3, q4⟩ := q2 rfl
    exact hgo s3 (q4.mono (by omega)) fun _ => by rw [e1]; exact q3
  unfold wE
  rw [gh (by omega) (by omega)]
  have hn6 : n.toNat * g1 u ≤ 6 * g1 u := Nat.mul_le_mul_right _ (by omega)
  have hone : ∀ o' r, lm before back cl d i → opA ops calls i = some o' → r ∈ ux back result o' C i → (ge C o' r).2 = true → ¬ kF ops calls before back result cl (f8 d i true) (ge C o' r).1 := fun o' r _ ho' hr' ha => by
   rw [ho] at ho'; cases ho'
   rw [hrs] at hr'
   exact hdn r (by rw [List.take_of_length_le (by omega)]; exact hr') ha
  refine ip (fun j _ => ((d.length : Int) - j).toNat) (fun j s => i + 1 ≤ j ∧ j ≤ (d.length : Int) ∧ SinceT ops calls before back result cl caps (seen ++ [stB d C]) (A + 6 * g1 u + und (d.take j.toNat) * g2 u) s ∧ ∀ k', k' < j → ∀ a b x y, i < k' → lm before back cl d i → lm before back cl d k' → opA ops calls i = some a → opA ops calls k' = some b → (gV C a x b y || gV C b y a x) = true → kr back result i x → kr back result k' y → ¬ kF ops calls before back result cl (f8 (f8 d i true) k' true) C) (fun _ _ r => xO ops calls before back result cl caps d C seen r) ?_ BIG (i + 1) s ⟨by omega, by omega, hI.mono (by omega), fun k' hk' a b x y hik => by omega⟩ (gp (by omega))
  intro j s k3 ⟨j0, j1, hI, hdj⟩ hk3
  unfold wC
  refine Ok.ite (fun hj => ?_) fun hj => ?_
  rotate_left
  ·refine hJ2 s (hI.mono ?_) ⟨hone, fun k' a b x y hik h1 h2 => hdj k' (by have := (gj h2.un).2; omega) a b x y hik h1 h2⟩
   have h9 : und (d.take j.toNat) * g2 u ≤ u * g2 u := Nat.mul_le_mul_right _ (by rw [← hu]; exact kj _ _)
   rw [htk, show (c + 1) * wS u = c * wS u + wS u from Nat.succ_mul _ _, hA]; omega
  obtain ⟨dj, hdj'⟩ : ∃ b, getI d j = some b := ⟨_, fG (by omega) hj⟩
  have htj := uU hdj'
  have hjle : und (d.take (j + 1).toNat) * g2 u ≤ u * g2 u := Nat.mul_le_mul_right _ (by rw [← hu]; exact kj _ _)
  have hgo : ∀ s', SinceT ops calls before back result cl caps (seen ++ [stB d C]) (A + 6 * g1 u + und (d.take (j + 1).toNat) * g2 u) s' → (∀ a b x y, lm before back cl d j → opA ops calls i = some a → opA ops calls j = some b → (gV C a x b y || gV C b y a x) = true → kr back result i x → kr back result j y → ¬ kF ops calls before back result cl (f8 (f8 d i true) j true) C) → Ok (pR d C i j ops l calls before back result cl false k k3 rc false s') fun r => xO ops calls before back result cl caps d C seen r := fun s' h1 h2 => by
   unfold pR
   rw [if_neg (by decide), gh (by omega) (by omega)]
   refine hk3 _ _ ⟨by omega, by omega, h1, fun k' hk' a b x y hik g1' g2' g3 g4 g5 g6 g7 => ?_⟩ (by omega)
   by_cases e : k' = j
   ·subst e; exact h2 a b x y g2' g3 g4 g5 g6 g7
   ·exact hdj k' (by omega) a b x y hik g1' g2' g3 g4 g5 g6 g7
  have hsame : und (d.take j.toNat) * g2 u ≤ und (d.take (j + 1).toNat) * g2 u := Nat.mul_le_mul_right _ (by rw [htj]; omega)
  refine Ok.bind (DW h hd (by omega) (by omega)) fun mj hmj => ?_
  refine Ok.ite (fun hmjt => ?_) fun hmjf => ?_
  rotate_left
  ·exact hgo s (hI.mono (by omega)) fun a b x y hMj => absurd (hmj.2 hMj) hmjf
  have hMj := hmj.1 hmjt
  have hdf := hMj.un
  rw [hdj'] at hdf; cases hdf
  rw [if_neg (by decide)] at htj
  rw [htj, Nat.succ_mul] at hjle
  obtain ⟨o2, ho2, hom2, hov2, hoc2⟩ := h.op j (by omega) (by omega)
  refine Ok.bind (E1 h i0 (by omega) (by omega) (by omega) ho hom ho2 hom2) fun mt hmt2 => ?_
  refine Ok.ite (fun hmtt => ?_) fun hmtf => ?_
  rotate_left
  ·refine hgo s (hI.mono (by omega)) fun a b x y _ g3 g4 g5 g6 g7 => ?_
   rw [ho] at g3; cases g3
   rw [ho2] at g4; cases g4
   exact absurd (hmt2.2 ⟨x, y, g5, g6, g7⟩) hmtf
  refine Ok.bindEq (xI (by omega) i0 hi) ?_
  refine Ok.bindEq (xI (by rw [nK]; omega) (by omega) (by rw [nK]; omega)) ?_
  have hdj2 : getI (f8 d i true) j = some false := by
   rw [jY i0 hi, if_neg (by omega)]; exact hdj'
  have hu2 := yW hdj2
  have hg2 := g2_eq (u := u) (v := und (f8 (f8 d i true) j true)) (by omega)
  refine Ok.bd2 (hchild _ C s _ hI (by rw [nK]; exact hd1) hC (by omega) (by omega)) fun b s3 ⟨q1, q2⟩ => ?_
  simp only at q1 q2
  cases b with
  | true =>
   unfold pR
   rw [if_pos rfl]
   obtain ⟨x, y, g5, g6, g7⟩ := hmt2.1 hmtt
   exact Ok.some ⟨fun _ => .two (by omega) hM hMj ho ho2 g5 g6 g7 (q1 rfl), fun h => (by cases h)⟩
  | false =>
   obtain ⟨q3, q4⟩ := q2 rfl
   refine hgo s3 (q4.mono ?_) fun a b x y _ _ _ _ _ _ => q3
   rw [htj, show (und (d.take j.toNat) + 1) * g2 u = und (d.take j.toNat) * g2 u + g2 u from Nat.succ_mul _ _]; omega
end
def gm (l : List Event) : List A2Int := (l.filter fun e => !e.ret).map fun e => A2Int.mk e.thread e.op
theorem tn (l : List Event) : (gm l).length ≤ l.length := by unfold gm; rw [List.length_map]; exact List.length_filter_le _ _
theorem Bz {l : List Event} {c : A2Int} : c ∈ gm l ↔ ∃ e ∈ l, isE c.x0 c.x1 false e = true := by
 unfold gm
 simp only [List.mem_map, List.mem_filter]
 constructor
 ·rintro ⟨e, ⟨h1, h2⟩, rfl⟩
  exact ⟨e, h1, by simpa [isE] using h2⟩
 ·rintro ⟨e, h1, h2⟩
  simp [isE] at h2
  exact ⟨e, ⟨h1, by simp [h2.2.2]⟩, by obtain ⟨x0, x1⟩ := c; simp at h2; simp [h2]⟩
theorem yK (l : List Event) (t o : Int) (b : Bool) : nf l t o b = pz l t o b := by
 unfold nf pz
 have : rR l t o b = sw t o b l := by
  funext k i
  unfold rR sw
  cases h : getI l i <;> simp [vT, qI, oN, su]
 rw [this]
theorem kU {l : List Event} {t o : Int} {b : Bool} (hl : l.length ≤ 1000000000) : nf l t o b = some (gf l t o b) := by rw [yK, pr hl]
theorem kp {l : List Event} {t o : Int} (hl : l.length ≤ 1000000000) : sQ l t o = some (kV l t o) := by
 rw [← pX hl]
 unfold sQ uy
 rw [yK]
theorem uw {l : List Event} {t o : Int} (hl : l.length ≤ 1000000000) : sh l t o = some (gf l t o false) := by
 unfold sh; rw [kU hl]; rfl
def jf (l : List Event) (a b : A2Int) : Bool := decide (0 ≤ gf l a.x0 a.x1 true) && (decide (0 ≤ gf l b.x0 b.x1 false) && decide (gf l a.x0 a.x1 true < gf l b.x0 b.x1 false))
theorem jg {l : List Event} {a b : A2Int} (hl : l.length ≤ 1000000000) : ng l a b = some (jf l a b) := by
 unfold ng jf oO
 rw [kU hl, kU hl]
 simp only [Option.bind_some, ge_iff_le]
 split
 ·split
  ·rename_i h1 h2; simp [h1, h2, gW]
  ·rename_i h1 h2; simp [h1, h2]
 ·rename_i h1; simp [h1]
theorem nR {l : List Event} (hl : l.length ≤ 1000000000) : oM l = some (gm l) := by
 unfold oM gm
 have key : ∀ n p i, (0 ≤ i ∧ i ≤ (l.length : Int) ∧ (p.length : Int) ≤ i) → ((l.length : Int) - i).toNat < n → Ok (lp2 (rQ l) n p i) (fun r => r = p ++ ((l.drop i.toNat).filter fun e => !e.ret).map fun e => A2Int.mk e.thread e.op) := by
  refine ip (fun _ i => ((l.length : Int) - i).toNat) (fun p i => 0 ≤ i ∧ i ≤ (l.length : Int) ∧ (p.length : Int) ≤ i) (fun p i r => r = p ++ ((l.drop i.toNat).filter fun e => !e.ret).map fun e => A2Int.mk e.thread e.op) ?_
  intro p i k ⟨h0, h1, hp⟩ hk
  unfold rQ
  refine Ok.ite (fun h => ?_) fun h => ?_
  ·have hg := fG h0 h
   rw [hg]
   simp only [Option.bind_some]
   rw [ij hg]
   generalize l[i.toNat]'(by omega) = e at *
   rw [gh (x := i + 1) (by omega) (by omega)]
   refine Ok.ite (fun h2 => ?_) fun h2 => ?_
   ·refine (hk p (i + 1) ⟨by omega, by omega, by omega⟩ (by omega)).mono fun r hr => ?_
    rw [hr, List.filter_cons, if_neg (by simp [h2])]
   ·rw [gl (by simp; omega)]
    simp only [Option.bind_some]
    refine (hk _ (i + 1) ⟨by omega, by omega, by simp; omega⟩ (by omega)).mono fun r hr => ?_
    rw [hr, List.filter_cons, if_pos (by simpa using h2)]
    simp
  ·unfold vS
   refine Ok.some ?_
   rw [List.drop_eq_nil_of_le (by omega)]; simp
 simpa using (key BIG [] 0 ⟨by omega, by omega, by simp⟩ (gp (by omega))).eq
def i8 (l : List Event) : List (List Bool) := (gm l).map fun a => (gm l).map fun b => jf l a b
def jR (l : List Event) : List Bool := (gm l).map fun c => dcd (gf l c.x0 c.x1 true ≥ 0)
def jk (l : List Event) : List Result := (gm l).map fun c => (kV l c.x0 c.x1).1
theorem kf {α β : Type} {f : α → β} {l : List α} {i : Int} : getI (l.map f) i = (getI l i).map f := by
 by_cases h : 0 ≤ i
 ·obtain ⟨k, rfl⟩ : ∃ k : Nat, i = (k : Int) := ⟨i.toNat, by omega⟩
  rw [io, io, List.getElem?_map]
 ·rw [gu (.inl (by omega)), gu (.inl (by omega))]; rfl
theorem Eh {ops : List (List Op)} {l : List Event} {cl st : Bool} (hl : l.length ≤ 100000) : rT ops l cl st = some (ops, l, gm l, i8 l, jR l, jk l, cl, st) := by
 refine Ok.eq ?_
 have hcl := tn l
 unfold rT
 refine Ok.bindEq (nR (by omega)) ?_
 generalize hcs : gm l = cs at *
 have hB : i8 l = cs.map fun a => cs.map fun b => jf l a b := by unfold i8; rw [hcs]
 have hK : jR l = cs.map fun c => dcd (gf l c.x0 c.x1 true ≥ 0) := by unfold jR; rw [hcs]
 have hR : jk l = cs.map fun c => (kV l c.x0 c.x1).1 := by unfold jk; rw [hcs]
 refine tO (fun i _ _ _ => ((cs.length : Int) - i).toNat) (fun i be ba re => 0 ≤ i ∧ i ≤ (cs.length : Int) ∧ be = (cs.take i.toNat).map (fun a => cs.map fun b => jf l a b) ∧ ba = (cs.take i.toNat).map (fun c => dcd (gf l c.x0 c.x1 true ≥ 0)) ∧ re = (cs.take i.toNat).map (fun c => (kV l c.x0 c.x1).1)) (fun _ _ _ _ r => r = (ops, l, cs, i8 l, jR l, jk l, cl, st)) ?_ BIG 0 [] [] [] ⟨by omega, by omega, by simp, by simp, by simp⟩ (gp (by omega))
 intro i be ba re k ⟨i0, i1, h1, h2, h3⟩ hk
 unfold v6
 refine Ok.ite (fun hi => ?_) fun hi => ?_
 rotate_left
 ·unfold vU
  refine Ok.some ?_
  rw [h1, h2, h3, hB, hK, hR, List.take_of_length_le (by omega)]
 obtain ⟨c, hc⟩ : ∃ c, getI cs i = some c := ⟨_, fG i0 hi⟩
 have htk := iv hc
 refine Ok.bindEq hc ?_
 refine Ok.bindEq hc ?_
 refine Ok.bd2 (Q := fun x => x = kV l c.x0 c.x1) ⟨_, kp (by omega), rfl⟩ fun r n hrn => ?_
 have hr : r = (kV l c.x0 c.x1).1 := by rw [← hrn]
 have hn : n = gf l c.x0 c.x1 true := by rw [← nT, ← hrn]
 unfold vZ
 refine Ok.bindEq (gl (by rw [h2]; simp; omega)) ?_
 refine Ok.bindEq (gl (by rw [h3]; simp; omega)) ?_
 unfold vY
 refine Ok.bindEq (j5 (by omega) (by omega)) ?_
 refine ip (fun _ j => ((cs.length : Int) - j).toNat) (fun row j => 0 ≤ j ∧ j ≤ (cs.length : Int) ∧ row.length = cs.length ∧ ∀ q b, q < j → getI cs q = some b → getI row q = some (jf l c b)) (fun _ _ r => r = (ops, l, cs, i8 l, jR l, jk l, cl, st)) ?_ BIG (List.replicate ((cs.length : Int)).toNat false) 0 ⟨by omega, by omega, by simp, fun q b hq hb => by have := (gj hb).1; omega⟩ (gp (by omega))
 intro row j k2 ⟨j0, j1, g1, g2⟩ hk2
 unfold vX
 refine Ok.ite (fun hj => ?_) fun hj => ?_
 ·obtain ⟨b, hb⟩ : ∃ b, getI cs j = some b := ⟨_, fG j0 hj⟩
  refine Ok.bindEq hc ?_
  refine Ok.bindEq hb ?_
  refine Ok.bindEq (jg (by omega)) ?_
  refine Ok.bindEq (fG j0 (by omega)) ?_
  rw [gh (by omega) (by omega)]
  refine hk2 _ _ ⟨by omega, by omega, by rw [gd]; exact g1, fun q b' hq hb' => ?_⟩ (by omega)
  rw [jY j0 (by omega)]
  by_cases e : q = j
  ·subst e; rw [hb] at hb'; cases hb'; rw [if_pos rfl]
  ·rw [if_neg e]; exact g2 q b' (by omega) hb'
 ·unfold vW
  have hrow : row = cs.map fun b => jf l c b := by
   refine tG fun q hq => ?_
   rw [kf]
   by_cases h : q < (cs.length : Int)
   ·obtain ⟨b, hb⟩ : ∃ b, getI cs q = some b := ⟨_, fG hq h⟩
    rw [hb, g2 q b (by omega) hb]; rfl
   ·rw [gu (.inr (by omega)), gu (.inr (by omega))]; rfl
  refine Ok.bindEq (gl (by rw [h1]; simp; omega)) ?_
  unfold vV
  rw [gh (by omega) (by omega)]
  refine hk _ _ _ _ ⟨by omega, by omega, ?_, ?_, ?_⟩ (by omega)
  ·rw [htk, List.map_append, h1, hrow]; rfl
  ·rw [htk, List.map_append, h2, hn]; rfl
  ·rw [htk, List.map_append, h3, hr]; rfl
section
variable {ops : List (List Op)} {l : List Event} {N : Int → Int} {B : Int → Bool}
theorem yt {e : Event} {t o : Int} {b : Bool} (h : gf l t o b < 0) (he : ¬ isE t o b e = true) : gf (l ++ [e]) t o b < 0 := by
 refine tf.2 fun x hx => ?_
 rcases List.mem_append.1 hx with hx | hx
 ·exact tf.1 h x hx
 ·rw [List.mem_singleton] at hx; subst hx; simpa using he
theorem Hs.ord (h : Hs ops l N B) : ∀ t j k, 0 ≤ j → j < k → 0 ≤ gf l t k false → 0 ≤ gf l t j true ∧ gf l t j true < gf l t k false := by
 induction h with
 | nil => intro t j k _ _ h; have : gf [] t k false = -1 := rfl; omega
 | @call l N B u r h hr hb hn ih =>
  intro t j k h0 h1 hk
  by_cases hc : 0 ≤ gf l t k false
  ·obtain ⟨g1, g2⟩ := ih t j k h0 h1 hc
   rw [lY g1, lY hc]; exact ⟨g1, g2⟩
  ·by_cases he : isE t k false (Event.mk u (N u) false Eu) = true
   ·obtain ⟨e1, e2, _⟩ := nJ.1 he
    simp only at e1 e2
    subst e1
    have hrt := mo.2 (h.returned u j h0 (by omega))
    have hlt := (pq l u j true).2
    rw [lY hrt, DG (by omega) he]
    exact ⟨hrt, by omega⟩
   ·have := yt (l := l) (show gf l t k false < 0 by omega) he
    omega
 | @ret l N B u r x h hr hb ih =>
  intro t j k h0 h1 hk
  have hc : 0 ≤ gf l t k false := by
   refine Int.not_lt.1 fun hc => ?_
   have := yt (e := Event.mk u (N u) true x) hc (by simp [isE])
   omega
  obtain ⟨g1, g2⟩ := ih t j k h0 h1 hc
  rw [lY g1, lY hc]; exact ⟨g1, g2⟩
theorem EY {t o t' o' : Int} (h1 : 0 ≤ gf l t o true) (h2 : 0 ≤ gf l t' o' false) : gf l t o true ≠ gf l t' o' false := by
 intro e
 unfold gf at h1 h2 e
 rcases kB (isE t o true) l 0 (by omega) with ⟨a1, _⟩ | ⟨_, _, x, a3, a4⟩
 ·omega
 rcases kB (isE t' o' false) l 0 (by omega) with ⟨b1, _⟩ | ⟨_, _, y, b3, b4⟩
 ·omega
 rw [e, b3] at a3
 cases a3
 have := (nJ.1 a4).2.2
 rw [(nJ.1 b4).2.2] at this; cases this
theorem iY {c : A2Int} : c ∈ gm l ↔ 0 ≤ gf l c.x0 c.x1 false := by rw [Bz, mo]
theorem Hs.called_ops (h : Hs ops l N B) {t k : Int} (hc : 0 ≤ gf l t k false) : 0 ≤ k ∧ (k < N t ∨ k = N t ∧ B t = true) ∧ ∃ r o, getI ops t = some r ∧ getI r k = some o := by
 have hN := h.nonneg t
 obtain ⟨e, he, hE⟩ := mo.1 hc
 obtain ⟨e1, e2, e3⟩ := nJ.1 hE
 obtain ⟨⟨r, hr⟩, h0, h2⟩ := h.mem e he
 rw [e1] at hr h2
 rw [e2] at h0 h2
 refine ⟨h0, ?_, ?_⟩
 ·rcases h2 with h2 | ⟨h2, _, h3⟩
  ·exact .inl h2
  ·exact .inr ⟨h2, h3⟩
 ·have hlen : k < (r.length : Int) := by
   clear hN h0
   revert t k
   intro t k hc hE e1 e2 hr h2
   have key : ∀ {l : List Event} {N : Int → Int} {B : Int → Bool}, Hs ops l N B → ∀ e ∈ l, e.ret = false → ∀ r, getI ops e.thread = some r → e.op < (r.length : Int) := by
    intro l N B h
    induction h with
    | nil => intro e he; cases he
    | call u r' h hr' hb hn ih =>
     intro e he hf r hr
     rcases List.mem_append.1 he with he | he
     ·exact ih e he hf r hr
     ·rw [List.mem_singleton] at he; subst he
      simp only at hr ⊢
      rw [hr'] at hr; cases hr; exact hn
    | ret u r' x h hr' hb ih =>
     intro e he hf r hr
     rcases List.mem_append.1 he with he | he
     ·exact ih e he hf r hr
     ·rw [List.mem_singleton] at he; subst he; cases hf
   have := key h e he e3 r (by rw [e1]; exact hr)
   omega
  exact ⟨r, _, hr, fG h0 hlen⟩
theorem Hs.calls_nodup (h : Hs ops l N B) : (gm l).Nodup := by
 induction h with
 | nil => exact List.Pairwise.nil
 | @call l N B u r h hr hb hn ih =>
  have e : gm (l ++ [Event.mk u (N u) false Eu]) = gm l ++ [A2Int.mk u (N u)] := by unfold gm; rw [List.filter_append, List.map_append]; rfl
  rw [e, List.nodup_append]
  refine ⟨ih, by simp, fun a ha b hb' => ?_⟩
  rw [List.mem_singleton] at hb'; subst hb'
  intro e
  subst e
  have hc := iY.1 ha
  obtain ⟨_, h2, _⟩ := h.called_ops hc
  simp only at h2
  rcases h2 with h2 | ⟨_, h2⟩
  ·omega
  ·rw [hb] at h2; cases h2
 | @ret l N B u r x h hr hb ih =>
  have e : gm (l ++ [Event.mk u (N u) true x]) = gm l := by unfold gm; rw [List.filter_append, List.map_append]; simp
  rw [e]; exact ih
theorem tZ {a b : A2Int} : jf l a b = true ↔ 0 ≤ gf l a.x0 a.x1 true ∧ 0 ≤ gf l b.x0 b.x1 false ∧ gf l a.x0 a.x1 true < gf l b.x0 b.x1 false := by
 unfold jf; simp
end
def pf (P : List Int) (t : Int) : Int := (getI P t).getD 0
def jA (l : List Event) (P : List Int) : List Bool := (gm l).map fun c => decide (c.x1 < pf P c.x0)
structure WfPl (ops : List (List Op)) (P : List Int) : Prop where
 len : P.length = ops.length
 pos : ∀ t n, getI P t = some n → 0 ≤ n
section
variable {ops : List (List Op)} {l : List Event} {N : Int → Int} {B : Int → Bool} {P : List Int}
theorem jX : (jA l P).length = (gm l).length := by unfold jA; rw [List.length_map]
theorem j9 {i : Int} {c : A2Int} (h : getI (gm l) i = some c) : getI (jA l P) i = some (decide (c.x1 < pf P c.x0)) := by
 unfold jA; rw [kf, h]; rfl
theorem l9 {t n : Int} (h : getI P t = some n) : pf P t = n := by unfold pf; rw [h]; rfl
theorem zI {t s n : Int} (h : getI P t = some n) : pf (iV P t) s = if s = t then n + 1 else pf P s := by
 unfold pf
 rw [jI h]
 by_cases e : s = t
 ·rw [if_pos e, if_pos e]; rfl
 ·rw [if_neg e, if_neg e]
theorem WfPl.inc {t n : Int} (h : WfPl ops P) (hn : getI P t = some n) : WfPl ops (iV P t) := by
 refine ⟨by rw [yy]; exact h.len, fun s m hm => ?_⟩
 rw [jI hn] at hm
 split at hm
 ·cases hm; have := h.pos t n hn; omega
 ·exact h.pos s m hm
theorem yx {i k : Int} {c : A2Int} (hH : Hs ops l N B) (hi : getI (gm l) i = some c) (hk : getI (gm l) k = some c) : i = k := by
 obtain ⟨i0, i1, _⟩ := fL hi
 obtain ⟨k0, k1, _⟩ := fL hk
 obtain ⟨a1, a2⟩ := List.getElem?_eq_some_iff.1 i1
 obtain ⟨b1, b2⟩ := List.getElem?_eq_some_iff.1 k1
 have := (List.getElem_inj hH.calls_nodup).1 (a2.trans b2.symm)
 omega
theorem kz {t n i : Int} (hH : Hs ops l N B) (hn : getI P t = some n) (hi : getI (gm l) i = some (A2Int.mk t n)) : jA l (iV P t) = f8 (jA l P) i true := by
 obtain ⟨i0, i1⟩ := gj hi
 refine tG fun q hq => ?_
 rw [jY i0 (by rw [jX]; exact i1)]
 by_cases e : q = i
 ·subst e
  rw [if_pos rfl, j9 hi, zI hn, if_pos rfl]
  simp; omega
 ·rw [if_neg e]
  by_cases h : q < ((gm l).length : Int)
  ·obtain ⟨c, hc⟩ : ∃ c, getI (gm l) q = some c := ⟨_, fG hq h⟩
   rw [j9 hc, j9 hc, zI hn]
   by_cases ht : c.x0 = t
   ·rw [if_pos ht, ht, l9 hn]
    have hne : c.x1 ≠ n := fun hx => e (yx hH hc (by rw [hi]; congr 1; cases c; simp only at ht hx; rw [ht, hx]))
    congr 1
    rw [decide_eq_decide]; omega
   ·rw [if_neg ht]
  ·rw [gu (.inr (by rw [jX]; omega)), gu (.inr (by rw [jX]; omega))]
theorem tX {i : Int} {c : A2Int} (h : getI (gm l) i = some c) : opA ops (gm l) i = (getI ops c.x0).bind fun r => getI r c.x1 := by unfold opA; rw [h]; rfl
theorem lp {i : Int} {c : A2Int} (h : getI (gm l) i = some c) : getI (jR l) i = some true ↔ 0 ≤ gf l c.x0 c.x1 true := by
 unfold jR
 rw [kf, h]
 simp [gW]
theorem uS {i : Int} {c : A2Int} (h : getI (gm l) i = some c) : getI (jk l) i = some (kV l c.x0 c.x1).1 := by
 unfold jk; rw [kf, h]; rfl
theorem Cf {i k : Int} : bef (i8 l) i k ↔ ∃ a b, getI (gm l) i = some a ∧ getI (gm l) k = some b ∧ jf l a b = true := by
 unfold bef i8
 constructor
 ·rintro ⟨r, h1, h2⟩
  rw [kf] at h1
  cases ha : getI (gm l) i with
  | none => rw [ha] at h1; cases h1
  | some a =>
   rw [ha] at h1
   cases h1
   rw [kf] at h2
   cases hb : getI (gm l) k with
   | none => rw [hb] at h2; cases h2
   | some b =>
    rw [hb] at h2
    exact ⟨a, b, rfl, rfl, by simpa using h2⟩
 ·rintro ⟨a, b, ha, hb, hp⟩
  refine ⟨(gm l).map fun b => jf l a b, by rw [kf, ha]; rfl, ?_⟩
  rw [kf, hb]
  simp [hp]
theorem nP (hH : Hs ops l N B) (hP : WfPl ops P) {t : Int} {a : fw} : Nxt (hQ ops l) P t a ↔ ∃ n r o, getI P t = some n ∧ getI ops t = some r ∧ getI r n = some o ∧ 0 ≤ gf l t n false ∧ a = jD o l t n := by
 constructor
 ·rintro ⟨L, n, h1, h2, h3⟩
  obtain ⟨r, hr, rfl⟩ := nV h1
  obtain ⟨n0, h4, _⟩ := fL h3
  obtain ⟨o, ho, ha, hc⟩ := (md _ _ _ _ _ _).1 h4
  have hcn := hc n.toNat (Nat.le_refl _)
  have e : (0 : Int) + (n.toNat : Int) = n := by omega
  rw [e] at ha hcn
  refine ⟨n, r, o, h2, hr, ?_, hcn, ha⟩
  rw [show n = ((n.toNat : Nat) : Int) by omega, io]; exact ho
 ·rintro ⟨n, r, o, h1, hr, ho, hc, rfl⟩
  refine ⟨j7 l t r 0, n, nW hr, h1, ?_⟩
  obtain ⟨n0, h4, _⟩ := fL ho
  have e : n = ((n.toNat : Nat) : Int) := by omega
  rw [e, io]
  refine (md _ _ _ _ _ _).2 ⟨o, h4, by rw [Int.zero_add], fun j hj => ?_⟩
  rw [Int.zero_add]
  obtain ⟨_, h5, _⟩ := hH.called_ops hc
  by_cases ej : (j : Int) = n
  ·rw [ej]; exact hc
  ·exact hH.call_ex (by omega) (.inl (by omega))
theorem lh (hH : Hs ops l N B) (hP : WfPl ops P) {c : fw} : ql (hQ ops l) P c ↔ ∃ t j r o, getI ops t = some r ∧ getI r j = some o ∧ 0 ≤ gf l t j false ∧ pf P t ≤ j ∧ c = jD o l t j := by
 constructor
 ·rintro ⟨t, L, n, h1, h2, h3⟩
  obtain ⟨r, hr, rfl⟩ := nV h1
  have hn := hP.pos t n h2
  obtain ⟨i, hi⟩ := List.mem_iff_getElem?.1 h3
  rw [List.getElem?_drop] at hi
  obtain ⟨o, ho, ha, hc⟩ := (md _ _ _ _ _ _).1 hi
  have hcn := hc _ (Nat.le_refl _)
  have e : (0 : Int) + ((n.toNat + i : Nat) : Int) = ((n.toNat + i : Nat) : Int) := by omega
  rw [e] at ha hcn
  exact ⟨t, _, r, o, hr, by rw [io]; exact ho, hcn, by rw [l9 h2]; omega, ha⟩
 ·rintro ⟨t, j, r, o, hr, ho, hc, hp, rfl⟩
  obtain ⟨t0, t1⟩ := gj hr
  have hl := hP.len
  obtain ⟨n, hn⟩ : ∃ n, getI P t = some n := ⟨_, fG t0 (by omega)⟩
  rw [l9 hn] at hp
  have n0 := hP.pos t n hn
  refine ⟨t, _, n, nW hr, hn, ?_⟩
  obtain ⟨j0, h4, _⟩ := fL ho
  have hg : (j7 l t r 0)[j.toNat]? = some (jD o l t j) := by
   refine (md _ _ _ _ _ _).2 ⟨o, h4, by congr 1; omega, fun q hq => ?_⟩
   rw [Int.zero_add]
   obtain ⟨_, h5, _⟩ := hH.called_ops hc
   by_cases ej : (q : Int) = j
   ·rw [ej]; exact hc
   ·exact hH.call_ex (by omega) (.inl (by omega))
  refine List.mem_iff_getElem?.2 ⟨j.toNat - n.toNat, ?_⟩
  rw [List.getElem?_drop, show n.toNat + (j.toNat - n.toNat) = j.toNat by omega]
  exact hg
theorem nB {t n : Int} (h : 0 ≤ gf l t n false) : ∃ i, getI (gm l) i = some (A2Int.mk t n) := by
 obtain ⟨i, hi⟩ := List.mem_iff_getElem?.1 (iY (c := A2Int.mk t n).2 h)
 exact ⟨(i : Int), by rw [io]; exact hi⟩
theorem l7 (hH : Hs ops l N B) (hP : WfPl ops P) {op : Bool} {t n i : Int} {r : List Op} {o : Op} (hn : getI P t = some n) (hi : getI (gm l) i = some (A2Int.mk t n)) (hc : Cand (hQ ops l) op P t (jD o l t n)) : lm (i8 l) (jR l) (!op) (jA l P) i := by
 refine ⟨by rw [j9 hi, l9 hn]; simp, fun hcl => ?_, fun k hk => ?_⟩
 ·rw [lp hi]
  rcases hc.ret with h | h
  ·rw [h] at hcl; cases hcl
  ·exact h
 ·obtain ⟨a, b, ha, hb, hp⟩ := Cf.1 hk
  rw [hi] at hb; cases hb
  obtain ⟨p1, p2, p3⟩ := tZ.1 hp
  rw [j9 ha]
  congr 1
  rw [decide_eq_true_eq]
  refine Int.not_le.1 fun hle => ?_
  have hca := iY.1 (fV ha)
  obtain ⟨_, _, r', o', hr', ho'⟩ := hH.called_ops hca
  have hu : ql (hQ ops l) P (jD o' l a.x0 a.x1) := (lh hH hP).2 ⟨_, _, r', o', hr', ho', hca, hle, rfl⟩
  have := hc.early _ hu p1
  have h1 : (jD o' l a.x0 a.x1).coming = gf l a.x0 a.x1 true := rfl
  have h2 : (jD o l t n).called = gf l t n false := rfl
  simp only at p3
  omega
theorem lT (hH : Hs ops l N B) (hP : WfPl ops P) {op : Bool} {i : Int} {c : A2Int} {o : Op} (hc : getI (gm l) i = some c) (ho : opA ops (gm l) i = some o) (hm : lm (i8 l) (jR l) (!op) (jA l P) i) : getI P c.x0 = some c.x1 ∧ Cand (hQ ops l) op P c.x0 (jD o l c.x0 c.x1) := by
 have hca := iY.1 (fV hc)
 obtain ⟨c0, hcN, r, o1, hr, ho1⟩ := hH.called_ops hca
 have hoo : o1 = o := by
  rw [tX hc, hr] at ho
  simp only [Option.bind_some] at ho
  rw [ho1] at ho; exact Option.some.inj ho
 subst hoo
 obtain ⟨t0, t1⟩ := gj hr
 have hl := hP.len
 obtain ⟨n, hn⟩ : ∃ n, getI P c.x0 = some n := ⟨_, fG t0 (by omega)⟩
 have n0 := hP.pos _ n hn
 have hun := hm.un
 rw [j9 hc, l9 hn] at hun
 have hge : n ≤ c.x1 := by
  have := Option.some.inj hun
  rw [decide_eq_false_iff_not] at this; omega
 have hpre : ∀ a : A2Int, a ∈ gm l → pf P a.x0 ≤ a.x1 → 0 ≤ gf l a.x0 a.x1 true → gf l c.x0 c.x1 false ≤ gf l a.x0 a.x1 true := fun a ha hpa h0 => by
  refine Int.not_lt.1 fun hlt => ?_
  obtain ⟨q, hq⟩ := List.mem_iff_getElem?.1 ha
  have hq : getI (gm l) (q : Int) = some a := by rw [io]; exact hq
  have := hm.pre (q : Int) (Cf.2 ⟨a, c, hq, hc, tZ.2 ⟨h0, hca, hlt⟩⟩)
  rw [j9 hq] at this
  have := Option.some.inj this
  rw [decide_eq_true_eq] at this; omega
 have heq : n = c.x1 := by
  by_cases e : n = c.x1
  ·exact e
  ·have hcn : 0 ≤ gf l c.x0 n false := hH.call_ex n0 (.inl (by omega))
   obtain ⟨g1, g2⟩ := hH.ord c.x0 n c.x1 n0 (by omega) hca
   have := hpre (A2Int.mk c.x0 n) (iY.2 hcn) (by simp only; rw [l9 hn]; omega) g1
   simp only at this; omega
 subst heq
 refine ⟨hn, ⟨(nP hH hP).2 ⟨_, r, o1, hn, hr, ho1, hca, rfl⟩, fun d hd h0 => ?_, ?_⟩⟩
 ·obtain ⟨u, j, r', o', hr', ho', hcj, hpj, rfl⟩ := (lh hH hP).1 hd
  have h0 : 0 ≤ gf l u j true := h0
  show gf l c.x0 c.x1 false < gf l u j true
  have h5 := hpre (A2Int.mk u j) (iY.2 hcj) hpj h0
  have h6 := EY (t' := c.x0) (o' := c.x1) h0 hca
  simp only at h5; omega
 ·cases op with
  | true => exact .inl rfl
  | false => exact .inr ((lp hc).1 (hm.back rfl))
theorem D4 {i : Int} {c : A2Int} {o : Op} {C : List fJ} (hc : getI (gm l) i = some c) : ux (jR l) (jk l) o C i = nS (jD o l c.x0 c.x1) C := by
 unfold ux nS
 have hco : (jD o l c.x0 c.x1).coming = gf l c.x0 c.x1 true := rfl
 by_cases h : 0 ≤ gf l c.x0 c.x1 true
 ·rw [if_pos ((lp hc).2 h), if_pos (by rw [hco]; exact h), uS hc]; rfl
 ·rw [if_neg fun h' => h ((lp hc).1 h'), if_neg (by rw [hco]; exact h)]; rfl
theorem lZ {i : Int} {c : A2Int} {o : Op} {x : Result} (hc : getI (gm l) i = some c) : kr (jR l) (jk l) i x ↔ je (jD o l c.x0 c.x1) x := by
 unfold kr je
 have hco : (jD o l c.x0 c.x1).coming = gf l c.x0 c.x1 true := rfl
 have hre : (jD o l c.x0 c.x1).result = (kV l c.x0 c.x1).1 := rfl
 rw [lp hc, uS hc, hco, hre]
 constructor
 ·intro h
  by_cases h0 : 0 ≤ gf l c.x0 c.x1 true
  ·exact .inr (Option.some.inj (h h0))
  ·exact .inl (by omega)
 ·rintro (h | h) h0
  ·omega
  ·rw [h]
theorem F7 (hH : Hs ops l N B) {op : Bool} {C : List fJ} {ds : List Done} (hw : Way (hQ ops l) op (fun _ => True) P C ds) : WfPl ops P → kF ops (gm l) (i8 l) (jR l) (jk l) (!op) (jA l P) C := by
 induction hw with
 | @stop P C h _ =>
  intro hP
  refine .stop fun i hi => ?_
  obtain ⟨i0, i1⟩ := gj hi
  have hlen : (jR l).length = (gm l).length := by unfold jR; rw [List.length_map]
  obtain ⟨c, hc⟩ : ∃ c, getI (gm l) i = some c := ⟨_, fG i0 (by omega)⟩
  rw [j9 hc]
  congr 1
  rw [decide_eq_true_eq]
  refine Int.not_le.1 fun hle => ?_
  have hca := iY.1 (fV hc)
  obtain ⟨_, _, r', o', hr', ho'⟩ := hH.called_ops hca
  have := h _ ((lh hH hP).2 ⟨_, _, r', o', hr', ho', hca, hle, rfl⟩)
  have h2 := (lp hc).1 hi
  have h1 : (jD o' l c.x0 c.x1).coming = gf l c.x0 c.x1 true := rfl
  omega
 | @one P C t a x ds hc hr ha _ ih =>
  intro hP
  obtain ⟨n, r, o, hn, hro, hoo, hcl, rfl⟩ := (nP hH hP).1 hc.nxt
  obtain ⟨i, hi⟩ := nB hcl
  have hw := ih (hP.inc hn)
  rw [kz hH hn hi] at hw
  refine .one (l7 (r := r) hH hP hn hi hc) (by rw [tX hi, hro]; exact hoo) ?_ ha hw
  rw [D4 hi]; exact hr
 | @two P C t u a b x y ds hc hc' hne hp hx hy _ ih =>
  intro hP
  obtain ⟨n, r, o, hn, hro, hoo, hcl, rfl⟩ := (nP hH hP).1 hc.nxt
  obtain ⟨m, r', o', hm, hro', hoo', hcl', rfl⟩ := (nP hH hP).1 hc'.nxt
  obtain ⟨i, hi⟩ := nB hcl
  obtain ⟨k, hk⟩ := nB hcl'
  have hm' : getI (iV P t) u = some m := by rw [jI hn, if_neg hne]; exact hm
  have hw := ih ((hP.inc hn).inc hm')
  rw [kz hH hm' hk, kz hH hn hi] at hw
  have hik : i ≠ k := fun e => by
   subst e; rw [hi] at hk; cases hk; exact hne rfl
  have hmi := l7 (r := r) hH hP hn hi hc
  have hmk := l7 (r := r') hH hP hm hk hc'
  have hoi : opA ops (gm l) i = some o := by rw [tX hi, hro]; exact hoo
  have hok : opA ops (gm l) k = some o' := by rw [tX hk, hro']; exact hoo'
  have hp : gV C o x o' y = true := hp
  rcases Int.lt_or_lt_of_ne hik with h | h
  ·exact .two h hmi hmk hoi hok (by rw [hp]; rfl) ((lZ hi).2 hx) ((lZ hk).2 hy) hw
  ·refine .two h hmk hmi hok hoi (x := y) (y := x) (by rw [hp]; simp) ((lZ hk).2 hy) ((lZ hi).2 hx) ?_
   have hcomm : f8 (f8 (jA l P) k true) i true = f8 (f8 (jA l P) i true) k true := by
    unfold f8
    have := (gj hi).1
    have := (gj hk).1
    rw [List.set_comm]; omega
   rw [hcomm]; exact hw
theorem F4 (hH : Hs ops l N B) {op : Bool} {d : List Bool} {C : List fJ} (hw : kF ops (gm l) (i8 l) (jR l) (jk l) (!op) d C) : ∀ P, WfPl ops P → d = jA l P → ∃ ds, Way (hQ ops l) op (fun _ => True) P C ds := by
 induction hw with
 | @stop d C h =>
  intro P hP hd
  subst hd
  refine ⟨[], .stop (fun c hc => ?_) trivial⟩
  obtain ⟨t, j, r, o, hr, ho, hcj, hpj, rfl⟩ := (lh hH hP).1 hc
  show gf l t j true < 0
  refine Int.not_le.1 fun h0 => ?_
  obtain ⟨i, hi⟩ := nB hcj
  have := h i ((lp hi).2 h0)
  rw [j9 hi] at this
  have := Option.some.inj this
  rw [decide_eq_true_eq] at this
  simp only at this; omega
 | @one d C i o x hm ho hr ha _ ih =>
  intro P hP hd
  subst hd
  obtain ⟨c, hc⟩ : ∃ c, getI (gm l) i = some c := by
   unfold opA at ho
   cases hc : getI (gm l) i with
   | none => rw [hc] at ho; cases ho
   | some c => exact ⟨c, rfl⟩
  obtain ⟨hn, hcand⟩ := lT hH hP hc ho hm
  obtain ⟨ds, hds⟩ := ih (iV P c.x0) (hP.inc hn) (kz hH hn (by rw [hc])).symm
  rw [D4 hc] at hr
  exact ⟨_, .one hcand hr ha hds⟩
 | @two d C i k a b x y hik hi hk ha hb hp hx hy _ ih =>
  intro P hP hd
  subst hd
  obtain ⟨c, hc⟩ : ∃ c, getI (gm l) i = some c := by
   unfold opA at ha
   cases hc : getI (gm l) i with
   | none => rw [hc] at ha; cases ha
   | some c => exact ⟨c, rfl⟩
  obtain ⟨e, he⟩ : ∃ c, getI (gm l) k = some c := by
   unfold opA at hb
   cases hc : getI (gm l) k with
   | none => rw [hc] at hb; cases hb
   | some c => exact ⟨c, rfl⟩
  obtain ⟨hn, hcand⟩ := lT hH hP hc ha hi
  obtain ⟨hm, hcand'⟩ := lT hH hP he hb hk
  have hne : e.x0 ≠ c.x0 := fun h => by
   rw [h, hn] at hm
   have : c = e := by cases c; cases e; simp only at h hm ⊢; rw [h, Option.some.inj hm]
   subst this
   have := yx hH hc he
   omega
  have hm' : getI (iV P c.x0) e.x0 = some e.x1 := by rw [jI hn, if_neg hne]; exact hm
  obtain ⟨ds, hds⟩ := ih (iV (iV P c.x0) e.x0) ((hP.inc hn).inc hm') (by rw [kz hH hm' (by rw [he]), kz hH hn (by rw [hc])])
  rw [Bool.or_eq_true] at hp
  rcases hp with hp | hp
  ·exact ⟨_, .two hcand hcand' hne hp ((lZ hc).1 hx) ((lZ he).1 hy) hds⟩
  ·have hm2 : getI (iV P e.x0) c.x0 = some c.x1 := by rw [jI hm, if_neg fun h => hne h.symm]; exact hn
   have hcomm : iV (iV P e.x0) c.x0 = iV (iV P c.x0) e.x0 := by
    rw [lw hm2, lw hm, lw hm', lw hn]
    have := (gj hn).1
    have := (gj hm).1
    unfold f8
    rw [List.set_comm]; omega
   exact ⟨_, .two hcand' hcand (fun h => hne h.symm) hp ((lZ he).1 hy) ((lZ hc).1 hx) (by rw [hcomm]; exact hds)⟩
end
def nN (s : MS) (u : Int) : Int := (getI s.nx u).getD 0
def sN (s : MS) (u : Int) : Int := (getI s.st u).getD 0
def bN (s : MS) (u : Int) : Bool := !decide (sN s u = 0)
section
variable {x : fM} {ops : List (List Op)} {n : Nat} {s : MS} {t : Int} {o : Op}
theorem FM (h : lX ops s t = some o) : getI s.nx t = some (nN s t) ∧ ∃ r, getI ops t = some r ∧ getI r (nN s t) = some o := by
  obtain ⟨k, r, c1, c2, c3⟩ := k9 h
  have : nN s t = k := by simp [nN, c1]
  rw [this]; exact ⟨c1, r, c2, c3⟩
theorem yN {v : Int} (h : getI s.st t = some v) : sN s t = v := by simp [sN, h]
theorem Run.base (hx : xJ x) (hf : OpsFine ops) (hl : (ops.length : Int) = x.threads) (h : Run ops (jj x) n s) : n ≤ 800 → Base ops n s := by
  induction h with
  | nil => exact fun _ => uG hx hl
  | call h h0 hk hr ho ih => exact fun hn => (ih (by omega)).call (by omega) h0 hk hr ho
  | doo h h1 ho ih => exact fun hn => (ih (by omega)).doo hf (by omega) h1 ho
  | ret h h3 hk hr ho ih =>
    intro hn
    obtain ⟨k', row, c1, c2, c3⟩ := k9 ho
    rw [hk] at c1; cases c1
    have h4 := hf.2.1 row (fV c2)
    have h5 := (gj c3).2
    exact (ih (by omega)).ret (by omega) h3 hk (by omega) c2 c3
theorem E5 {k : Int} (hB : t < (s.st.length : Int)) (h0 : 0 ≤ t) (u : Int) : sN (lF s t k) u = if u = t then 1 else sN s u := by
  unfold sN lF
  simp only
  rw [iF h0 hB]
  by_cases e : u = t
  · rw [if_pos e, if_pos e]; rfl
  · rw [if_neg e, if_neg e]
theorem F5 {k : Int} {r : Result} (hB : t < (s.st.length : Int)) (h0 : 0 ≤ t) (u : Int) : sN (lL s t k r) u = if u = t then 0 else sN s u := by
  unfold sN lL
  simp only
  rw [iF h0 hB]
  by_cases e : u = t
  · rw [if_pos e, if_pos e]; rfl
  · rw [if_neg e, if_neg e]
theorem FZ {k : Int} {r : Result} (hB : t < (s.nx.length : Int)) (h0 : 0 ≤ t) (u : Int) : nN (lL s t k r) u = if u = t then k + 1 else nN s u := by
  unfold nN lL
  simp only
  rw [iF h0 hB]
  by_cases e : u = t
  · rw [if_pos e, if_pos e]; rfl
  · rw [if_neg e, if_neg e]
theorem do_st (hB : Base ops n s) (hf : OpsFine ops) (h1 : getI s.st t = some 1) (ho : lX ops s t = some o) (u : Int) : sN (doS s t o) u = if u ∈ jh (DoD s.d t o).2.1 then 3 else if u = t then 2 else sN s u := by
  obtain ⟨_, d2, _⟩ := nG hB hf h1 ho
  obtain ⟨t0, t1⟩ := gj h1
  have hsl := hB.sl
  unfold sN doS
  simp only
  rw [mW _ _ _ u fun y hy => by rw [gd]; have := d2 y hy; omega, iF t0 t1]
  split
  · rfl
  · split <;> rfl
theorem EW (hB : Base ops n s) (hf : OpsFine ops) (h1 : getI s.st t = some 1) (ho : lX ops s t = some o) {y : Done} (hy : y ∈ (DoD s.d t o).2.1) : (sN s y.thread = 1 ∨ sN s y.thread = 2) ∧ 0 ≤ y.thread ∧ y.thread < (ops.length : Int) := by
  obtain ⟨_, d2, _⟩ := nG hB hf h1 ho
  obtain ⟨y0, y1, h2⟩ := d2 y hy
  refine ⟨?_, y0, y1⟩
  rcases h2 with h2 | ⟨w, hw, h2⟩
  · rw [h2]; exact .inl (yN h1)
  · rw [← h2]; exact .inr (yN (hB.wt w hw).1)
theorem Run.hs (hx : xJ x) (hf : OpsFine ops) (hl : (ops.length : Int) = x.threads) (h : Run ops (jj x) n s) : n ≤ 800 → Hs ops s.l (nN s) (bN s) := by
  induction h with
  | nil =>
    intro _
    have e1 : nN (jj x) = fun _ => 0 := funext fun u => by
      unfold nN
      cases h : getI (jj x).nx u with
      | none => rfl
      | some v => exact jZ (n := x.threads.toNat) h
    have e2 : bN (jj x) = fun _ => false := funext fun u => by
      unfold bN sN
      cases h : getI (jj x).st u with
      | none => rfl
      | some v => have h3 : v = 0 := jZ (n := x.threads.toNat) h
                  subst h3; rfl
    rw [e1, e2]; exact .nil
  | @call n s t k r o h h0 hk hr ho ih =>
    intro hn
    have hB := h.base hx hf hl (by omega)
    obtain ⟨t0, t1⟩ := gj h0
    have hN : nN s t = k := by simp [nN, hk]
    have h2 := Hs.call t r (ih (by omega)) hr (by unfold bN; rw [yN h0]; rfl) (by rw [hN]; exact (gj ho).2)
    have e1 : nN (lF s t k) = nN s := rfl
    have e2 : bN (lF s t k) = up (bN s) t true := funext fun u => by
      unfold bN up
      rw [E5 t1 t0]
      by_cases e : u = t
      · rw [if_pos e, if_pos e]; rfl
      · rw [if_neg e, if_neg e]
    rw [e1, e2]
    rw [hN] at h2; exact h2
  | @doo n s t o h h1 ho ih =>
    intro hn
    have hB := h.base hx hf hl (by omega)
    have e1 : nN (doS s t o) = nN s := rfl
    have e2 : bN (doS s t o) = bN s := funext fun u => by
      unfold bN
      rw [do_st hB hf h1 ho]
      by_cases e : u ∈ jh (DoD s.d t o).2.1
      · rw [if_pos e]
        obtain ⟨y, hy, rfl⟩ := List.mem_map.1 e
        rcases (EW hB hf h1 ho hy).1 with h2 | h2 <;> rw [h2] <;> rfl
      · rw [if_neg e]
        by_cases e3 : u = t
        · rw [if_pos e3, e3, yN h1]; rfl
        · rw [if_neg e3]
    rw [e1, e2]; exact ih (by omega)
  | @ret n s t k r o h h3 hk hr ho ih =>
    intro hn
    have hB := h.base hx hf hl (by omega)
    obtain ⟨t0, t1⟩ := gj h3
    obtain ⟨_, row, c2, c3⟩ := FM ho
    have hN : nN s t = k := by simp [nN, hk]
    have h2 := Hs.ret t row r (ih (by omega)) c2 (by unfold bN; rw [yN h3]; rfl)
    have e1 : nN (lL s t k r) = up (nN s) t (nN s t + 1) := funext fun u => by
      unfold up
      rw [FZ (gj hk).2 t0, hN]
    have e2 : bN (lL s t k r) = up (bN s) t false := funext fun u => by
      unfold bN up
      rw [F5 t1 t0]
      by_cases e : u = t
      · rw [if_pos e, if_pos e]; rfl
      · rw [if_neg e, if_neg e]
    rw [e1, e2]
    rw [hN] at h2 ⊢; exact h2
end
section
variable {ops : List (List Op)} {L tail : List Event} {s : MS} {t : Int} {o : Op}
end
section
variable {x : fM} {ops : List (List Op)} {L tail : List Event} {s : MS} {t : Int} {o : Op} {n : Nat}
end
theorem OpOk.v {o : Op} (h : OpOk o) : OpV o := by
 intro i x hx
 unfold gI at hx
 split at hx
 ·split at hx
  ·cases hx; exact h.val
  ·cases hx
 ·split at hx
  ·exact (h.cases x (fV hx)).v
  ·cases hx
theorem MadeOk.hist {x : fM} {ops : List (List Op)} {l m : List Event} (h : MadeOk x ops l) (hm : m.length ≤ 1000) : HistIn x ops m := by
 have h1 := h.cfg.t4
 have h2 := h.len
 have h3 := h.cfg.n3
 exact ⟨by omega, by omega, fun r hr => by have := h.rows r hr; omega, by omega, fun k hk => by have := h.cfg.cap k hk; omega, fun r hr o ho => ⟨(h.fine.2.2 r hr o ho).m, (h.fine.2.2 r hr o ho).v⟩⟩
theorem EJ : vJ = some true := by decide +kernel
theorem mod17 {a n : Int} (h : 1 ≤ n) (h1 : n ≤ 1000) : Ok (rM a n) fun r => 0 ≤ r ∧ r < n := by
 unfold rM
 have hn : t7 a n = some (Int.tmod a n) := by unfold t7; rw [if_neg (by omega)]
 refine Ok.bindEq hn ?_
 have h3 : Int.tmod a n < n := Int.tmod_lt_of_pos _ (by omega)
 have h4 : -n < Int.tmod a n := by
  have h5 := Int.tmod_lt_of_pos (-a) (show 0 < n by omega)
  rw [Int.neg_tmod] at h5; omega
 refine Ok.ite (fun h => ?_) fun h => Ok.some ⟨by omega, by omega⟩
 rw [gh (by omega) (by omega)]
 exact Ok.some ⟨by omega, by omega⟩
open Classical in
theorem Ap {α : Type} : ∀ {l m : List α}, l.Nodup → (∀ x ∈ l, x ∈ m) → l.length ≤ m.length
 | [], _, _, _ => Nat.zero_le _
 | x :: l, m, hn, hs => by
  rw [List.nodup_cons] at hn
  have hx := hs x (.head _)
  have h1 := Ap (l := l) (m := m.erase x) hn.2 fun y hy => by
   have hne : y ≠ x := fun e => hn.1 (e ▸ hy)
   exact (List.mem_erase_of_ne hne).2 (hs y (.tail _ hy))
  have h2 := List.length_erase_of_mem hx
  have h3 := List.length_pos_of_mem hx
  simp only [List.length_cons]; omega
def B9 (ops : List (List Op)) : List A2Int := (ops.mapIdx fun t r => (List.range r.length).map fun (k : Nat) => A2Int.mk (t : Int) (k : Int)).flatten
theorem Cb (ops : List (List Op)) : (B9 ops).length = sumL ops := by
 unfold B9 sumL
 rw [List.length_flatten]
 congr 1
 refine List.ext_getElem? fun n => ?_
 rw [List.getElem?_map, List.getElem?_mapIdx, List.getElem?_map]
 cases ops[n]? with
 | none => rfl
 | some r => simp
theorem Cc {ops : List (List Op)} {t k : Int} {r : List Op} {o : Op} (hr : getI ops t = some r) (ho : getI r k = some o) : A2Int.mk t k ∈ B9 ops := by
 obtain ⟨t0, h1, _⟩ := fL hr
 obtain ⟨k0, h2, _⟩ := fL ho
 have hk := (List.getElem?_eq_some_iff.1 h2).1
 unfold B9
 refine List.mem_flatten.2 ⟨(List.range r.length).map fun (k : Nat) => A2Int.mk ((t.toNat : Nat) : Int) (k : Int), ?_, ?_⟩
 ·refine List.mem_iff_getElem?.2 ⟨t.toNat, ?_⟩
  rw [List.getElem?_mapIdx, h1]; rfl
 ·refine List.mem_map.2 ⟨k.toNat, List.mem_range.2 hk, ?_⟩
  congr 1 <;> omega
theorem AK : ∀ d : List Bool, und d ≤ d.length
 | [] => Nat.le_refl _
 | b :: d => by
  have := AK d
  simp only [und, List.length_cons]; split <;> omega
theorem fS_le : ∀ k < 8, fS k ≤ 4294967296 := by decide
theorem VB.v5 {o : Op} (h : VB 1000 o) : OpV5 o := by
 intro i x hx
 unfold gI at hx
 split at hx
 ·split at hx
  ·cases hx
   have := h.v
   exact ⟨this.1, by show o.value < _; omega⟩
  ·cases hx
 ·split at hx
  ·have := h.c x (fV hx)
   exact ⟨this.1, by omega⟩
  ·cases hx
theorem lz {x : fM} (hx : x.capacities.length ≤ 1000) : uk x = some (nO x) := by
 refine Ok.eq ?_
 unfold uk
 refine ip (fun _ i => ((x.capacities.length : Int) - i).toNat) (fun l i => 0 ≤ i ∧ i ≤ (x.capacities.length : Int) ∧ l = (x.capacities.take i.toNat).map fun k => fJ.mk k [] false) (fun _ _ r => r = nO x) ?_ BIG [] 0 ⟨by omega, by omega, by simp⟩ (gp (by omega))
 intro l i k ⟨h0, h1, h2⟩ hk
 unfold xK
 refine Ok.ite (fun h3 => ?_) fun h3 => ?_
 ·obtain ⟨y, hy⟩ : ∃ y, getI x.capacities i = some y := ⟨_, fG h0 h3⟩
  refine Ok.bindEq hy ?_
  refine Ok.bindEq (gl (by rw [h2]; simp; omega)) ?_
  rw [gh (by omega) (by omega)]
  refine hk _ _ ⟨by omega, by omega, ?_⟩ (by omega)
  rw [iv hy, h2]; simp
 ·refine Ok.some ?_
  rw [h2, List.take_of_length_le (by omega)]; rfl
structure Few (ops : List (List Op)) : Prop where
 sum : sumL ops ≤ 7
 vb : ∀ r ∈ ops, ∀ o ∈ r, VB 1000 o
 six : ∀ r ∈ ops, ∀ o ∈ r, o.cases.length ≤ 6
section
variable {x : fM} {ops : List (List Op)} {l : List Event} {N : Int → Int} {B : Int → Bool}
theorem Ba (hH : Hs ops l N B) (hf : Few ops) : (gm l).length ≤ 7 := by
 have := Ap hH.calls_nodup (m := B9 ops) fun c hc => by
  obtain ⟨_, _, r, o, hr, ho⟩ := hH.called_ops (iY.1 hc)
  exact Cc hr ho
 rw [Cb] at this
 have := hf.sum; omega
theorem F6 (h : HistIn x ops l) (hH : Hs ops l N B) (hf : Few ops) : Sea ops (gm l) (i8 l) (jR l) (jk l) := by
 refine ⟨Ba hH hf, by unfold i8; rw [List.length_map], fun r hr => ?_, by unfold jR; rw [List.length_map], by unfold jk; rw [List.length_map], fun i i0 i1 => ?_⟩
 ·unfold i8 at hr
  obtain ⟨a, _, rfl⟩ := List.mem_map.1 hr
  rw [List.length_map]
 ·obtain ⟨c, hc⟩ : ∃ c, getI (gm l) i = some c := ⟨_, fG i0 i1⟩
  obtain ⟨_, _, r, o, hr, ho⟩ := hH.called_ops (iY.1 (fV hc))
  have hrm := fV hr
  have hom := fV ho
  exact ⟨o, by rw [tX hc, hr]; exact ho, (h.ops r hrm o hom).1, (hf.vb r hrm o hom).v5, hf.six r hrm o hom⟩
theorem zT (hH : Hs ops l N B) : List.replicate (((gm l).length : Int)).toNat false = jA l (jS ops) := by
 refine tG fun i hi => ?_
 by_cases h : i < ((gm l).length : Int)
 ·obtain ⟨c, hc⟩ : ∃ c, getI (gm l) i = some c := ⟨_, fG hi h⟩
  obtain ⟨b, hb⟩ : ∃ b, getI (List.replicate (((gm l).length : Int)).toNat false) i = some b := ⟨_, fG hi (by simp; omega)⟩
  have hbf := (List.mem_replicate.1 (fV hb)).2
  obtain ⟨c0, _⟩ := hH.called_ops (iY.1 (fV hc))
  have hz : pf (jS ops) c.x0 = 0 := by
   unfold pf
   cases hg : getI (jS ops) c.x0 with
   | none => rfl
   | some v => rw [jZ hg]; rfl
  rw [hb, hbf, j9 hc, hz, decide_eq_false (by omega)]
 ·rw [gu (.inr (by simp; omega)), gu (.inr (by rw [jX]; omega))]
theorem uj : WfPl ops (jS ops) := ⟨by simp [jS], fun t n h => by rw [jZ h]; exact Int.le_refl _⟩
theorem E2 (h : HistIn x ops l) : Ch56 x.capacities (nO x) := ⟨zE h, fun c hc v hv => by
 unfold nO at hc
 obtain ⟨k, _, rfl⟩ := List.mem_map.1 hc; cases hv⟩
theorem AT (h : HistIn x ops l) (hH : Hs ops l N B) (hf : Few ops) : Ok (qH x ops l) fun b => b = true ↔ ∃ ds, Fo x ops l ds := by
 have h2 := h.caps
 have hsea := F6 h hH hf
 have hn := hsea.n
 have hu := AK (jA l (jS ops))
 rw [jX] at hu
 have hfs := fS_le (und (jA l (jS ops))) (by omega)
 unfold qH
 refine Ok.bd8 (Q := fun r => r = (ops, l, gm l, i8 l, jR l, jk l, false, false)) ⟨_, Eh h.len, rfl⟩ fun a b c d e g i j hq => ?_
 cases hq
 refine Ok.bindEq (j5 (by omega) (by omega)) ?_
 refine Ok.bindEq (lz (by omega)) ?_
 rw [zT hH]
 refine Ok.bd2 (AC (caps := x.capacities) hsea h2 100 (jA l (jS ops)) (nO x) [] jX (E2 h) (by omega) (by simp; omega) (by simp)) fun b s hR => ?_
 have hy := hR.yes
 have hno := hR.no
 simp only at hy hno
 unfold wH
 refine Ok.some ⟨fun hb => F4 (op := true) hH (hy hb) _ uj rfl, ?_⟩
 rintro ⟨ds, hd⟩
 have := F7 hH (op := true) hd uj
 cases b with
 | true => rfl
 | false => exact absurd this (hno rfl).1
theorem Hs.set (h : Hs ops l N B) : ∀ (i : Nat) (e : Event) (r : Result), l[i]? = some e → e.ret = true → Hs ops (l.set i (Event.mk e.thread e.op e.ret r)) N B := by
 induction h with
 | nil => intro i e r hi; simp at hi
 | @call l N B u row h hr hb hn ih =>
  intro i e r hi he
  by_cases hlt : i < l.length
  ·rw [List.getElem?_append_left hlt] at hi
   rw [List.set_append_left _ _ hlt]
   exact .call u row (ih i e r hi he) hr hb hn
  ·rw [List.getElem?_append_right (by omega)] at hi
   have : i - l.length = 0 := by
    rcases Nat.eq_zero_or_pos (i - l.length) with h | h
    ·exact h
    ·rw [List.getElem?_eq_none (by simp; omega)] at hi; cases hi
   rw [this] at hi
   simp at hi; subst hi; cases he
 | @ret l N B u row x h hr hb ih =>
  intro i e r hi he
  by_cases hlt : i < l.length
  ·rw [List.getElem?_append_left hlt] at hi
   rw [List.set_append_left _ _ hlt]
   exact .ret u row x (ih i e r hi he) hr hb
  ·rw [List.getElem?_append_right (by omega)] at hi
   have h0 : i - l.length = 0 := by
    rcases Nat.eq_zero_or_pos (i - l.length) with h | h
    ·exact h
    ·rw [List.getElem?_eq_none (by simp; omega)] at hi; cases hi
   rw [h0] at hi
   simp at hi; subst hi
   rw [List.set_append_right _ _ (by omega), h0]
   exact .ret u row r h hr hb
end
theorem Eg {ops : List (List Op)} {l : List Event} {N : Int → Int} {B : Int → Bool} {a w b : Int} (hH : Hs ops l N B) (hl : l.length ≤ 1000) : Ok (rO l a w b) fun m => m.length = l.length ∧ Hs ops m N B := by
 unfold rO
 refine Ok.bindEq (gl (by simp; omega)) ?_
 rw [List.nil_append]
 refine Ok.ite (fun _ => Ok.some ⟨rfl, hH⟩) fun h0 => ?_
 refine Ok.bind (mod17 (by omega) (by omega)) fun i ⟨i0, i1⟩ => ?_
 obtain ⟨e, he⟩ : ∃ e, getI l i = some e := ⟨_, fG i0 i1⟩
 refine Ok.bindEq he ?_
 refine Ok.ite (fun hr => ?_) fun _ => Ok.some ⟨rfl, hH⟩
 have hJ : ∀ r, Ok (pK (f8 l i (Event.mk e.thread e.op e.ret r))) fun m => m.length = l.length ∧ Hs ops m N B := fun r => Ok.some ⟨gd, hH.set _ _ _ (fL he).2.1 hr⟩
 refine Ok.ite (fun _ => Ok.bindEq he (hJ _)) fun _ => ?_
 refine Ok.ite (fun _ => Ok.bindEq he (Ok.bindEq he (hJ _))) fun _ => ?_
 refine Ok.ite (fun _ => Ok.bindEq he (hJ _)) fun _ => ?_
 exact Ok.ite (fun _ => Ok.bindEq he (Ok.bindEq he (hJ _))) fun _ => Ok.some ⟨rfl, hH⟩
theorem MadeOk.hs {x : fM} {ops : List (List Op)} {l : List Event} (h : MadeOk x ops l) : ∃ n s, n ≤ 100 ∧ Run ops (jj x) n s ∧ s.l = l ∧ Hs ops l (nN s) (bN s) := by
 obtain ⟨s, _, n, hR, hn, _, _, rfl⟩ := h.run
 exact ⟨n, s, hn, hR, rfl, hR.hs h.cfg h.fine h.len (by omega)⟩
theorem DF {x : fM} {ops : List (List Op)} {l : List Event} (h : MadeOk x ops l) (h1 : ((sumL ops : Nat) : Int) ≤ 7) (h2 : ∀ w ∈ ops, ∀ o ∈ w, VB 1000 o) : Few ops := ⟨by omega, h2, fun r hr o ho => (h.fine.2.2 r hr o ho).lens.2⟩
def opN (ops : List (List Op)) (t n : Int) : Option Op := (getI ops t).bind fun r => getI r n
def cntE (l : List Done) (t : Int) : Nat := l.countP fun d => decide (d.thread = t)
theorem tA (l : List Done) (d : Done) (t : Int) : cntE (l ++ [d]) t = cntE l t + if d.thread = t then 1 else 0 := by
 unfold cntE
 rw [List.countP_append, List.countP_singleton]
 by_cases h : d.thread = t <;> simp [h]
theorem cnt_le (l : List Done) (t : Int) : cntE l t ≤ l.length := List.countP_le_length
def zF (ops : List (List Op)) : List Done → List Done → Option (List Op)
 | _, [] => some []
 | pre, d :: rest => (opN ops d.thread (cntE pre d.thread)).bind fun o => (zF ops (pre ++ [d]) rest).map (o :: ·)
theorem j6 (ops : List (List Op)) (pre : List Done) (d : Done) (rest : List Done) : zF ops pre (d :: rest) = (opN ops d.thread (cntE pre d.thread)).bind fun o => (zF ops (pre ++ [d]) rest).map (o :: ·) := rfl
def goS : List fJ → List (Op × Result) → Option (List fJ)
 | l, [] => some l
 | l, [(o, r)] => if (ge l o r).2 = true then some (ge l o r).1 else none
 | l, (o, r) :: (o2, r2) :: rest => if (ge l o r).2 = true then goS (ge l o r).1 ((o2, r2) :: rest) else if (gV l o r o2 r2 || gV l o2 r2 o r) = true then goS l rest else none
def finS : Option (List fJ) → List fJ × Bool
 | some l => (l, true)
 | none => ([], false)
def jN (l : List fJ) (ops : List (List Op)) (pre order : List Done) : List fJ × Bool := match zF ops pre order with
 | none => ([], false)
 | some os => finS (goS l (os.zip (order.map (·.result))))
theorem DX {ops : List (List Op)} (hf : OpsFine ops) {t n : Int} {o : Op} (h : opN ops t n = some o) : OpOk o := by
 unfold opN at h
 cases hr : getI ops t with
 | none => rw [hr] at h; cases h
 | some r =>
  rw [hr] at h
  exact hf.op hr h
section
variable {l : List fJ} {ops : List (List Op)} {pre rest : List Done} {d d2 : Done} {o o2 : Op}
theorem FV {r : Result} (h : (ge l o r).2 = true) (z : List (Op × Result)) : goS l ((o, r) :: z) = goS (ge l o r).1 z := by
 cases z with
 | nil => unfold goS; rw [if_pos h]
 | cons p q =>
  obtain ⟨o2, r2⟩ := p
  conv => lhs; unfold goS
  rw [if_pos h]
theorem BM (h : opN ops d.thread (cntE pre d.thread) = none) : jN l ops pre (d :: rest) = ([], false) := by
 unfold jN; rw [j6, h]; rfl
theorem yT (h : opN ops d.thread (cntE pre d.thread) = some o) (ha : (ge l o d.result).2 = true) : jN l ops pre (d :: rest) = jN (ge l o d.result).1 ops (pre ++ [d]) rest := by
 unfold jN; rw [j6, h]
 simp only [Option.bind_some]
 cases zF ops (pre ++ [d]) rest with
 | none => rfl
 | some os =>
  simp only [Option.map_some, List.map_cons, List.zip_cons_cons]
  rw [FV ha]
theorem BN (h : opN ops d.thread (cntE pre d.thread) = some o) (ha : ¬ (ge l o d.result).2 = true) : jN l ops pre [d] = ([], false) := by
 unfold jN; rw [j6, h]
 simp only [Option.bind_some, zF, Option.map_some, List.map_cons, List.zip_cons_cons, List.map_nil, List.zip_nil_right]
 unfold goS; rw [if_neg ha]; rfl
theorem zQ (h : opN ops d.thread (cntE pre d.thread) = some o) (h2 : opN ops d2.thread (cntE (pre ++ [d]) d2.thread) = none) : jN l ops pre (d :: d2 :: rest) = ([], false) := by
 unfold jN; rw [j6, h, j6, h2]; rfl
theorem ue (h : opN ops d.thread (cntE pre d.thread) = some o) (ha : ¬ (ge l o d.result).2 = true) (h2 : opN ops d2.thread (cntE (pre ++ [d]) d2.thread) = some o2) :
  jN l ops pre (d :: d2 :: rest) = if (gV l o d.result o2 d2.result || gV l o2 d2.result o d.result) = true then jN l ops (pre ++ [d] ++ [d2]) rest else ([], false) := by
 unfold jN; rw [j6, h, j6, h2]
 simp only [Option.bind_some]
 cases zF ops (pre ++ [d] ++ [d2]) rest with
 | none => simp only [Option.map_none]; split <;> rfl
 | some os =>
  simp only [Option.map_some, List.map_cons, List.zip_cons_cons]
  conv => lhs; unfold goS
  rw [if_neg ha]
  split <;> rfl
end
theorem D3 {order : List Done} {ops : List (List Op)} {l : List fJ} (hl : iy l) (hf : OpsFine ops) (hn : order.length ≤ 1000) : sg l ops order = some (jN l ops [] order) := by
 refine Ok.eq ?_
 have ho8 := hf.1
 unfold sg
 refine Ok.bindEq (j5 (by omega) (by omega)) ?_
 refine kR (fun _ _ i => ((order.length : Int) - i).toNat) (fun l' nx i => 0 ≤ i ∧ i ≤ (order.length : Int) ∧ nx.length = ops.length ∧ (∀ t, 0 ≤ t → t < (ops.length : Int) → getI nx t = some (cntE (order.take i.toNat) t : Int)) ∧ iy l' ∧ jN l ops [] order = jN l' ops (order.take i.toNat) (order.drop i.toNat)) (fun _ _ _ => _) ?_ BIG _ _ 0 ⟨by omega, by omega, by simp, fun t h0 h1 => ?_, hl, by simp⟩ (gp (by omega))
 ·intro l' nx i k ⟨g0, g1, g2, g3, g4, g5⟩ hk
  unfold wK
  refine Ok.ite (fun hi => ?_) fun hi => ?_
  ·obtain ⟨d, hd⟩ : ∃ d, getI order i = some d := ⟨_, fG g0 hi⟩
   have e1 := ij hd
   have e2 := iv hd
   have hi1 : (i + 1).toNat = i.toNat + 1 := by omega
   rw [e1] at g5
   have hcl := cnt_le (order.take i.toNat) d.thread
   rw [List.length_take] at hcl
   have hfail : opN ops d.thread (cntE (order.take i.toNat) d.thread) = none → Ok (pU l' ops order nx i d k true) fun r => r = jN l ops [] order := fun h => by
    unfold pU
    rw [if_pos rfl]
    exact Ok.some (by rw [g5, BM h])
   refine Ok.bindEq hd ?_
   refine Ok.ite (fun h => hfail (by unfold opN; rw [gu (.inl h)]; rfl)) fun h => ?_
   refine Ok.ite (fun h' => hfail (by unfold opN; rw [gu (.inr h')]; rfl)) fun h' => ?_
   obtain ⟨row, hrow⟩ : ∃ r, getI ops d.thread = some r := ⟨_, fG (by omega) (by omega)⟩
   have hnx := g3 d.thread (by omega) (by omega)
   refine Ok.bindEq hnx ?_
   refine Ok.bindEq hrow ?_
   by_cases hge : (cntE (order.take i.toNat) d.thread : Int) ≥ (row.length : Int)
   ·rw [show dcd ((cntE (order.take i.toNat) d.thread : Int) ≥ (row.length : Int)) = true by rw [ik]; exact hge]
    exact hfail (by unfold opN; rw [hrow]; exact gu (.inr hge))
   ·rw [show dcd ((cntE (order.take i.toNat) d.thread : Int) ≥ (row.length : Int)) = false by rw [js]; exact hge]
    obtain ⟨o, ho⟩ : ∃ o, getI row (cntE (order.take i.toNat) d.thread : Int) = some o := ⟨_, fG (by omega) (by omega)⟩
    have hopn : opN ops d.thread (cntE (order.take i.toNat) d.thread) = some o := by unfold opN; rw [hrow]; exact ho
    have hom := (DX hf hopn).m
    have hnx1 : ∀ t, 0 ≤ t → t < (ops.length : Int) → getI (f8 nx d.thread ((cntE (order.take i.toNat) d.thread : Int) + 1)) t = some (cntE (order.take (i + 1).toNat) t : Int) := fun t h0 h1 => by
     rw [iF (by omega) (by omega), e2, tA]
     by_cases ht : t = d.thread
     ·rw [if_pos ht, if_pos ht.symm, ht]; simp
     ·rw [if_neg ht, if_neg (fun e => ht e.symm), g3 t h0 h1]; simp
    unfold pU
    rw [if_neg (by decide)]
    refine Ok.bindEq hrow ?_
    refine Ok.bindEq hnx ?_
    refine Ok.bindEq ho ?_
    refine Ok.bindEq hnx ?_
    refine Ok.bindEq hnx ?_
    refine Ok.bindEq hd ?_
    refine Ok.bd2 (Q := fun x => x = ge l' o d.result) ⟨_, jM g4 hom, rfl⟩ fun a b hab => ?_
    have ha : a = (ge l' o d.result).1 := by rw [← hab]
    have hb : b = (ge l' o d.result).2 := by rw [← hab]
    rw [gh (x := i + 1) (by omega) (by omega), gh (x := (cntE (order.take i.toNat) d.thread : Int) + 1) (by omega) (by omega)]
    refine Ok.ite (fun ht => ?_) fun ht => ?_
    ·rw [hb] at ht
     rw [ha]
     refine hk _ _ _ ⟨by omega, by omega, by rw [gd]; exact g2, hnx1, (pj g4 ht).1, ?_⟩ (by omega)
     rw [g5, yT hopn ht, e2]
    ·rw [hb] at ht
     refine Ok.ite (fun hge2 => Ok.some ?_) fun hlt => ?_
     ·rw [g5, List.drop_eq_nil_of_le (by omega), BN hopn ht]
     ·obtain ⟨d2, hd2⟩ : ∃ d2, getI order (i + 1) = some d2 := ⟨_, fG (by omega) (by omega)⟩
      have e3 := ij hd2
      have e4 := iv hd2
      rw [e3] at g5
      refine Ok.bindEq hd2 ?_
      have hcl2 := cnt_le (order.take (i + 1).toNat) d2.thread
      rw [List.length_take] at hcl2
      have hfail2 : opN ops d2.thread (cntE (order.take (i + 1).toNat) d2.thread) = none → Ok (pT l' ops order nx d (cntE (order.take i.toNat) d.thread) i d2 o k true) fun r => r = jN l ops [] order := fun h => by
       unfold pT
       rw [if_pos rfl]
       exact Ok.some (by rw [g5, zQ hopn (by rw [← e2]; exact h)])
      refine Ok.ite (fun h => hfail2 (by unfold opN; rw [gu (.inl h)]; rfl)) fun h3 => ?_
      refine Ok.ite (fun h' => hfail2 (by unfold opN; rw [gu (.inr h')]; rfl)) fun h4 => ?_
      obtain ⟨row2, hrow2⟩ : ∃ r, getI ops d2.thread = some r := ⟨_, fG (by omega) (by omega)⟩
      have hnx2 := hnx1 d2.thread (by omega) (by omega)
      refine Ok.bindEq hnx2 ?_
      refine Ok.bindEq hrow2 ?_
      by_cases hge3 : (cntE (order.take (i + 1).toNat) d2.thread : Int) ≥ (row2.length : Int)
      ·rw [show dcd ((cntE (order.take (i + 1).toNat) d2.thread : Int) ≥ (row2.length : Int)) = true by rw [ik]; exact hge3]
       exact hfail2 (by unfold opN; rw [hrow2]; exact gu (.inr hge3))
      ·rw [show dcd ((cntE (order.take (i + 1).toNat) d2.thread : Int) ≥ (row2.length : Int)) = false by rw [js]; exact hge3]
       obtain ⟨o2, ho2⟩ : ∃ o, getI row2 (cntE (order.take (i + 1).toNat) d2.thread : Int) = some o := ⟨_, fG (by omega) (by omega)⟩
       have hopn2 : opN ops d2.thread (cntE (order.take (i + 1).toNat) d2.thread) = some o2 := by unfold opN; rw [hrow2]; exact ho2
       have hw1 : wI ((cntE (order.take i.toNat) d.thread : Int) + 1) = (cntE (order.take i.toNat) d.thread : Int) + 1 := gh (by omega) (by omega)
       unfold pT
       rw [if_neg (by decide), hw1, gh (x := i + 1) (by omega) (by omega), gh (x := i + 1 - 1) (by omega) (by omega), show i + 1 - 1 = i by omega]
       refine Ok.bindEq hrow2 ?_
       refine Ok.bindEq hnx2 ?_
       refine Ok.bindEq ho2 ?_
       refine Ok.bindEq hnx2 ?_
       refine Ok.bindEq hnx2 ?_
       refine Ok.bindEq hd ?_
       refine Ok.bindEq hd2 ?_
       refine Ok.bindEq (ma _ _ _ _ _) ?_
       have hg := ue (l := l') (rest := order.drop (i + 1 + 1).toNat) hopn ht (by rw [← e2]; exact hopn2)
       refine Ok.ite (fun hp => ?_) fun hp => ?_
       ·rw [gh (x := i + 1 + 1) (by omega) (by omega), gh (x := (cntE (order.take (i + 1).toNat) d2.thread : Int) + 1) (by omega) (by omega)]
        refine hk _ _ _ ⟨by omega, by omega, by rw [gd, gd]; exact g2, fun t h0 h1 => ?_, g4, ?_⟩ (by omega)
        ·rw [iF (by omega) (by rw [gd]; omega), e4, tA]
         by_cases ht2 : t = d2.thread
         ·rw [if_pos ht2, if_pos ht2.symm, ht2]; simp
         ·rw [if_neg ht2, if_neg (fun e => ht2 e.symm), hnx1 t h0 h1]; simp
        ·rw [g5, hg, if_pos hp, e4, e2]
       ·refine Ok.some ?_
        rw [g5, hg, if_neg hp]
  ·unfold wJ
   refine Ok.some ?_
   rw [g5, List.drop_eq_nil_of_le (by omega)]; rfl
 ·have : getI (List.replicate ((ops.length : Int)).toNat (0 : Int)) t = some 0 := by
   rw [fG h0 (by simp; omega)]; simp
  rw [this]; simp [cntE]
def ii (p : Int → Int) (t : Int) : Int → Int := up p t (p t + 1)
def iT : (Int → Int) → List Done → List A2Int
 | _, [] => []
 | p, d :: ds => A2Int.mk d.thread (p d.thread) :: iT (ii p d.thread) ds
def endW : (Int → Int) → List Done → Int → Int
 | p, [] => p
 | p, d :: ds => endW (ii p d.thread) ds
structure ElS (ops : List (List Op)) (l : List Event) (p : Int → Int) (t : Int) (o : Op) (x : Result) : Prop where
 row : ∃ r, getI ops t = some r ∧ getI r (p t) = some o
 called : 0 ≤ gf l t (p t) false
 fit : 0 ≤ gf l t (p t) true → (kV l t (p t)).1 = x
 pre : ∀ u j, 0 ≤ gf l u j false → p u ≤ j → jf l (A2Int.mk u j) (A2Int.mk t (p t)) = false
inductive Wit (ops : List (List Op)) (l : List Event) : (Int → Int) → List fJ → List Done → Prop
 | stop {p C} (h : ∀ t j, 0 ≤ gf l t j false → p t ≤ j → gf l t j true < 0) : Wit ops l p C []
 | one {p C t o x ds} (h : ElS ops l p t o x) (ha : (ge C o x).2 = true) (hw : Wit ops l (ii p t) (ge C o x).1 ds) : Wit ops l p C (Done.mk t x :: ds)
 | two {p C t u a b x y ds} (h : ElS ops l p t a x) (h' : ElS ops l p u b y) (hne : u ≠ t) (hp : gV C a x b y = true) (hw : Wit ops l (ii (ii p t) u) C ds) : Wit ops l p C (Done.mk t x :: Done.mk u y :: ds)
section
variable {ops : List (List Op)} {l : List Event} {N : Int → Int} {B : Int → Bool}
theorem xz {P : List Int} {t n : Int} (h : getI P t = some n) : pf (iV P t) = ii (pf P) t := by
 funext s
 rw [zI h]
 unfold ii up
 rw [l9 h]
theorem DD (hH : Hs ops l N B) {P : List Int} (hP : WfPl ops P) {t : Int} {a : fw} {x : Result} (hc : Cand (hQ ops l) true P t a) (hx : 0 ≤ a.coming → a.result = x) : ∃ n, getI P t = some n ∧ ElS ops l (pf P) t a.op x := by
 obtain ⟨n, r, o, hn, hro, hoo, hcl, rfl⟩ := (nP hH hP).1 hc.nxt
 refine ⟨n, hn, ⟨⟨r, hro, by rw [l9 hn]; exact hoo⟩, by rw [l9 hn]; exact hcl, by rw [l9 hn]; exact hx, fun u j hcj hpj => ?_⟩⟩
 rw [l9 hn]
 by_cases hp : jf l (A2Int.mk u j) (A2Int.mk t n) = true
 ·obtain ⟨p1, p2, p3⟩ := tZ.1 hp
  obtain ⟨_, _, r', o', hr', ho'⟩ := hH.called_ops hcj
  have := hc.early _ ((lh hH hP).2 ⟨u, j, r', o', hr', ho', hcj, hpj, rfl⟩) p1
  have h1 : (jD o' l u j).coming = gf l u j true := rfl
  have h2 : (jD o l t n).called = gf l t n false := rfl
  simp only at p3
  omega
 ·simpa using hp
theorem Gf (hH : Hs ops l N B) {P : List Int} {C : List fJ} {ds : List Done} (hw : Way (hQ ops l) true (fun _ => True) P C ds) : WfPl ops P → Wit ops l (pf P) C ds := by
 induction hw with
 | @stop P C h _ =>
  intro hP
  refine .stop fun t j hc hp => ?_
  obtain ⟨_, _, r', o', hr', ho'⟩ := hH.called_ops hc
  exact h _ ((lh hH hP).2 ⟨t, j, r', o', hr', ho', hc, hp, rfl⟩)
 | @one P C t a x ds hc hr ha _ ih =>
  intro hP
  obtain ⟨n, hn, he⟩ := DD (x := x) hH hP hc fun h0 => by
   unfold nS at hr
   rw [if_pos h0, List.mem_singleton] at hr
   exact hr.symm
  have := ih (hP.inc hn)
  rw [xz hn] at this
  exact .one he ha this
 | @two P C t u a b x y ds hc hc' hne hp hx hy _ ih =>
  intro hP
  have hf : ∀ {c : fw} {z : Result}, je c z → 0 ≤ c.coming → c.result = z := fun h h0 => by
   rcases h with h | h
   ·omega
   ·exact h
  obtain ⟨n, hn, he⟩ := DD (x := x) hH hP hc (hf hx)
  obtain ⟨m, hm, he'⟩ := DD (x := y) hH hP hc' (hf hy)
  have hm' : getI (iV P t) u = some m := by rw [jI hn, if_neg hne]; exact hm
  have := ih ((hP.inc hn).inc hm')
  rw [xz hm', xz hn] at this
  exact .two he he' hne hp this
theorem Fa {T : i7} {op : Bool} {acc : List fJ → Prop} {P : List Int} {C : List fJ} {ds : List Done} (h : Way T op acc P C ds) : ds.length ≤ mT T P := by
 induction h with
 | stop _ _ => simp
 | one hc _ _ _ ih => have := mp hc.nxt; simp only [List.length_cons]; omega
 | two hc hc' hne _ _ _ _ ih =>
  have h1 := mp hc.nxt
  have h2 := mp (xH hc.nxt hc'.nxt hne)
  simp only [List.length_cons]; omega
inductive Els (ops : List (List Op)) (l : List Event) : (Int → Int) → List Done → Prop
 | nil {p} : Els ops l p []
 | cons {p d ds} (ht : 0 ≤ d.thread ∧ d.thread < (ops.length : Int)) (hb : 0 ≤ p d.thread) (hr : ∃ r o, getI ops d.thread = some r ∧ getI r (p d.thread) = some o) (hc : 0 ≤ gf l d.thread (p d.thread) false) (hf : 0 ≤ gf l d.thread (p d.thread) true → (kV l d.thread (p d.thread)).1 = d.result) (h : Els ops l (ii p d.thread) ds) : Els ops l p (d :: ds)
theorem ElS.cons {p : Int → Int} {t : Int} {o : Op} {x : Result} {ds : List Done} (h : ElS ops l p t o x) (hs : Els ops l (ii p t) ds) : Els ops l p (Done.mk t x :: ds) := by
 obtain ⟨r, hr, ho⟩ := h.row
 exact .cons (gj hr) (gj ho).1 ⟨r, o, hr, ho⟩ h.called h.fit hs
theorem step_other {p : Int → Int} {t u : Int} (h : u ≠ t) : ii p t u = p u := kk h
theorem ka (p : Int → Int) (t u : Int) : p u ≤ ii p t u := by
 unfold ii up; split
 ·rename_i e; subst e; omega
 ·exact Int.le_refl _
theorem Wit.els {p : Int → Int} {C : List fJ} {ds : List Done} (h : Wit ops l p C ds) : Els ops l p ds := by
 induction h with
 | stop _ => exact .nil
 | one h _ _ ih => exact h.cons ih
 | @two p C t u a b x y ds h h' hne _ _ ih =>
  refine h.cons ?_
  have h2 : ElS ops l p u b y := h'
  obtain ⟨r, hr, ho⟩ := h'.row
  refine .cons (gj hr) ?_ ⟨r, b, hr, ?_⟩ ?_ ?_ ih
  ·show 0 ≤ ii p t u; rw [step_other hne]; exact (gj ho).1
  ·show getI r (ii p t u) = some b; rw [step_other hne]; exact ho
  ·show 0 ≤ gf l u (ii p t u) false; rw [step_other hne]; exact h'.called
  ·show 0 ≤ gf l u (ii p t u) true → (kV l u (ii p t u)).1 = y; rw [step_other hne]; exact h'.fit
theorem FP {ds : List Done} : ∀ (p : Int → Int) u, p u ≤ endW p ds u := by
 induction ds with
 | nil => exact fun p u => Int.le_refl _
 | cons d ds ih => exact fun p u => Int.le_trans (ka p d.thread u) (ih _ u)
theorem Els.mem {p : Int → Int} {ds : List Done} (h : Els ops l p ds) : ∀ b ∈ iT p ds, p b.x0 ≤ b.x1 ∧ 0 ≤ gf l b.x0 b.x1 false := by
 induction h with
 | nil => intro b hb; cases hb
 | @cons p d ds ht hb0 hr hc hf _ ih =>
  intro b hb
  rcases List.mem_cons.1 hb with rfl | hb
  ·exact ⟨Int.le_refl _, hc⟩
  ·obtain ⟨h1, h2⟩ := ih b hb
   exact ⟨Int.le_trans (ka p d.thread b.x0) h1, h2⟩
theorem Wit.fin {p : Int → Int} {C : List fJ} {ds : List Done} (h : Wit ops l p C ds) : ∀ t j, 0 ≤ gf l t j false → 0 ≤ gf l t j true → j < endW p ds t := by
 induction h with
 | stop h => intro t j hc hr; exact Int.not_le.1 fun hle => by have := h t j hc hle; omega
 | one _ _ _ ih => exact ih
 | two _ _ _ _ _ ih => exact ih
theorem Wit.before {p : Int → Int} {C : List fJ} {ds : List Done} (h : Wit ops l p C ds) : ∀ y ∈ iT p ds, ∀ u j, 0 ≤ gf l u j false → jf l (A2Int.mk u j) y = true → j < endW p ds u := by
 have hd : ∀ {p : Int → Int} {t : Int} {o : Op} {x : Result} {q : Int → Int} {ds : List Done}, ElS ops l p t o x → (∀ u, p u ≤ q u) → ∀ u j, 0 ≤ gf l u j false → jf l (A2Int.mk u j) (A2Int.mk t (p t)) = true → j < endW q ds u := fun {p t o x q ds} he hq u j hc hp => by
  refine Int.not_le.1 fun hle => ?_
  have := he.pre u j hc (Int.le_trans (Int.le_trans (hq u) (FP (ds := ds) q u)) hle)
  rw [this] at hp; cases hp
 induction h with
 | stop _ => intro y hy; cases hy
 | @one p C t o x ds h _ _ ih =>
  intro y hy
  rcases List.mem_cons.1 hy with rfl | hy
  ·exact hd (q := ii p t) (ds := ds) h (ka p t)
  ·exact ih y hy
 | @two p C t u a b x y ds h h' hne _ _ ih =>
  intro z hz
  rcases List.mem_cons.1 hz with rfl | hz
  ·exact hd (q := ii (ii p t) u) (ds := ds) h fun w => Int.le_trans (ka p t w) (ka (ii p t) u w)
  rcases List.mem_cons.1 hz with rfl | hz
  ·have e : ii p t u = p u := step_other hne
   show ∀ w j, _ → jf l (A2Int.mk w j) (A2Int.mk u (ii p t u)) = true → _
   rw [e]
   exact hd (q := ii (ii p t) u) (ds := ds) h' fun w => Int.le_trans (ka p t w) (ka (ii p t) u w)
  ·exact ih z hz
theorem Wit.order {p : Int → Int} {C : List fJ} {ds : List Done} (h : Wit ops l p C ds) : (iT p ds).Pairwise fun a b => jf l b a = false := by
 have hd : ∀ {p q : Int → Int} {t : Int} {o : Op} {x : Result} {ds : List Done}, ElS ops l p t o x → (∀ u, p u ≤ q u) → Els ops l q ds → ∀ b ∈ iT q ds, jf l b (A2Int.mk t (p t)) = false := fun {p q t o x ds} he hq hs b hb => by
  obtain ⟨h1, h2⟩ := hs.mem b hb
  exact he.pre b.x0 b.x1 h2 (Int.le_trans (hq _) h1)
 induction h with
 | stop _ => exact .nil
 | @one p C t o x ds h _ hw ih => exact List.pairwise_cons.2 ⟨hd h (ka p t) hw.els, ih⟩
 | @two p C t u a b x y ds h h' hne _ hw ih =>
  have e : ii p t u = p u := step_other hne
  have hq : ∀ w, p w ≤ ii (ii p t) u w := fun w => Int.le_trans (ka p t w) (ka (ii p t) u w)
  obtain ⟨r', hr', ho'⟩ := h'.row
  refine List.pairwise_cons.2 ⟨fun z hz => ?_, List.pairwise_cons.2 ⟨fun z hz => ?_, ih⟩⟩
  ·rcases List.mem_cons.1 hz with rfl | hz
   ·show jf l (A2Int.mk u (ii p t u)) (A2Int.mk t (p t)) = false
    rw [e]; exact h.pre u (p u) h'.called (Int.le_refl _)
   ·exact hd h hq hw.els z hz
  ·show jf l z (A2Int.mk u (ii p t u)) = false
   rw [e]; exact hd h' hq hw.els z hz
theorem Au {C : List fJ} {a b : Op} {x y : Result} (h : gV C a x b y = true) : (ge C a x).2 = false := by
 obtain ⟨s, r, c1, c2, c3, c4, c5, c6, c7⟩ := kh h
 have ho : uR C s.channel = true := by
  unfold gV at h
  rw [c1, c2] at h
  unfold nQ at h
  simp only [Bool.and_eq_true] at h
  exact h.2.2.2.1
 unfold ge
 rw [if_pos (.inl (by rw [c6]; rfl)), c1]
 show (jE C s x).2 = false
 unfold jE
 unfold uR at ho
 cases hg : getI C s.channel with
 | none => rfl
 | some c =>
  rw [hg] at ho
  simp at ho
  have hk : x.kind = 1 := by rw [c6]; rfl
  have : ¬ (c.buffer.length : Int) < c.capacity := by omega
  simp [hk, this]
theorem tB {pre : List Done} {p : Int → Int} (h : ∀ t, p t = (cntE pre t : Int)) (d : Done) : ∀ t, ii p d.thread t = (cntE (pre ++ [d]) t : Int) := fun t => by
 rw [tA]
 unfold ii up
 by_cases e : d.thread = t
 ·subst e; rw [if_pos rfl, if_pos rfl, h]; omega
 ·rw [if_neg fun h => e h.symm, if_neg e, h]; omega
theorem Wit.step {p : Int → Int} {C : List fJ} {ds : List Done} (h : Wit ops l p C ds) : ∀ pre : List Done, (∀ t, p t = (cntE pre t : Int)) → (jN C ops pre ds).2 = true := by
 have ho : ∀ {p : Int → Int} {t : Int} {o : Op} {x : Result} {pre : List Done}, ElS ops l p t o x → (∀ t, p t = (cntE pre t : Int)) → opN ops t (cntE pre t) = some o := fun {p t o x pre} he hp => by
  obtain ⟨r, hr, hro⟩ := he.row
  unfold opN
  rw [hr, ← hp t]; exact hro
 induction h with
 | stop _ => intro pre _; rfl
 | @one p C t o x ds h ha _ ih =>
  intro pre hp
  rw [yT (d := Done.mk t x) (ho h hp) ha]
  exact ih _ (tB hp (Done.mk t x))
 | @two p C t u a b x y ds h h' hne hpr _ ih =>
  intro pre hp
  have e : ii p t u = p u := step_other hne
  have h1 := tB hp (Done.mk t x)
  have ho2 : opN ops u (cntE (pre ++ [Done.mk t x]) u) = some b := by
   obtain ⟨r, hr, hro⟩ := h'.row
   unfold opN
   rw [hr, ← h1 u]
   show getI r (ii p t u) = some b
   rw [e]; exact hro
  rw [ue (d := Done.mk t x) (d2 := Done.mk u y) (ho h hp) (by show ¬ (ge C a x).2 = true; rw [Au hpr]; decide) ho2, if_pos (by show (gV C a x b y || _) = true; rw [hpr]; rfl)]
  exact ih _ (tB h1 (Done.mk u y))
end
section
variable {x : fM} {ops : List (List Op)} {l : List Event} {N : Int → Int} {B : Int → Bool}
theorem DY (hl : l.length ≤ 100000) (hops : ∀ r ∈ ops, ∀ o ∈ r, OpM o) {ds : List Done} {cs : List A2Int} {C : List fJ} {p0 : Int → Int} (hC : iy C) (hw : Wit ops l p0 C ds) (hcs : cs = iT p0 ds) (hn : ds.length ≤ 1000) : si C ops l ds cs = some true := by
 refine Ok.eq ?_
 unfold si
 refine ip (fun _ i => ((ds.length : Int) - i).toNat) (fun C i => 0 ≤ i ∧ i ≤ (ds.length : Int) ∧ iy C ∧ ∃ p, Wit ops l p C (ds.drop i.toNat) ∧ cs.drop i.toNat = iT p (ds.drop i.toNat)) (fun _ _ r => r = true) ?_ BIG C 0 ⟨by omega, by omega, hC, p0, by simpa using hw, by simpa using hcs⟩ (gp (by omega))
 intro C i k ⟨i0, i1, hC, p, hw, hcd⟩ hk
 unfold wM
 refine Ok.ite (fun hi => ?_) fun hi => ?_
 rotate_left
 ·unfold wL
  exact Ok.some rfl
 obtain ⟨d, hd⟩ : ∃ d, getI ds i = some d := ⟨_, fG i0 hi⟩
 have hdd := ij hd
 have hi1 : (i + 1).toNat = i.toNat + 1 := by omega
 rw [hdd] at hw hcd
 have hget : ∀ {c : A2Int} {r : List A2Int} {n : Nat}, cs.drop n = c :: r → getI cs (n : Int) = some c ∧ cs.drop (n + 1) = r := fun {c r n} h => by
  refine ⟨?_, ?_⟩
  ·rw [io]
   have := congrArg (fun z => z[0]?) h
   simpa using this
  ·have := congrArg List.tail h
   simpa [List.tail_drop] using this
 have hii : ((i.toNat : Nat) : Int) = i := by omega
 generalize hz : d :: ds.drop (i + 1).toNat = z at *
 cases hw with
 | stop _ => cases hz
 | @one p C t o y ds' h ha hw' =>
  obtain ⟨rfl, rfl⟩ := List.cons.inj hz
  simp only [iT] at hcd
  obtain ⟨g1, g2⟩ := hget hcd
  rw [hii] at g1
  obtain ⟨r, hr, ho⟩ := h.row
  have hom := hops r (fV hr) o (fV ho)
  refine Ok.bindEq g1 ?_
  refine Ok.bindEq hr ?_
  refine Ok.bindEq g1 ?_
  refine Ok.bindEq ho ?_
  refine Ok.bindEq hd ?_
  refine Ok.bd2 (Q := fun q => q = ge C o y) ⟨_, jM hC hom, rfl⟩ fun C' ok hq => ?_
  have e1 : (ge C o y).1 = C' := by rw [← hq]
  have e2 : (ge C o y).2 = ok := by rw [← hq]
  rw [if_pos (by rw [← e2]; exact ha), gh (by omega) (by omega)]
  refine hk _ _ ⟨by omega, by omega, by rw [← e1]; exact (pj hC ha).1, _, by rw [← e1]; exact hw', by rw [← hi1] at g2; exact g2⟩ (by omega)
 | @two p C t u a b y y' ds' h h' hne hpr hw' =>
  obtain ⟨rfl, hz2⟩ := List.cons.inj hz
  simp only [iT] at hcd
  obtain ⟨g1, g2⟩ := hget hcd
  obtain ⟨g3, g4⟩ := hget g2
  rw [hii] at g1
  have hi2 : ((i.toNat + 1 : Nat) : Int) = i + 1 := by omega
  rw [hi2] at g3
  have e : ii p t u = p u := step_other hne
  have hlt : i + 1 < (ds.length : Int) := by
   have := congrArg List.length hz2
   rw [List.length_drop] at this
   simp only [List.length_cons] at this; omega
  obtain ⟨r, hr, ho⟩ := h.row
  have hom := hops r (fV hr) a (fV ho)
  refine Ok.bindEq g1 ?_
  refine Ok.bindEq hr ?_
  refine Ok.bindEq g1 ?_
  refine Ok.bindEq ho ?_
  refine Ok.bindEq hd ?_
  refine Ok.bd2 (Q := fun q => q = ge C a y) ⟨_, jM hC hom, rfl⟩ fun C' ok hq => ?_
  have e2 : (ge C a y).2 = ok := by rw [← hq]
  rw [if_neg (by rw [← e2, Au hpr]; decide), gh (by omega) (by omega)]
  refine Ok.ite (fun hh => by omega) fun _ => ?_
  refine Ok.bindEq g1 ?_
  refine Ok.bindEq g3 ?_
  refine Ok.bindEq (jg (by omega)) ?_
  have n1 : jf l (A2Int.mk t (p t)) (A2Int.mk u (p u)) = false := h'.pre t (p t) h.called (Int.le_refl _)
  have n2 : jf l (A2Int.mk u (p u)) (A2Int.mk t (p t)) = false := h.pre u (p u) h'.called (Int.le_refl _)
  refine Ok.ite (fun hh => ?_) fun _ => ?_
  ·have hh : jf l (A2Int.mk t (p t)) (A2Int.mk u (ii p t u)) = true := hh
   rw [e, n1] at hh; cases hh
  refine Ok.bindEq g3 ?_
  refine Ok.bindEq g1 ?_
  refine Ok.bindEq (jg (by omega)) ?_
  have hn2 : jf l (A2Int.mk u (ii p t u)) (A2Int.mk t (p t)) = false := by rw [e]; exact n2
  unfold o9
  refine Ok.ite (fun hh => by rw [show jf l _ _ = false from hn2] at hh; cases hh) fun _ => ?_
  rw [gh (x := i + 1) (by omega) (by omega), gh (by omega) (by omega)]
  have hds : ds.drop (i + 1 + 1).toNat = ds' := by
   rw [show (i + 1 + 1).toNat = (i + 1).toNat + 1 by omega, ← List.drop_drop, hz2]; rfl
  refine hk _ _ ⟨by omega, by omega, hC, ii (ii p t) u, by rw [hds]; exact hw', ?_⟩ (by omega)
  rw [hds, show (i + 1 + 1).toNat = i.toNat + 1 + 1 by omega]; exact g4
theorem zB (h : HistIn x ops l) (hH : Hs ops l N B) (hf : OpsFine ops) {ds : List Done} (hw : Wit ops l (fun _ => 0) (nO x) ds) (hn : ds.length ≤ 1000) : sq x ops l ds = some true := by
 have hcap := h.caps
 have hll := h.len
 have hthr := h.thr
 have hCok := (zE h).ok
 refine Ok.eq ?_
 unfold sq
 refine Ok.bindEq (lz (by omega)) ?_
 refine Ok.bd2 (Q := fun r => r = jN (nO x) ops [] ds) ⟨_, D3 hCok hf hn, rfl⟩ fun a b hab => ?_
 have hb : b = true := by
  have := hw.step [] fun t => rfl
  rw [← hab] at this; exact this
 rw [if_pos hb]
 refine Ok.bindEq (j5 (by omega) (by omega)) ?_
 have hJ8 : Ok (sj ops l ds (iT (fun _ => 0) ds) x) fun r => r = true := by
  unfold sj
  refine Ok.bindEq (lz (by omega)) ?_
  exact Ok.bindEq (DY hll (fun r hr o ho => (h.ops r hr o ho).1) hCok hw rfl hn) (Ok.some rfl)
 have hJ4 : Ok (sk ops l ds (iT (fun _ => 0) ds) x) fun r => r = true := by
  have hord := List.pairwise_iff_getElem.1 hw.order
  generalize hcs : iT (fun _ => 0) ds = cs at *
  have hbnd : cs.length ≤ 1000 := by
   have : ∀ (p : Int → Int) (ds : List Done), (iT p ds).length = ds.length := fun p ds => by
    induction ds generalizing p with
    | nil => rfl
    | cons d ds ih => simp only [iT, List.length_cons, ih]
   rw [← hcs, this]; exact hn
  unfold sk
  refine jK (fun i => ((cs.length : Int) - i).toNat) (fun i => 0 ≤ i ∧ i ≤ (cs.length : Int)) (fun _ r => r = true) ?_ BIG 0 ⟨by omega, by omega⟩ (gp (by omega))
  intro i k ⟨i0, i1⟩ hk
  unfold wP
  refine Ok.ite (fun hi => ?_) fun hi => hJ8
  refine jK (fun j => (i - j).toNat) (fun j => 0 ≤ j ∧ j ≤ i) (fun _ r => r = true) ?_ BIG 0 ⟨by omega, by omega⟩ (gp (by omega))
  intro j k2 ⟨j0, j1⟩ hk2
  unfold wO
  refine Ok.ite (fun hj => ?_) fun hj => ?_
  ·have ei := fG (l := cs) i0 hi
   have ej := fG (l := cs) j0 (by omega)
   refine Ok.bindEq ei ?_
   refine Ok.bindEq ej ?_
   refine Ok.bindEq (jg (by omega)) ?_
   have := hord j.toNat i.toNat (by omega) (by omega) (by omega)
   rw [this, if_neg (by decide), gh (by omega) (by omega)]
   exact hk2 _ ⟨by omega, by omega⟩ (by omega)
  ·unfold wN
   rw [gh (by omega) (by omega)]
   exact hk _ ⟨by omega, by omega⟩ (by omega)
 have hJ1 : ∀ nx, (∀ t, 0 ≤ t → t < (ops.length : Int) → getI nx t = some (endW (fun _ => 0) ds t)) → Ok (sn ops l ds x nx (iT (fun _ => 0) ds)) fun r => r = true := by
  intro nx hnx
  have hcl := tn l
  have hfin := hw.fin
  have hbef := hw.before
  unfold sn
  refine Ok.bindEq (nR (by omega)) ?_
  have hall : ∀ c ∈ gm l, 0 ≤ gf l c.x0 c.x1 false ∧ 0 ≤ c.x0 ∧ c.x0 < (ops.length : Int) := fun c hc => by
   have h1 := iY.1 hc
   obtain ⟨_, _, r, o, hr, _⟩ := hH.called_ops h1
   exact ⟨h1, gj hr⟩
  generalize hS : gm l = S at *
  generalize hcs : iT (fun _ => 0) ds = cs at *
  have hbnd : cs.length ≤ 1000 := by
   have : ∀ (p : Int → Int) (ds : List Done), (iT p ds).length = ds.length := fun p ds => by
    induction ds generalizing p with
    | nil => rfl
    | cons d ds ih => simp only [iT, List.length_cons, ih]
   rw [← hcs, this]; exact hn
  refine jK (fun i => ((S.length : Int) - i).toNat) (fun i => 0 ≤ i ∧ i ≤ (S.length : Int)) (fun _ r => r = true) ?_ BIG 0 ⟨by omega, by omega⟩ (gp (by omega))
  intro i k ⟨i0, i1⟩ hk
  unfold wT
  refine Ok.ite (fun hi => ?_) fun hi => hJ4
  obtain ⟨c, hc⟩ : ∃ c, getI S i = some c := ⟨_, fG i0 hi⟩
  obtain ⟨c1, c2, c3⟩ := hall c (fV hc)
  have hE := hnx c.x0 c2 c3
  have hJ6 : Ok (pd ops l ds nx cs S i c x k false) fun r => r = true := by
   unfold pd
   rw [if_neg (by decide)]
   refine jK (fun j => ((cs.length : Int) - j).toNat) (fun j => 0 ≤ j ∧ j ≤ (cs.length : Int)) (fun _ r => r = true) ?_ BIG 0 ⟨by omega, by omega⟩ (gp (by omega))
   intro j k2 ⟨j0, j1⟩ hk2
   unfold wR
   refine Ok.ite (fun hj => ?_) fun hj => ?_
   ·obtain ⟨y, hy⟩ : ∃ y, getI cs j = some y := ⟨_, fG j0 hj⟩
    refine Ok.bindEq hy ?_
    refine Ok.bindEq (jg (by omega)) ?_
    have hgo : Ok (pa ops l ds nx cs S i j c x k k2 false) fun r => r = true := by
     unfold pa
     rw [if_neg (by decide), gh (by omega) (by omega)]
     exact hk2 _ ⟨by omega, by omega⟩ (by omega)
    refine Ok.ite (fun hp => ?_) fun _ => hgo
    refine Ok.bindEq hE ?_
    have := hbef y (fV hy) c.x0 c.x1 c1 hp
    rw [show dcd (c.x1 ≥ endW (fun _ => 0) ds c.x0) = false from js.2 (by omega)]
    exact hgo
   ·unfold wQ
    rw [gh (by omega) (by omega)]
    exact hk _ ⟨by omega, by omega⟩ (by omega)
  refine Ok.bindEq hc ?_
  refine Ok.bd2 (Q := fun q => q = kV l c.x0 c.x1) ⟨_, kp (by omega), rfl⟩ fun r n hrn => ?_
  have hn' : n = gf l c.x0 c.x1 true := by rw [← nT, ← hrn]
  refine Ok.ite (fun hr0 => ?_) fun _ => hJ6
  refine Ok.bindEq hE ?_
  have := hfin c.x0 c.x1 c1 (by omega)
  rw [show dcd (c.x1 ≥ endW (fun _ => 0) ds c.x0) = false from js.2 (by omega)]
  exact hJ6
 have hrep : ∀ t, 0 ≤ t → t < (ops.length : Int) → getI (List.replicate ((ops.length : Int)).toNat (0 : Int)) t = some 0 := fun t t0 t1 => by
  obtain ⟨v, hv⟩ : ∃ v, getI (List.replicate ((ops.length : Int)).toNat (0 : Int)) t = some v := ⟨_, fG t0 (by rw [List.length_replicate]; omega)⟩
  rw [hv, jZ hv]
 refine kR (fun _ _ i => ((ds.length : Int) - i).toNat) (fun nx cs i => 0 ≤ i ∧ i ≤ (ds.length : Int) ∧ nx.length = ops.length ∧ (cs.length : Int) ≤ i ∧ ∃ p, (∀ t, 0 ≤ t → t < (ops.length : Int) → getI nx t = some (p t)) ∧ (∀ t, p t ≤ i) ∧ Els ops l p (ds.drop i.toNat) ∧ iT (fun _ => 0) ds = cs ++ iT p (ds.drop i.toNat) ∧ ∀ t, endW (fun _ => 0) ds t = endW p (ds.drop i.toNat) t) (fun _ _ _ r => r = true) ?_ BIG (List.replicate ((ops.length : Int)).toNat 0) [] 0 ⟨by omega, by omega, by simp, by simp, fun _ => 0, hrep, fun t => by simp, by simpa using hw.els, by simp, fun t => by simp⟩ (gp (by omega))
 intro nx cs i k ⟨i0, i1, hnl, hcl, p, hp, hpi, hel, hcs, hend⟩ hk
 unfold wV
 refine Ok.ite (fun hi => ?_) fun hi => ?_
 rotate_left
 ·have hd0 : ds.drop i.toNat = [] := List.drop_eq_nil_of_le (by omega)
  rw [hd0] at hcs hend
  simp only [iT, List.append_nil] at hcs
  rw [← hcs]
  exact hJ1 nx fun t t0 t1 => by rw [hp t t0 t1, hend t]; rfl
 obtain ⟨d, hd⟩ : ∃ d, getI ds i = some d := ⟨_, fG i0 hi⟩
 have hdd := ij hd
 rw [hdd] at hel hcs hend
 refine Ok.bindEq hd ?_
 cases hel with
 | cons ht hb hr hc hfit hrest =>
  obtain ⟨t0, t1⟩ := ht
  have hpt := hp d.thread t0 t1
  have hJ3 : Ok (pe ops l ds nx d (p d.thread) cs (p d.thread) i x k false) fun r => r = true := by
   unfold pe
   rw [if_neg (by decide)]
   refine Ok.bindEq (gl (by simp; omega)) ?_
   have := hpi d.thread
   rw [gh (x := p d.thread + 1) (by omega) (by omega), gh (by omega) (by omega)]
   refine hk _ _ _ ⟨by omega, by omega, by rw [gd]; exact hnl, by simp; omega, ii p d.thread, fun t h0 h1 => ?_, fun t => ?_, hrest, ?_, hend⟩ (by omega)
   ·rw [jY t0 (by omega)]
    unfold ii up
    by_cases e : t = d.thread
    ·rw [if_pos e, if_pos e]
    ·rw [if_neg e, if_neg e]; exact hp t h0 h1
   ·unfold ii up
    have := hpi t
    split <;> omega
   ·rw [hcs, List.append_assoc]; rfl
  refine Ok.ite (fun hh => by omega) fun _ => ?_
  rw [show dcd (d.thread ≥ (ops.length : Int)) = false from js.2 (by omega)]
  unfold so
  rw [if_neg (by decide)]
  refine Ok.bindEq hpt ?_
  refine Ok.bindEq hpt ?_
  refine Ok.bindEq hpt ?_
  refine Ok.bindEq (uw (by omega)) ?_
  refine Ok.ite (fun hh => by omega) fun _ => ?_
  refine Ok.bd2 (Q := fun q => q = kV l d.thread (p d.thread)) ⟨_, kp (by omega), rfl⟩ fun r n hrn => ?_
  have hn' : n = gf l d.thread (p d.thread) true := by rw [← nT, ← hrn]
  have hr' : r = (kV l d.thread (p d.thread)).1 := by rw [← hrn]
  refine Ok.ite (fun h0 => ?_) fun _ => hJ3
  rw [show dcd (r = d.result) = true from ik.2 (by rw [hr']; exact hfit (by omega))]
  exact hJ3
end
theorem my (codes : List Int) (at_ what by_ : Int) (hc : ∀ b ∈ codes, 0 ≤ b ∧ b < 256) : wY codes at_ what by_ = some true := by
 refine Ok.eq ?_
 unfold wY
 refine Ok.bindEq EJ ?_
 rw [if_pos rfl]
 refine Ok.bd3 (DV hc (by omega) (by omega)) fun x ops l ⟨hm, hs, hv⟩ => ?_
 simp only at hm hs hv
 have hll := hm.ev.2
 have hf := DF hm hs hv
 obtain ⟨n, s, hn, hR, hsl, hH⟩ := hm.hs
 refine Ok.bind (Eg hH (by omega)) fun m ⟨hml, hHm⟩ => ?_
 have hboth : ∀ h ∈ [l, m], h.length ≤ 1000 ∧ ∃ N B, Hs ops h N B := by
  intro h hh
  rcases List.mem_cons.1 hh with rfl | hh
  ·exact ⟨by omega, _, _, hH⟩
  ·rw [List.mem_singleton] at hh; subst hh
   exact ⟨by omega, _, _, hHm⟩
 generalize hL : [l, m] = L at *
 have hL2 : L.length = 2 := by rw [← hL]; rfl
 refine jK (fun i => (2 - i).toNat) (fun i => 0 ≤ i ∧ i ≤ 2) (fun _ r => r = true) ?_ BIG 0 ⟨by omega, by omega⟩ (gp (by omega))
 intro i k ⟨i0, i1⟩ hk
 unfold wX
 rw [hL]
 refine Ok.ite (fun hi => ?_) fun hi => ?_
 ·obtain ⟨h, hh⟩ : ∃ h, getI L i = some h := ⟨_, fG i0 hi⟩
  obtain ⟨hhl, N, B, hHh⟩ := hboth h (fV hh)
  have hin := hm.hist hhl
  have hgo : Ok (pV ops l m i x k false) fun r => r = true := by
   unfold pV
   rw [if_neg (by decide), gh (by omega) (by omega)]
   exact hk _ ⟨by omega, by omega⟩ (by omega)
  refine Ok.bindEq hh ?_
  refine Ok.bd2 (zv hin) fun ds b ⟨w1, w2⟩ => ?_
  simp only at w1 w2
  refine Ok.bind (AT hin hHh hf) fun c hc' => ?_
  have hbc : b = c := by
   rw [Bool.eq_iff_iff, hc']
   constructor
   ·intro hb; exact ⟨ds, w1 hb⟩
   ·rintro ⟨ds', hd⟩
    cases b with
    | true => rfl
    | false => exact absurd hd ((w2 rfl).2 ds')
  subst hbc
  rw [if_pos (by simp)]
  refine Ok.ite (fun hb => ?_) fun hb => ?_
  ·have hwy := w1 hb
   have hlen := Fa hwy
   have hrem := hin.rem
   have hwit := Gf hHh hwy uj
   have hp0 : pf (jS ops) = fun _ => 0 := funext fun t => by
    unfold pf
    cases hg : getI (jS ops) t with
    | none => rfl
    | some v => rw [jZ hg]; rfl
   rw [hp0] at hwit
   refine Ok.bindEq (zB hin hHh hm.fine hwit (by omega)) ?_
   exact hgo
  ·have := (w2 (by simpa using hb)).1
   subst this
   rw [if_neg (by simp)]
   exact hgo
 ·unfold wW
  exact Ok.some rfl
end Go.Hx
