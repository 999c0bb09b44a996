
import Derived.Test.YtphoeijgpmlbpaaGreatDoorXYDesk
import Derived.Test.YtphoeijgpmlbpaaGreatDoorHxLoops
import Derived.Test.YtphoeijgpmlbpaaGreatDoorHxIdx
import Derived.Test.YtphoeijgpmlbpaaGreatDoorXYNum
set_option linter.unusedVariables false
set_option linter.unusedSimpArgs false
namespace Go.Hx
open Go
def und : List Bool → Nat
 | [] => 0
 | b :: r => (if b = true then 0 else 1) + und r
theorem BR : ∀ {d : List Bool} {i : Nat}, d[i]? = some false → und (d.set i true) + 1 = und d
 | [], _, h => by simp at h
 | b :: d, 0, h => by simp at h; subst h; simp [und]; omega
 | b :: d, i + 1, h => by
  have := BR (d := d) (i := i) (by simpa using h)
  simp only [List.set_cons_succ, und]; omega
theorem zC {d : List Bool} {i : Int} (h : getI d i = some false) : und (gb d i true) + 1 = und d := BR (fR h).2.1
theorem j5 : ∀ (d : List Bool) (n : Nat), und (d.take n) ≤ und d
 | [], n => by simp
 | b :: d, 0 => by simp [und]
 | b :: d, n + 1 => by
  have := j5 d n
  simp only [List.take_succ_cons, und]; omega
theorem zD : ∀ {d : List Bool} {i : Nat} {b : Bool}, d[i]? = some b → und (d.take (i + 1)) = und (d.take i) + if b = true then 0 else 1
 | [], _, _, h => by simp at h
 | c :: d, 0, b, h => by simp at h; subst h; simp [und]
 | c :: d, i + 1, b, h => by
  have := zD (d := d) (i := i) (b := b) (by simpa using h)
  simp only [List.take_succ_cons, und]; omega
theorem vc {d : List Bool} {i : Int} {b : Bool} (h : getI d i = some b) : und (d.take (i + 1).toNat) = und (d.take i.toNat) + if b = true then 0 else 1 := by
 obtain ⟨h0, h1, _⟩ := fR h
 rw [show (i + 1).toNat = i.toNat + 1 by omega]
 exact zD h1
def fS : Nat → Nat
 | 0 => 1
 | 1 => 7
 | n + 2 => 1 + (n + 2) * (6 * fS (n + 1) + (n + 2) * fS n)
def g1 : Nat → Nat
 | 0 => 0
 | n + 1 => fS n
def g2 : Nat → Nat
 | n + 2 => fS n
 | _ => 0
def wS (u : Nat) : Nat := 6 * g1 u + u * g2 u
theorem F9 : ∀ u : Nat, fS u = 1 + u * wS u
 | 0 => rfl
 | 1 => rfl
 | n + 2 => rfl
theorem GG (u : Nat) : 1 ≤ fS u := by rw [F9]; omega
theorem g1_eq {u v : Nat} (h : v + 1 = u) : g1 u = fS v := by subst h; rfl
theorem g2_eq {u v : Nat} (h : v + 2 = u) : g2 u = fS v := by subst h; rfl
theorem nF {α : Type} (l : List α) (i : Int) (x : α) : (gb l i x).length = l.length := gk
section
variable (ops : List (List Op)) (calls : List A2Int) (before : List (List Bool)) (back : List Bool) (result : List Result) (cl : Bool) (acc : List fL → Prop) (caps : List Int)
def C9 (t : ByteArray) : Prop := ∀ d C, d.length = calls.length → Ch56 caps C → stB d C = t → ¬ kB ops calls before back result cl acc d C
def OldT (u : Nat) (t : ByteArray) : Prop := ∀ d C, d.length = calls.length → Ch56 caps C → stB d C = t → u < und d
structure yq (d : List Bool) (C : List fL) (seen : List ByteArray) (r : Bool × List ByteArray) : Prop where
 yes : r.1 = true → kB ops calls before back result cl acc d C
 no : r.1 = false → ¬ kB ops calls before back result cl acc d C ∧ ∃ new, r.2 = seen ++ new ∧ new.length ≤ fS (und d) ∧ ∀ t ∈ new, C9 ops calls before back result cl acc caps t
def SinceT (s0 : List ByteArray) (m : Nat) (s : List ByteArray) : Prop := ∃ new, s = s0 ++ new ∧ new.length ≤ m ∧ ∀ t ∈ new, C9 ops calls before back result cl acc caps t
structure C7 (d : List Bool) (C : List fL) (i : Int) : Prop where
 one : ∀ o r, lb before back cl d i → opA ops calls i = some o → r ∈ uL back result o C i → (gx C o r).2 = true → ¬ kB ops calls before back result cl acc (gb d i true) (gx C o r).1
 two : ∀ k a b x y, i < k → lb before back cl d i → lb before back cl d k → opA ops calls i = some a → opA ops calls k = some b → (hY C a x b y || hY C b y a x) = true → kg back result i x → kg back result k y → ¬ kB ops calls before back result cl acc (gb (gb d i true) k true) C
end
section
variable {ops : List (List Op)} {l : List Event} {calls : List A2Int} {before : List (List Bool)} {back : List Bool} {result : List Result} {cl : Bool} {acc : List fL → Prop} {caps : List Int}
theorem SinceT.mono {s0 s : List ByteArray} {m m' : Nat} (h : SinceT ops calls before back result cl acc caps s0 m s) (hm : m ≤ m') : SinceT ops calls before back result cl acc caps s0 m' s := by
 obtain ⟨new, h1, h2, h3⟩ := h
 exact ⟨new, h1, by omega, h3⟩
theorem GQ {d : List Bool} {C : List fL} (hs : ¬ ((∀ i, getI back i = some true → getI d i = some true) ∧ acc C)) (h : ∀ i, 0 ≤ i → i < (d.length : Int) → C7 ops calls before back result cl acc d C i) : ¬ kB ops calls before back result cl acc d C := by
 intro hw
 cases hw with
 | stop h1 h2 => exact hs ⟨h1, h2⟩
 | one hm ho hr ha hw => exact (h _ (gi hm.un).1 (gi hm.un).2).one _ _ hm ho hr ha hw
 | two hik hi hk ha hb hp hx hy hw => exact (h _ (gi hi.un).1 (gi hi.un).2).two _ _ _ _ _ hik hi hk ha hb hp hx hy hw
theorem BH {st : Bool} (h : Sea ops calls before back result) (hcap : caps.length ≤ 10) (hfin : ∀ d C seen, d.length = calls.length → Ch56 caps C → Ok (sF ops l calls before back result cl st seen d C) fun b => b = true ↔ (∀ i, getI back i = some true → getI d i = some true) ∧ acc C) : ∀ (fu : Nat) (d : List Bool) (C : List fL) (seen : List ByteArray), d.length = calls.length → Ch56 caps C → und d < fu → seen.length + fS (und d) ≤ 4294967296 → (∀ t ∈ seen, C9 ops calls before back result cl acc caps t ∨ OldT calls caps (und d) t) → Ok (pV fu ops l calls before back result cl st seen d C) fun r => yq ops calls before back result cl acc caps d C seen r
 | 0, _, _, _, _, _, h, _, _ => by omega
 | fu + 1, d, C, seen, hd, hC, hfu, hlen, hseen => by
  have ih := fun d C seen => BH h hcap hfin fu d C seen
  have hn := h.n
  have hfp := GG (und d)
  show Ok (sB (pV fu) ops l calls before back result cl st seen d C) _
  generalize hrc : pV fu = rc at *
  unfold sB
  refine Ok.bind (hfin d C seen hd hC) fun b hb => ?_
  refine Ok.ite (fun hbt => Ok.some ⟨fun _ => .stop (hb.1 hbt).1 (hb.1 hbt).2, fun h => (by cases h)⟩) fun hbf => ?_
  have hns : ¬ ((∀ i, getI back i = some true → getI d i = some true) ∧ acc C) := fun hh => hbf (hb.2 hh)
  refine Ok.bindEq (E6 (by omega) hC hcap) ?_
  refine Ok.bd2 (EK (by omega)) fun kb s2 ⟨hk1, hk2⟩ => ?_
  simp only at hk1 hk2
  refine Ok.ite (fun hkt => ?_) fun hkf => ?_
  ·obtain ⟨hm, hs2⟩ := hk1 hkt
   subst hs2
   have hdead : ¬ kB ops calls before back result cl acc d C := by
    rcases hseen _ hm with hD | hO
    ·exact hD d C hd hC rfl
    ·exact absurd (hO d C hd hC rfl) (Nat.lt_irrefl _)
   exact Ok.some ⟨fun h => (by cases h), fun _ => ⟨hdead, [], by simp, by simp, by simp⟩⟩
  obtain ⟨hnm, hs2⟩ := hk2 (by simpa using hkf)
  subst hs2
  have hfu2 := F9 (und d)
  generalize hu : und d = u at *
  have hinj : ∀ d' C', d'.length = calls.length → Ch56 caps C' → stB d' C' = stB d C → d' = d ∧ C' = C := fun d' C' h1 h2 h3 => F7 (by omega) h2 hC h3
  have hchild : ∀ (d' : List Bool) (C' : List fL) (s : List ByteArray) (m : Nat), SinceT ops calls before back result cl acc caps (seen ++ [stB d C]) m s → d'.length = calls.length → Ch56 caps C' → und d' < u → m + fS (und d') ≤ u * wS u → Ok (rc ops l calls before back result cl st s d' C') fun r => (r.1 = true → kB ops calls before back result cl acc d' C') ∧ (r.1 = false → ¬ kB ops calls before back result cl acc d' C' ∧ SinceT ops calls before back result cl acc caps (seen ++ [stB d C]) (m + fS (und d')) r.2) := by
   intro d' C' s m hI hd' hC' hlt hm
   obtain ⟨new, rfl, hl, hD⟩ := hI
   refine (ih d' C' _ hd' hC' (by omega) (by simp; omega) fun t ht => ?_).mono fun r hr => ⟨hr.yes, fun hb => ?_⟩
   ·rcases List.mem_append.1 ht with ht | ht
    ·rcases List.mem_append.1 ht with ht | ht
     ·rcases hseen t ht with h1 | h1
      ·exact .inl h1
      ·exact .inr fun d2 C2 e1 e2 e3 => Nat.lt_trans hlt (h1 d2 C2 e1 e2 e3)
     ·rw [List.mem_singleton] at ht
      refine .inr fun d2 C2 e1 e2 e3 => ?_
      rw [(hinj d2 C2 e1 e2 (by rw [e3, ht])).1, hu]; exact hlt
    ·exact .inl (hD t ht)
   ·obtain ⟨h1, new', h2, h3, h4⟩ := hr.no hb
    refine ⟨h1, new ++ new', by rw [h2]; simp [List.append_assoc], by simp; omega, fun t ht => ?_⟩
    rcases List.mem_append.1 ht with ht | ht
    ·exact hD t ht
    ·exact h4 t ht
  have hfinal : ∀ s m, SinceT ops calls before back result cl acc caps (seen ++ [stB d C]) m s → m ≤ u * wS u → ¬ kB ops calls before back result cl acc d C → yq ops calls before back result cl acc caps d C seen (false, s) := by
   intro s m hI hm hno
   obtain ⟨new, rfl, hl, hD⟩ := hI
   refine ⟨fun h => (by cases h), fun _ => ⟨hno, stB d C :: new, by simp, by rw [hu, hfu2]; simp; omega, fun t ht => ?_⟩⟩
   rcases List.mem_cons.1 ht with rfl | ht
   ·intro d2 C2 e1 e2 e3
    obtain ⟨rfl, rfl⟩ := hinj d2 C2 e1 e2 e3
    exact hno
   ·exact hD t ht
  refine io (fun i _ => ((d.length : Int) - i).toNat) (fun i s => 0 ≤ i ∧ i ≤ (d.length : Int) ∧ SinceT ops calls before back result cl acc caps (seen ++ [stB d C]) (und (d.take i.toNat) * wS u) s ∧ ∀ i', 0 ≤ i' → i' < i → C7 ops calls before back result cl acc d C i') (fun _ _ r => yq ops calls before back result cl acc caps d C seen r) ?_ BIG 0 (seen ++ [stB d C]) ⟨by omega, by omega, ⟨[], by simp, by simp, by simp⟩, fun i' h0 h1 => by omega⟩ (gn (by omega))
  intro i s k ⟨i0, i1, hI, hdead⟩ hk
  unfold xq
  refine Ok.ite (fun hi => ?_) fun hi => ?_
  rotate_left
  ·unfold xj
   refine Ok.some (hfinal s _ hI (Nat.mul_le_mul_right _ (by rw [← hu]; exact j5 _ _)) (GQ hns fun i' h0 h1 => hdead i' h0 (by omega)))
  obtain ⟨di, hdi⟩ : ∃ b, getI d i = some b := ⟨_, fK i0 hi⟩
  have htk := vc hdi
  have hcle := j5 d (i + 1).toNat
  rw [hu] at hcle
  refine Ok.bind (ER h hd i0 (by omega)) fun mb hmb => ?_
  have hJ2 : ∀ s', SinceT ops calls before back result cl acc caps (seen ++ [stB d C]) (und (d.take (i + 1).toNat) * wS u) s' → C7 ops calls before back result cl acc d C i → Ok (pe d C i ops l calls before back result cl st k rc s') fun r => yq ops calls before back result cl acc caps d C seen r := fun s' h1 h2 => by
   unfold pe
   rw [gl (by omega) (by omega)]
   refine hk _ _ ⟨by omega, by omega, h1, fun i' h0 h3 => ?_⟩ (by omega)
   by_cases e : i' = i
   ·subst e; exact h2
   ·exact hdead i' h0 (by omega)
  refine Ok.ite (fun hmt => ?_) fun hmf => ?_
  rotate_left
  ·have hno : ¬ lb before back cl d i := fun hh => hmf (hmb.2 hh)
   exact hJ2 s (hI.mono (Nat.mul_le_mul_right _ (by rw [htk]; omega))) ⟨fun o r hM => absurd hM hno, fun k a b x y _ hM => absurd hM hno⟩
  have hM := hmb.1 hmt
  have hdf := hM.un
  rw [hdi] at hdf; cases hdf
  rw [if_neg (by decide)] at htk
  generalize hc : und (d.take i.toNat) = c at *
  have hAw : (c + 1) * wS u ≤ u * wS u := Nat.mul_le_mul_right _ (by omega)
  rw [Nat.succ_mul] at hAw
  have hwS : wS u = 6 * g1 u + u * g2 u := rfl
  obtain ⟨o, ho, hom, hov, hoc⟩ := h.op i i0 (by omega)
  refine Ok.bindEq (AL h hC.w.ok i0 (by omega) ho hom) ?_
  have hrl : (uL back result o C i).length ≤ 6 := by
   unfold uL; split
   ·simp
   ·exact CB hoc
  have hu1 := zC hdi
  rw [hu] at hu1
  have hg1 := g1_eq hu1
  have hd1 : (gb d i true).length = calls.length := by rw [nF]; exact hd
  generalize hA : c * wS u = A at *
  generalize hrs : uL back result o C i = rs at *
  refine io (fun n _ => ((rs.length : Int) - n).toNat) (fun n s => 0 ≤ n ∧ n ≤ (rs.length : Int) ∧ SinceT ops calls before back result cl acc caps (seen ++ [stB d C]) (A + n.toNat * g1 u) s ∧ ∀ r ∈ rs.take n.toNat, (gx C o r).2 = true → ¬ kB ops calls before back result cl acc (gb d i true) (gx C o r).1) (fun _ _ r => yq ops calls before back result cl acc caps d C seen r) ?_ BIG 0 s ⟨by omega, by omega, hI.mono (by omega), by simp⟩ (gn (by omega))
  intro n s k2 ⟨n0, n1, hI, hdn⟩ hk2
  unfold xp
  refine Ok.ite (fun hnl => ?_) fun hnl => ?_
  ·obtain ⟨r, hr⟩ : ∃ r, getI rs n = some r := ⟨_, fK n0 hnl⟩
   have hng : n.toNat * g1 u + g1 u ≤ 6 * g1 u := by
    rw [← Nat.succ_mul]; exact Nat.mul_le_mul_right _ (by omega)
   have hn1 : (n + 1).toNat * g1 u = n.toNat * g1 u + g1 u := by
    rw [show (n + 1).toNat = n.toNat + 1 by omega, Nat.succ_mul]
   rw [zm]
   refine Ok.bindEq ho ?_
   refine Ok.bindEq hr ?_
   refine Ok.bd2 (Q := fun z => z = gx C o r) ⟨_, nJ hC.w.ok hom, rfl⟩ fun C' ok' hC' => ?_
   have e1 : (gx C o r).1 = C' := by rw [← hC']
   have e2 : (gx C o r).2 = ok' := by rw [← hC']
   have hgo : ∀ s', SinceT ops calls before back result cl acc caps (seen ++ [stB d C]) (A + (n + 1).toNat * g1 u) s' → ((gx C o r).2 = true → ¬ kB ops calls before back result cl acc (gb d i true) (gx C o r).1) → Ok (tq d C i rs n ops l calls before back result cl st k k2 rc false s') fun r => yq ops calls before back result cl acc caps d C seen r := fun s' h1 h2 => by
    unfold tq
    rw [if_neg (by decide), gl (by omega) (by omega)]
    refine hk2 _ _ ⟨by omega, by omega, h1, fun r' hr' => ?_⟩ (by omega)
    rw [ii hr] at hr'
    rcases List.mem_append.1 hr' with hr' | hr'
    ·exact hdn r' hr'
    ·rw [List.mem_singleton] at hr'; subst hr'; exact h2
   refine Ok.ite (fun hok => ?_) fun hok => ?_
   rotate_left
   ·exact hgo s (hI.mono (by omega)) fun h => absurd (by rw [← e2]; exact h) hok
   have hap : (gx C o r).2 = true := by rw [e2]; exact hok
   have hCn := hC.apply hov hap
   rw [e1] at hCn
   refine Ok.bindEq (ye (by omega) i0 hi) ?_
   refine Ok.bd2 (hchild _ C' s _ hI hd1 hCn (by omega) (by omega)) fun b s3 ⟨q1, q2⟩ => ?_
   simp only at q1 q2
   cases b with
   | true =>
    unfold tq
    rw [if_pos rfl]
    exact Ok.some ⟨fun _ => .one hM ho (by rw [hrs]; exact fX hr) hap (by rw [e1]; exact q1 rfl), fun h => (by cases h)⟩
   | false =>
    obtain ⟨q3, q4⟩ := q2 rfl
    exact hgo s3 (q4.mono (by omega)) fun _ => by rw [e1]; exact q3
  unfold xm
  rw [gl (by omega) (by omega)]
  have hn6 : n.toNat * g1 u ≤ 6 * g1 u := Nat.mul_le_mul_right _ (by omega)
  have hone : ∀ o' r, lb before back cl d i → opA ops calls i = some o' → r ∈ uL back result o' C i → (gx C o' r).2 = true → ¬ kB ops calls before back result cl acc (gb d i true) (gx C o' r).1 := fun o' r _ ho' hr' ha => by
   rw [ho] at ho'; cases ho'
   rw [hrs] at hr'
   exact hdn r (by rw [List.take_of_length_le (by omega)]; exact hr') ha
  refine io (fun j _ => ((d.length : Int) - j).toNat) (fun j s => i + 1 ≤ j ∧ j ≤ (d.length : Int) ∧ SinceT ops calls before back result cl acc caps (seen ++ [stB d C]) (A + 6 * g1 u + und (d.take j.toNat) * g2 u) s ∧ ∀ k', k' < j → ∀ a b x y, i < k' → lb before back cl d i → lb before back cl d k' → opA ops calls i = some a → opA ops calls k' = some b → (hY C a x b y || hY C b y a x) = true → kg back result i x → kg back result k' y → ¬ kB ops calls before back result cl acc (gb (gb d i true) k' true) C) (fun _ _ r => yq ops calls before back result cl acc caps d C seen r) ?_ BIG (i + 1) s ⟨by omega, by omega, hI.mono (by omega), fun k' hk' a b x y hik => by omega⟩ (gn (by omega))
  intro j s k3 ⟨j0, j1, hI, hdj⟩ hk3
  unfold xl
  refine Ok.ite (fun hj => ?_) fun hj => ?_
  rotate_left
  ·refine hJ2 s (hI.mono ?_) ⟨hone, fun k' a b x y hik h1 h2 => hdj k' (by have := (gi h2.un).2; omega) a b x y hik h1 h2⟩
   have h9 : und (d.take j.toNat) * g2 u ≤ u * g2 u := Nat.mul_le_mul_right _ (by rw [← hu]; exact j5 _ _)
   rw [htk, show (c + 1) * wS u = c * wS u + wS u from Nat.succ_mul _ _, hA]; omega
  obtain ⟨dj, hdj'⟩ : ∃ b, getI d j = some b := ⟨_, fK (by omega) hj⟩
  have htj := vc hdj'
  have hjle : und (d.take (j + 1).toNat) * g2 u ≤ u * g2 u := Nat.mul_le_mul_right _ (by rw [← hu]; exact j5 _ _)
  have hgo : ∀ s', SinceT ops calls before back result cl acc caps (seen ++ [stB d C]) (A + 6 * g1 u + und (d.take (j + 1).toNat) * g2 u) s' → (∀ a b x y, lb before back cl d j → opA ops calls i = some a → opA ops calls j = some b → (hY C a x b y || hY C b y a x) = true → kg back result i x → kg back result j y → ¬ kB ops calls before back result cl acc (gb (gb d i true) j true) C) → Ok (pU d C i j ops l calls before back result cl st k k3 rc false s') fun r => yq ops calls before back result cl acc caps d C seen r := fun s' h1 h2 => by
   unfold pU
   rw [if_neg (by decide), gl (by omega) (by omega)]
   refine hk3 _ _ ⟨by omega, by omega, h1, fun k' hk' a b x y hik g1' g2' g3 g4 g5 g6 g7 => ?_⟩ (by omega)
   by_cases e : k' = j
   ·subst e; exact h2 a b x y g2' g3 g4 g5 g6 g7
   ·exact hdj k' (by omega) a b x y hik g1' g2' g3 g4 g5 g6 g7
  have hsame : und (d.take j.toNat) * g2 u ≤ und (d.take (j + 1).toNat) * g2 u := Nat.mul_le_mul_right _ (by rw [htj]; omega)
  refine Ok.bind (ER h hd (by omega) (by omega)) fun mj hmj => ?_
  refine Ok.ite (fun hmjt => ?_) fun hmjf => ?_
  rotate_left
  ·exact hgo s (hI.mono (by omega)) fun a b x y hMj => absurd (hmj.2 hMj) hmjf
  have hMj := hmj.1 hmjt
  have hdf := hMj.un
  rw [hdj'] at hdf; cases hdf
  rw [if_neg (by decide)] at htj
  rw [htj, Nat.succ_mul] at hjle
  obtain ⟨o2, ho2, hom2, hov2, hoc2⟩ := h.op j (by omega) (by omega)
  refine Ok.bind (FX h i0 (by omega) (by omega) (by omega) ho hom ho2 hom2) fun mt hmt2 => ?_
  refine Ok.ite (fun hmtt => ?_) fun hmtf => ?_
  rotate_left
  ·refine hgo s (hI.mono (by omega)) fun a b x y _ g3 g4 g5 g6 g7 => ?_
   rw [ho] at g3; cases g3
   rw [ho2] at g4; cases g4
   exact absurd (hmt2.2 ⟨x, y, g5, g6, g7⟩) hmtf
  refine Ok.bindEq (ye (by omega) i0 hi) ?_
  refine Ok.bindEq (ye (by rw [nF]; omega) (by omega) (by rw [nF]; omega)) ?_
  have hdj2 : getI (gb d i true) j = some false := by
   rw [kq i0 hi, if_neg (by omega)]; exact hdj'
  have hu2 := zC hdj2
  have hg2 := g2_eq (u := u) (v := und (gb (gb d i true) j true)) (by omega)
  refine Ok.bd2 (hchild _ C s _ hI (by rw [nF]; exact hd1) hC (by omega) (by omega)) fun b s3 ⟨q1, q2⟩ => ?_
  simp only at q1 q2
  cases b with
  | true =>
   unfold pU
   rw [if_pos rfl]
   obtain ⟨x, y, g5, g6, g7⟩ := hmt2.1 hmtt
   exact Ok.some ⟨fun _ => .two (by omega) hM hMj ho ho2 g5 g6 g7 (q1 rfl), fun h => (by cases h)⟩
  | false =>
   obtain ⟨q3, q4⟩ := q2 rfl
   refine hgo s3 (q4.mono ?_) fun a b x y _ _ _ _ _ _ => q3
   rw [htj, show (und (d.take j.toNat) + 1) * g2 u = und (d.take j.toNat) * g2 u + g2 u from Nat.succ_mul _ _]; omega
end
def gg (l : List Event) : List A2Int := (l.filter fun e => !e.ret).map fun e => A2Int.mk e.thread e.op
theorem ku (l : List Event) : (gg l).length ≤ l.length := by unfold gg; rw [List.length_map]; exact List.length_filter_le _ _
theorem CN {l : List Event} {c : A2Int} : c ∈ gg l ↔ ∃ e ∈ l, isE c.x0 c.x1 false e = true := by
 unfold gg
 simp only [List.mem_map, List.mem_filter]
 constructor
 ·rintro ⟨e, ⟨h1, h2⟩, rfl⟩
  exact ⟨e, h1, by simpa [isE] using h2⟩
 ·rintro ⟨e, h1, h2⟩
  simp [isE] at h2
  exact ⟨e, ⟨h1, by simp [h2.2.2]⟩, by obtain ⟨x0, x1⟩ := c; simp at h2; simp [h2]⟩
theorem zr (l : List Event) (t o : Int) (b : Bool) : pP l t o b = pC l t o b := by
 unfold pP pC
 have : r6 l t o b = sH t o b l := by
  funext k i
  unfold r6 sH
  cases h : getI l i <;> simp [wx, qM, oQ, sG]
 rw [this]
theorem mH {l : List Event} {t o : Int} {b : Bool} (hl : l.length ≤ 1000000000) : pP l t o b = some (gj l t o b) := by rw [zr, pp hl]
theorem qq {l : List Event} {t o : Int} (hl : l.length ≤ 1000000000) : r7 l t o = some (mn l t o) := by
 rw [← lG hl]
 unfold r7 sJ
 rw [zr]
def lX (l : List Event) (a b : A2Int) : Bool := decide (0 ≤ gj l a.x0 a.x1 true) && (decide (0 ≤ gj l b.x0 b.x1 false) && decide (gj l a.x0 a.x1 true < gj l b.x0 b.x1 false))
theorem qp {l : List Event} {a b : A2Int} (hl : l.length ≤ 1000000000) : sa l a b = some (lX l a b) := by
 unfold sa lX oR
 rw [mH hl, mH hl]
 simp only [Option.bind_some, ge_iff_le]
 split
 ·split
  ·rename_i h1 h2; simp [h1, h2, gU]
  ·rename_i h1 h2; simp [h1, h2]
 ·rename_i h1; simp [h1]
theorem yg {l : List Event} (hl : l.length ≤ 1000000000) : oL l = some (gg l) := by
 unfold oL gg
 have key : ∀ n p i, (0 ≤ i ∧ i ≤ (l.length : Int) ∧ (p.length : Int) ≤ i) → ((l.length : Int) - i).toNat < n → Ok (lp2 (s1 l) n p i) (fun r => r = p ++ ((l.drop i.toNat).filter fun e => !e.ret).map fun e => A2Int.mk e.thread e.op) := by
  refine io (fun _ i => ((l.length : Int) - i).toNat) (fun p i => 0 ≤ i ∧ i ≤ (l.length : Int) ∧ (p.length : Int) ≤ i) (fun p i r => r = p ++ ((l.drop i.toNat).filter fun e => !e.ret).map fun e => A2Int.mk e.thread e.op) ?_
  intro p i k ⟨h0, h1, hp⟩ hk
  unfold s1
  refine Ok.ite (fun h => ?_) fun h => ?_
  ·have hg := fK h0 h
   rw [hg]
   simp only [Option.bind_some]
   rw [ig hg]
   generalize l[i.toNat]'(by omega) = e at *
   rw [gl (x := i + 1) (by omega) (by omega)]
   refine Ok.ite (fun h2 => ?_) fun h2 => ?_
   ·refine (hk p (i + 1) ⟨by omega, by omega, by omega⟩ (by omega)).mono fun r hr => ?_
    rw [hr, List.filter_cons, if_neg (by simp [h2])]
   ·rw [gm (by simp; omega)]
    simp only [Option.bind_some]
    refine (hk _ (i + 1) ⟨by omega, by omega, by simp; omega⟩ (by omega)).mono fun r hr => ?_
    rw [hr, List.filter_cons, if_pos (by simpa using h2)]
    simp
  ·unfold rM
   refine Ok.some ?_
   rw [List.drop_eq_nil_of_le (by omega)]; simp
 simpa using (key BIG [] 0 ⟨by omega, by omega, by simp⟩ (gn (by omega))).eq
theorem xY {l : List Event} (hl : l.length ≤ 1000000000) : r5 l = some (gg l) := by
 rw [← yg hl]
 unfold r5 oL
 have : r4 l = s1 l := by
  funext k p i
  unfold r4 s1
  cases h : getI l i <;> simp [ww, rM]
 rw [this]
def iS (l : List Event) : List (List Bool) := (gg l).map fun a => (gg l).map fun b => lX l a b
def jk (l : List Event) : List Bool := (gg l).map fun c => dcd (gj l c.x0 c.x1 true ≥ 0)
def iZ (l : List Event) : List Result := (gg l).map fun c => (mn l c.x0 c.x1).1
theorem jJ {α β : Type} {f : α → β} {l : List α} {i : Int} : getI (l.map f) i = (getI l i).map f := by
 by_cases h : 0 ≤ i
 ·obtain ⟨k, rfl⟩ : ∃ k : Nat, i = (k : Int) := ⟨i.toNat, by omega⟩
  rw [iq, iq, List.getElem?_map]
 ·rw [gI (.inl (by omega)), gI (.inl (by omega))]; rfl
theorem E5 {ops : List (List Op)} {l : List Event} {cl st : Bool} (hl : l.length ≤ 100000) : sb ops l cl st = some (ops, l, gg l, iS l, jk l, iZ l, cl, st) := by
 refine Ok.eq ?_
 have hcl := ku l
 unfold sb
 refine Ok.bindEq (xY (by omega)) ?_
 generalize hcs : gg l = cs at *
 have hB : iS l = cs.map fun a => cs.map fun b => lX l a b := by unfold iS; rw [hcs]
 have hK : jk l = cs.map fun c => dcd (gj l c.x0 c.x1 true ≥ 0) := by unfold jk; rw [hcs]
 have hR : iZ l = cs.map fun c => (mn l c.x0 c.x1).1 := by unfold iZ; rw [hcs]
 refine ue (fun i _ _ _ => ((cs.length : Int) - i).toNat) (fun i be ba re => 0 ≤ i ∧ i ≤ (cs.length : Int) ∧ be = (cs.take i.toNat).map (fun a => cs.map fun b => lX l a b) ∧ ba = (cs.take i.toNat).map (fun c => dcd (gj l c.x0 c.x1 true ≥ 0)) ∧ re = (cs.take i.toNat).map (fun c => (mn l c.x0 c.x1).1)) (fun _ _ _ _ r => r = (ops, l, cs, iS l, jk l, iZ l, cl, st)) ?_ BIG 0 [] [] [] ⟨by omega, by omega, by simp, by simp, by simp⟩ (gn (by omega))
 intro i be ba re k ⟨i0, i1, h1, h2, h3⟩ hk
 unfold wG
 refine Ok.ite (fun hi => ?_) fun hi => ?_
 rotate_left
 ·unfold wy
  refine Ok.some ?_
  rw [h1, h2, h3, hB, hK, hR, List.take_of_length_le (by omega)]
 obtain ⟨c, hc⟩ : ∃ c, getI cs i = some c := ⟨_, fK i0 hi⟩
 have htk := ii hc
 refine Ok.bindEq hc ?_
 refine Ok.bindEq hc ?_
 refine Ok.bd2 (Q := fun x => x = mn l c.x0 c.x1) ⟨_, qq (by omega), rfl⟩ fun r n hrn => ?_
 have hr : r = (mn l c.x0 c.x1).1 := by rw [← hrn]
 have hn : n = gj l c.x0 c.x1 true := by rw [← uu, ← hrn]
 unfold wF
 refine Ok.bindEq (gm (by rw [h2]; simp; omega)) ?_
 refine Ok.bindEq (gm (by rw [h3]; simp; omega)) ?_
 unfold wE
 refine Ok.bindEq (ke (by omega) (by omega)) ?_
 refine io (fun _ j => ((cs.length : Int) - j).toNat) (fun row j => 0 ≤ j ∧ j ≤ (cs.length : Int) ∧ row.length = cs.length ∧ ∀ q b, q < j → getI cs q = some b → getI row q = some (lX l c b)) (fun _ _ r => r = (ops, l, cs, iS l, jk l, iZ l, cl, st)) ?_ BIG (List.replicate ((cs.length : Int)).toNat false) 0 ⟨by omega, by omega, by simp, fun q b hq hb => by have := (gi hb).1; omega⟩ (gn (by omega))
 intro row j k2 ⟨j0, j1, g1, g2⟩ hk2
 unfold wC
 refine Ok.ite (fun hj => ?_) fun hj => ?_
 ·obtain ⟨b, hb⟩ : ∃ b, getI cs j = some b := ⟨_, fK j0 hj⟩
  refine Ok.bindEq hc ?_
  refine Ok.bindEq hb ?_
  refine Ok.bindEq (qp (by omega)) ?_
  refine Ok.bindEq (fK j0 (by omega)) ?_
  rw [gl (by omega) (by omega)]
  refine hk2 _ _ ⟨by omega, by omega, by rw [gk]; exact g1, fun q b' hq hb' => ?_⟩ (by omega)
  rw [kq j0 (by omega)]
  by_cases e : q = j
  ·subst e; rw [hb] at hb'; cases hb'; rw [if_pos rfl]
  ·rw [if_neg e]; exact g2 q b' (by omega) hb'
 ·unfold wA
  have hrow : row = cs.map fun b => lX l c b := by
   refine tZ fun q hq => ?_
   rw [jJ]
   by_cases h : q < (cs.length : Int)
   ·obtain ⟨b, hb⟩ : ∃ b, getI cs q = some b := ⟨_, fK hq h⟩
    rw [hb, g2 q b (by omega) hb]; rfl
   ·rw [gI (.inr (by omega)), gI (.inr (by omega))]; rfl
  refine Ok.bindEq (gm (by rw [h1]; simp; omega)) ?_
  unfold wz
  rw [gl (by omega) (by omega)]
  refine hk _ _ _ _ ⟨by omega, by omega, ?_, ?_, ?_⟩ (by omega)
  ·rw [htk, List.map_append, h1, hrow]; rfl
  ·rw [htk, List.map_append, h2, hn]; rfl
  ·rw [htk, List.map_append, h3, hr]; rfl
section
variable {ops : List (List Op)} {l : List Event} {N : Int → Int} {B : Int → Bool}
theorem y9 {e : Event} {t o : Int} {b : Bool} (h : gj l t o b < 0) (he : ¬ isE t o b e = true) : gj (l ++ [e]) t o b < 0 := by
 refine tH.2 fun x hx => ?_
 rcases List.mem_append.1 hx with hx | hx
 ·exact tH.1 h x hx
 ·rw [List.mem_singleton] at hx; subst hx; simpa using he
theorem Hs.ord (h : Hs ops l N B) : ∀ t j k, 0 ≤ j → j < k → 0 ≤ gj l t k false → 0 ≤ gj l t j true ∧ gj l t j true < gj l t k false := by
 induction h with
 | nil => intro t j k _ _ h; have : gj [] t k false = -1 := rfl; omega
 | @call l N B u r h hr hb hn ih =>
  intro t j k h0 h1 hk
  by_cases hc : 0 ≤ gj l t k false
  ·obtain ⟨g1, g2⟩ := ih t j k h0 h1 hc
   rw [lP g1, lP hc]; exact ⟨g1, g2⟩
  ·by_cases he : isE t k false (Event.mk u (N u) false BV) = true
   ·obtain ⟨e1, e2, _⟩ := nD.1 he
    simp only at e1 e2
    subst e1
    have hrt := mg.2 (h.returned u j h0 (by omega))
    have hlt := (mf l u j true).2
    rw [lP hrt, EE (by omega) he]
    exact ⟨hrt, by omega⟩
   ·have := y9 (l := l) (show gj l t k false < 0 by omega) he
    omega
 | @ret l N B u r x h hr hb ih =>
  intro t j k h0 h1 hk
  have hc : 0 ≤ gj l t k false := by
   refine Int.not_lt.1 fun hc => ?_
   have := y9 (e := Event.mk u (N u) true x) hc (by simp [isE])
   omega
  obtain ⟨g1, g2⟩ := ih t j k h0 h1 hc
  rw [lP g1, lP hc]; exact ⟨g1, g2⟩
theorem FU {t o t' o' : Int} (h1 : 0 ≤ gj l t o true) (h2 : 0 ≤ gj l t' o' false) : gj l t o true ≠ gj l t' o' false := by
 intro e
 unfold gj at h1 h2 e
 rcases kw (isE t o true) l 0 (by omega) with ⟨a1, _⟩ | ⟨_, _, x, a3, a4⟩
 ·omega
 rcases kw (isE t' o' false) l 0 (by omega) with ⟨b1, _⟩ | ⟨_, _, y, b3, b4⟩
 ·omega
 rw [e, b3] at a3
 cases a3
 have := (nD.1 a4).2.2
 rw [(nD.1 b4).2.2] at this; cases this
theorem i8 {c : A2Int} : c ∈ gg l ↔ 0 ≤ gj l c.x0 c.x1 false := by rw [CN, mg]
theorem Hs.called_ops (h : Hs ops l N B) {t k : Int} (hc : 0 ≤ gj l t k false) : 0 ≤ k ∧ (k < N t ∨ k = N t ∧ B t = true) ∧ ∃ r o, getI ops t = some r ∧ getI r k = some o := by
 have hN := h.nonneg t
 obtain ⟨e, he, hE⟩ := mg.1 hc
 obtain ⟨e1, e2, e3⟩ := nD.1 hE
 obtain ⟨⟨r, hr⟩, h0, h2⟩ := h.mem e he
 rw [e1] at hr h2
 rw [e2] at h0 h2
 refine ⟨h0, ?_, ?_⟩
 ·rcases h2 with h2 | ⟨h2, _, h3⟩
  ·exact .inl h2
  ·exact .inr ⟨h2, h3⟩
 ·have hlen : k < (r.length : Int) := by
   clear hN h0
   revert t k
   intro t k hc hE e1 e2 hr h2
   have key : ∀ {l : List Event} {N : Int → Int} {B : Int → Bool}, Hs ops l N B → ∀ e ∈ l, e.ret = false → ∀ r, getI ops e.thread = some r → e.op < (r.length : Int) := by
    intro l N B h
    induction h with
    | nil => intro e he; cases he
    | call u r' h hr' hb hn ih =>
     intro e he hf r hr
     rcases List.mem_append.1 he with he | he
     ·exact ih e he hf r hr
     ·rw [List.mem_singleton] at he; subst he
      simp only at hr ⊢
      rw [hr'] at hr; cases hr; exact hn
    | ret u r' x h hr' hb ih =>
     intro e he hf r hr
     rcases List.mem_append.1 he with he | he
     ·exact ih e he hf r hr
     ·rw [List.mem_singleton] at he; subst he; cases hf
   have := key h e he e3 r (by rw [e1]; exact hr)
   omega
  exact ⟨r, _, hr, fK h0 hlen⟩
theorem Hs.calls_nodup (h : Hs ops l N B) : (gg l).Nodup := by
 induction h with
 | nil => exact List.Pairwise.nil
 | @call l N B u r h hr hb hn ih =>
  have e : gg (l ++ [Event.mk u (N u) false BV]) = gg l ++ [A2Int.mk u (N u)] := by unfold gg; rw [List.filter_append, List.map_append]; rfl
  rw [e, List.nodup_append]
  refine ⟨ih, by simp, fun a ha b hb' => ?_⟩
  rw [List.mem_singleton] at hb'; subst hb'
  intro e
  subst e
  have hc := i8.1 ha
  obtain ⟨_, h2, _⟩ := h.called_ops hc
  simp only at h2
  rcases h2 with h2 | ⟨_, h2⟩
  ·omega
  ·rw [hb] at h2; cases h2
 | @ret l N B u r x h hr hb ih =>
  have e : gg (l ++ [Event.mk u (N u) true x]) = gg l := by unfold gg; rw [List.filter_append, List.map_append]; simp
  rw [e]; exact ih
theorem zp {a b : A2Int} : lX l a b = true ↔ 0 ≤ gj l a.x0 a.x1 true ∧ 0 ≤ gj l b.x0 b.x1 false ∧ gj l a.x0 a.x1 true < gj l b.x0 b.x1 false := by
 unfold lX; simp
end
def pf (P : List Int) (t : Int) : Int := (getI P t).getD 0
def jy (l : List Event) (P : List Int) : List Bool := (gg l).map fun c => decide (c.x1 < pf P c.x0)
structure WfPl (ops : List (List Op)) (P : List Int) : Prop where
 len : P.length = ops.length
 pos : ∀ t n, getI P t = some n → 0 ≤ n
section
variable {ops : List (List Op)} {l : List Event} {N : Int → Int} {B : Int → Bool} {P : List Int}
theorem jS : (jy l P).length = (gg l).length := by unfold jy; rw [List.length_map]
theorem jW {i : Int} {c : A2Int} (h : getI (gg l) i = some c) : getI (jy l P) i = some (decide (c.x1 < pf P c.x0)) := by
 unfold jy; rw [jJ, h]; rfl
theorem u5 {t n : Int} (h : getI P t = some n) : pf P t = n := by unfold pf; rw [h]; rfl
theorem ES {t s n : Int} (h : getI P t = some n) : pf (jc P t) s = if s = t then n + 1 else pf P s := by
 unfold pf
 rw [jT h]
 by_cases e : s = t
 ·rw [if_pos e, if_pos e]; rfl
 ·rw [if_neg e, if_neg e]
theorem WfPl.inc {t n : Int} (h : WfPl ops P) (hn : getI P t = some n) : WfPl ops (jc P t) := by
 refine ⟨by rw [zc]; exact h.len, fun s m hm => ?_⟩
 rw [jT hn] at hm
 split at hm
 ·cases hm; have := h.pos t n hn; omega
 ·exact h.pos s m hm
theorem zb {i k : Int} {c : A2Int} (hH : Hs ops l N B) (hi : getI (gg l) i = some c) (hk : getI (gg l) k = some c) : i = k := by
 obtain ⟨i0, i1, _⟩ := fR hi
 obtain ⟨k0, k1, _⟩ := fR hk
 obtain ⟨a1, a2⟩ := List.getElem?_eq_some_iff.1 i1
 obtain ⟨b1, b2⟩ := List.getElem?_eq_some_iff.1 k1
 have := (List.getElem_inj hH.calls_nodup).1 (a2.trans b2.symm)
 omega
theorem kp {t n i : Int} (hH : Hs ops l N B) (hn : getI P t = some n) (hi : getI (gg l) i = some (A2Int.mk t n)) : jy l (jc P t) = gb (jy l P) i true := by
 obtain ⟨i0, i1⟩ := gi hi
 refine tZ fun q hq => ?_
 rw [kq i0 (by rw [jS]; exact i1)]
 by_cases e : q = i
 ·subst e
  rw [if_pos rfl, jW hi, ES hn, if_pos rfl]
  simp; omega
 ·rw [if_neg e]
  by_cases h : q < ((gg l).length : Int)
  ·obtain ⟨c, hc⟩ : ∃ c, getI (gg l) q = some c := ⟨_, fK hq h⟩
   rw [jW hc, jW hc, ES hn]
   by_cases ht : c.x0 = t
   ·rw [if_pos ht, ht, u5 hn]
    have hne : c.x1 ≠ n := fun hx => e (zb hH hc (by rw [hi]; congr 1; cases c; simp only at ht hx; rw [ht, hx]))
    congr 1
    rw [decide_eq_decide]; omega
   ·rw [if_neg ht]
  ·rw [gI (.inr (by rw [jS]; omega)), gI (.inr (by rw [jS]; omega))]
theorem pv {i : Int} {c : A2Int} (h : getI (gg l) i = some c) : opA ops (gg l) i = (getI ops c.x0).bind fun r => getI r c.x1 := by unfold opA; rw [h]; rfl
theorem lj {i : Int} {c : A2Int} (h : getI (gg l) i = some c) : getI (jk l) i = some true ↔ 0 ≤ gj l c.x0 c.x1 true := by
 unfold jk
 rw [jJ, h]
 simp [gU]
theorem u7 {i : Int} {c : A2Int} (h : getI (gg l) i = some c) : getI (iZ l) i = some (mn l c.x0 c.x1).1 := by
 unfold iZ; rw [jJ, h]; rfl
theorem Dt {i k : Int} : bef (iS l) i k ↔ ∃ a b, getI (gg l) i = some a ∧ getI (gg l) k = some b ∧ lX l a b = true := by
 unfold bef iS
 constructor
 ·rintro ⟨r, h1, h2⟩
  rw [jJ] at h1
  cases ha : getI (gg l) i with
  | none => rw [ha] at h1; cases h1
  | some a =>
   rw [ha] at h1
   cases h1
   rw [jJ] at h2
   cases hb : getI (gg l) k with
   | none => rw [hb] at h2; cases h2
   | some b =>
    rw [hb] at h2
    exact ⟨a, b, rfl, rfl, by simpa using h2⟩
 ·rintro ⟨a, b, ha, hb, hp⟩
  refine ⟨(gg l).map fun b => lX l a b, by rw [jJ, ha]; rfl, ?_⟩
  rw [jJ, hb]
  simp [hp]
theorem qF (hH : Hs ops l N B) (hP : WfPl ops P) {t : Int} {a : fp} : Nxt (hU ops l) P t a ↔ ∃ n r o, getI P t = some n ∧ getI ops t = some r ∧ getI r n = some o ∧ 0 ≤ gj l t n false ∧ a = jI o l t n := by
 constructor
 ·rintro ⟨L, n, h1, h2, h3⟩
  obtain ⟨r, hr, rfl⟩ := nM h1
  obtain ⟨n0, h4, _⟩ := fR h3
  obtain ⟨o, ho, ha, hc⟩ := (lY _ _ _ _ _ _).1 h4
  have hcn := hc n.toNat (Nat.le_refl _)
  have e : (0 : Int) + (n.toNat : Int) = n := by omega
  rw [e] at ha hcn
  refine ⟨n, r, o, h2, hr, ?_, hcn, ha⟩
  rw [show n = ((n.toNat : Nat) : Int) by omega, iq]; exact ho
 ·rintro ⟨n, r, o, h1, hr, ho, hc, rfl⟩
  refine ⟨jU l t r 0, n, nO hr, h1, ?_⟩
  obtain ⟨n0, h4, _⟩ := fR ho
  have e : n = ((n.toNat : Nat) : Int) := by omega
  rw [e, iq]
  refine (lY _ _ _ _ _ _).2 ⟨o, h4, by rw [Int.zero_add], fun j hj => ?_⟩
  rw [Int.zero_add]
  obtain ⟨_, h5, _⟩ := hH.called_ops hc
  by_cases ej : (j : Int) = n
  ·rw [ej]; exact hc
  ·exact hH.call_ex (by omega) (.inl (by omega))
theorem nQ (hH : Hs ops l N B) (hP : WfPl ops P) {c : fp} : nP (hU ops l) P c ↔ ∃ t j r o, getI ops t = some r ∧ getI r j = some o ∧ 0 ≤ gj l t j false ∧ pf P t ≤ j ∧ c = jI o l t j := by
 constructor
 ·rintro ⟨t, L, n, h1, h2, h3⟩
  obtain ⟨r, hr, rfl⟩ := nM h1
  have hn := hP.pos t n h2
  obtain ⟨i, hi⟩ := List.mem_iff_getElem?.1 h3
  rw [List.getElem?_drop] at hi
  obtain ⟨o, ho, ha, hc⟩ := (lY _ _ _ _ _ _).1 hi
  have hcn := hc _ (Nat.le_refl _)
  have e : (0 : Int) + ((n.toNat + i : Nat) : Int) = ((n.toNat + i : Nat) : Int) := by omega
  rw [e] at ha hcn
  exact ⟨t, _, r, o, hr, by rw [iq]; exact ho, hcn, by rw [u5 h2]; omega, ha⟩
 ·rintro ⟨t, j, r, o, hr, ho, hc, hp, rfl⟩
  obtain ⟨t0, t1⟩ := gi hr
  have hl := hP.len
  obtain ⟨n, hn⟩ : ∃ n, getI P t = some n := ⟨_, fK t0 (by omega)⟩
  rw [u5 hn] at hp
  have n0 := hP.pos t n hn
  refine ⟨t, _, n, nO hr, hn, ?_⟩
  obtain ⟨j0, h4, _⟩ := fR ho
  have hg : (jU l t r 0)[j.toNat]? = some (jI o l t j) := by
   refine (lY _ _ _ _ _ _).2 ⟨o, h4, by congr 1; omega, fun q hq => ?_⟩
   rw [Int.zero_add]
   obtain ⟨_, h5, _⟩ := hH.called_ops hc
   by_cases ej : (q : Int) = j
   ·rw [ej]; exact hc
   ·exact hH.call_ex (by omega) (.inl (by omega))
  refine List.mem_iff_getElem?.2 ⟨j.toNat - n.toNat, ?_⟩
  rw [List.getElem?_drop, show n.toNat + (j.toNat - n.toNat) = j.toNat by omega]
  exact hg
theorem nt {t n : Int} (h : 0 ≤ gj l t n false) : ∃ i, getI (gg l) i = some (A2Int.mk t n) := by
 obtain ⟨i, hi⟩ := List.mem_iff_getElem?.1 (i8 (c := A2Int.mk t n).2 h)
 exact ⟨(i : Int), by rw [iq]; exact hi⟩
theorem lT (hH : Hs ops l N B) (hP : WfPl ops P) {op : Bool} {t n i : Int} {r : List Op} {o : Op} (hn : getI P t = some n) (hi : getI (gg l) i = some (A2Int.mk t n)) (hc : Cand (hU ops l) op P t (jI o l t n)) : lb (iS l) (jk l) (!op) (jy l P) i := by
 refine ⟨by rw [jW hi, u5 hn]; simp, fun hcl => ?_, fun k hk => ?_⟩
 ·rw [lj hi]
  rcases hc.ret with h | h
  ·rw [h] at hcl; cases hcl
  ·exact h
 ·obtain ⟨a, b, ha, hb, hp⟩ := Dt.1 hk
  rw [hi] at hb; cases hb
  obtain ⟨p1, p2, p3⟩ := zp.1 hp
  rw [jW ha]
  congr 1
  rw [decide_eq_true_eq]
  refine Int.not_le.1 fun hle => ?_
  have hca := i8.1 (fX ha)
  obtain ⟨_, _, r', o', hr', ho'⟩ := hH.called_ops hca
  have hu : nP (hU ops l) P (jI o' l a.x0 a.x1) := (nQ hH hP).2 ⟨_, _, r', o', hr', ho', hca, hle, rfl⟩
  have := hc.early _ hu p1
  have h1 : (jI o' l a.x0 a.x1).coming = gj l a.x0 a.x1 true := rfl
  have h2 : (jI o l t n).called = gj l t n false := rfl
  simp only at p3
  omega
theorem lK (hH : Hs ops l N B) (hP : WfPl ops P) {op : Bool} {i : Int} {c : A2Int} {o : Op} (hc : getI (gg l) i = some c) (ho : opA ops (gg l) i = some o) (hm : lb (iS l) (jk l) (!op) (jy l P) i) : getI P c.x0 = some c.x1 ∧ Cand (hU ops l) op P c.x0 (jI o l c.x0 c.x1) := by
 have hca := i8.1 (fX hc)
 obtain ⟨c0, hcN, r, o1, hr, ho1⟩ := hH.called_ops hca
 have hoo : o1 = o := by
  rw [pv hc, hr] at ho
  simp only [Option.bind_some] at ho
  rw [ho1] at ho; exact Option.some.inj ho
 subst hoo
 obtain ⟨t0, t1⟩ := gi hr
 have hl := hP.len
 obtain ⟨n, hn⟩ : ∃ n, getI P c.x0 = some n := ⟨_, fK t0 (by omega)⟩
 have n0 := hP.pos _ n hn
 have hun := hm.un
 rw [jW hc, u5 hn] at hun
 have hge : n ≤ c.x1 := by
  have := Option.some.inj hun
  rw [decide_eq_false_iff_not] at this; omega
 have hpre : ∀ a : A2Int, a ∈ gg l → pf P a.x0 ≤ a.x1 → 0 ≤ gj l a.x0 a.x1 true → gj l c.x0 c.x1 false ≤ gj l a.x0 a.x1 true := fun a ha hpa h0 => by
  refine Int.not_lt.1 fun hlt => ?_
  obtain ⟨q, hq⟩ := List.mem_iff_getElem?.1 ha
  have hq : getI (gg l) (q : Int) = some a := by rw [iq]; exact hq
  have := hm.pre (q : Int) (Dt.2 ⟨a, c, hq, hc, zp.2 ⟨h0, hca, hlt⟩⟩)
  rw [jW hq] at this
  have := Option.some.inj this
  rw [decide_eq_true_eq] at this; omega
 have heq : n = c.x1 := by
  by_cases e : n = c.x1
  ·exact e
  ·have hcn : 0 ≤ gj l c.x0 n false := hH.call_ex n0 (.inl (by omega))
   obtain ⟨g1, g2⟩ := hH.ord c.x0 n c.x1 n0 (by omega) hca
   have := hpre (A2Int.mk c.x0 n) (i8.2 hcn) (by simp only; rw [u5 hn]; omega) g1
   simp only at this; omega
 subst heq
 refine ⟨hn, ⟨(qF hH hP).2 ⟨_, r, o1, hn, hr, ho1, hca, rfl⟩, fun d hd h0 => ?_, ?_⟩⟩
 ·obtain ⟨u, j, r', o', hr', ho', hcj, hpj, rfl⟩ := (nQ hH hP).1 hd
  have h0 : 0 ≤ gj l u j true := h0
  show gj l c.x0 c.x1 false < gj l u j true
  have h5 := hpre (A2Int.mk u j) (i8.2 hcj) hpj h0
  have h6 := FU (t' := c.x0) (o' := c.x1) h0 hca
  simp only at h5; omega
 ·cases op with
  | true => exact .inl rfl
  | false => exact .inr ((lj hc).1 (hm.back rfl))
theorem EW {i : Int} {c : A2Int} {o : Op} {C : List fL} (hc : getI (gg l) i = some c) : uL (jk l) (iZ l) o C i = pw (jI o l c.x0 c.x1) C := by
 unfold uL pw
 have hco : (jI o l c.x0 c.x1).coming = gj l c.x0 c.x1 true := rfl
 by_cases h : 0 ≤ gj l c.x0 c.x1 true
 ·rw [if_pos ((lj hc).2 h), if_pos (by rw [hco]; exact h), u7 hc]; rfl
 ·rw [if_neg fun h' => h ((lj hc).1 h'), if_neg (by rw [hco]; exact h)]; rfl
theorem lQ {i : Int} {c : A2Int} {o : Op} {x : Result} (hc : getI (gg l) i = some c) : kg (jk l) (iZ l) i x ↔ jh (jI o l c.x0 c.x1) x := by
 unfold kg jh
 have hco : (jI o l c.x0 c.x1).coming = gj l c.x0 c.x1 true := rfl
 have hre : (jI o l c.x0 c.x1).result = (mn l c.x0 c.x1).1 := rfl
 rw [lj hc, u7 hc, hco, hre]
 constructor
 ·intro h
  by_cases h0 : 0 ≤ gj l c.x0 c.x1 true
  ·exact .inr (Option.some.inj (h h0))
  ·exact .inl (by omega)
 ·rintro (h | h) h0
  ·omega
  ·rw [h]
theorem GV (hH : Hs ops l N B) {op : Bool} {acc : List fL → Prop} {C : List fL} {ds : List Done} (hw : Way (hU ops l) op acc P C ds) : WfPl ops P → kB ops (gg l) (iS l) (jk l) (iZ l) (!op) acc (jy l P) C := by
 induction hw with
 | @stop P C h hacc =>
  intro hP
  refine .stop (fun i hi => ?_) hacc
  obtain ⟨i0, i1⟩ := gi hi
  have hlen : (jk l).length = (gg l).length := by unfold jk; rw [List.length_map]
  obtain ⟨c, hc⟩ : ∃ c, getI (gg l) i = some c := ⟨_, fK i0 (by omega)⟩
  rw [jW hc]
  congr 1
  rw [decide_eq_true_eq]
  refine Int.not_le.1 fun hle => ?_
  have hca := i8.1 (fX hc)
  obtain ⟨_, _, r', o', hr', ho'⟩ := hH.called_ops hca
  have := h _ ((nQ hH hP).2 ⟨_, _, r', o', hr', ho', hca, hle, rfl⟩)
  have h2 := (lj hc).1 hi
  have h1 : (jI o' l c.x0 c.x1).coming = gj l c.x0 c.x1 true := rfl
  omega
 | @one P C t a x ds hc hr ha _ ih =>
  intro hP
  obtain ⟨n, r, o, hn, hro, hoo, hcl, rfl⟩ := (qF hH hP).1 hc.nxt
  obtain ⟨i, hi⟩ := nt hcl
  have hw := ih (hP.inc hn)
  rw [kp hH hn hi] at hw
  refine .one (lT (r := r) hH hP hn hi hc) (by rw [pv hi, hro]; exact hoo) ?_ ha hw
  rw [EW hi]; exact hr
 | @two P C t u a b x y ds hc hc' hne hp hx hy _ ih =>
  intro hP
  obtain ⟨n, r, o, hn, hro, hoo, hcl, rfl⟩ := (qF hH hP).1 hc.nxt
  obtain ⟨m, r', o', hm, hro', hoo', hcl', rfl⟩ := (qF hH hP).1 hc'.nxt
  obtain ⟨i, hi⟩ := nt hcl
  obtain ⟨k, hk⟩ := nt hcl'
  have hm' : getI (jc P t) u = some m := by rw [jT hn, if_neg hne]; exact hm
  have hw := ih ((hP.inc hn).inc hm')
  rw [kp hH hm' hk, kp hH hn hi] at hw
  have hik : i ≠ k := fun e => by
   subst e; rw [hi] at hk; cases hk; exact hne rfl
  have hmi := lT (r := r) hH hP hn hi hc
  have hmk := lT (r := r') hH hP hm hk hc'
  have hoi : opA ops (gg l) i = some o := by rw [pv hi, hro]; exact hoo
  have hok : opA ops (gg l) k = some o' := by rw [pv hk, hro']; exact hoo'
  have hp : hY C o x o' y = true := hp
  rcases Int.lt_or_lt_of_ne hik with h | h
  ·exact .two h hmi hmk hoi hok (by rw [hp]; rfl) ((lQ hi).2 hx) ((lQ hk).2 hy) hw
  ·refine .two h hmk hmi hok hoi (x := y) (y := x) (by rw [hp]; simp) ((lQ hk).2 hy) ((lQ hi).2 hx) ?_
   have hcomm : gb (gb (jy l P) k true) i true = gb (gb (jy l P) i true) k true := by
    unfold gb
    have := (gi hi).1
    have := (gi hk).1
    rw [List.set_comm]; omega
   rw [hcomm]; exact hw
theorem GR (hH : Hs ops l N B) {op : Bool} {acc : List fL → Prop} {d : List Bool} {C : List fL} (hw : kB ops (gg l) (iS l) (jk l) (iZ l) (!op) acc d C) : ∀ P, WfPl ops P → d = jy l P → ∃ ds, Way (hU ops l) op acc P C ds := by
 induction hw with
 | @stop d C h hacc =>
  intro P hP hd
  subst hd
  refine ⟨[], .stop (fun c hc => ?_) hacc⟩
  obtain ⟨t, j, r, o, hr, ho, hcj, hpj, rfl⟩ := (nQ hH hP).1 hc
  show gj l t j true < 0
  refine Int.not_le.1 fun h0 => ?_
  obtain ⟨i, hi⟩ := nt hcj
  have := h i ((lj hi).2 h0)
  rw [jW hi] at this
  have := Option.some.inj this
  rw [decide_eq_true_eq] at this
  simp only at this; omega
 | @one d C i o x hm ho hr ha _ ih =>
  intro P hP hd
  subst hd
  obtain ⟨c, hc⟩ : ∃ c, getI (gg l) i = some c := by
   unfold opA at ho
   cases hc : getI (gg l) i with
   | none => rw [hc] at ho; cases ho
   | some c => exact ⟨c, rfl⟩
  obtain ⟨hn, hcand⟩ := lK hH hP hc ho hm
  obtain ⟨ds, hds⟩ := ih (jc P c.x0) (hP.inc hn) (kp hH hn (by rw [hc])).symm
  rw [EW hc] at hr
  exact ⟨_, .one hcand hr ha hds⟩
 | @two d C i k a b x y hik hi hk ha hb hp hx hy _ ih =>
  intro P hP hd
  subst hd
  obtain ⟨c, hc⟩ : ∃ c, getI (gg l) i = some c := by
   unfold opA at ha
   cases hc : getI (gg l) i with
   | none => rw [hc] at ha; cases ha
   | some c => exact ⟨c, rfl⟩
  obtain ⟨e, he⟩ : ∃ c, getI (gg l) k = some c := by
   unfold opA at hb
   cases hc : getI (gg l) k with
   | none => rw [hc] at hb; cases hb
   | some c => exact ⟨c, rfl⟩
  obtain ⟨hn, hcand⟩ := lK hH hP hc ha hi
  obtain ⟨hm, hcand'⟩ := lK hH hP he hb hk
  have hne : e.x0 ≠ c.x0 := fun h => by
   rw [h, hn] at hm
   have : c = e := by cases c; cases e; simp only at h hm ⊢; rw [h, Option.some.inj hm]
   subst this
   have := zb hH hc he
   omega
  have hm' : getI (jc P c.x0) e.x0 = some e.x1 := by rw [jT hn, if_neg hne]; exact hm
  obtain ⟨ds, hds⟩ := ih (jc (jc P c.x0) e.x0) ((hP.inc hn).inc hm') (by rw [kp hH hm' (by rw [he]), kp hH hn (by rw [hc])])
  rw [Bool.or_eq_true] at hp
  rcases hp with hp | hp
  ·exact ⟨_, .two hcand hcand' hne hp ((lQ hc).1 hx) ((lQ he).1 hy) hds⟩
  ·have hm2 : getI (jc P e.x0) c.x0 = some c.x1 := by rw [jT hm, if_neg fun h => hne h.symm]; exact hn
   have hcomm : jc (jc P e.x0) c.x0 = jc (jc P c.x0) e.x0 := by
    rw [lq hm2, lq hm, lq hm', lq hn]
    have := (gi hn).1
    have := (gi hm).1
    unfold gb
    rw [List.set_comm]; omega
   exact ⟨_, .two hcand' hcand (fun h => hne h.symm) hp ((lQ he).1 hy) ((lQ hc).1 hx) (by rw [hcomm]; exact hds)⟩
end
def nN (s : MS) (u : Int) : Int := (getI s.nx u).getD 0
def sN (s : MS) (u : Int) : Int := (getI s.st u).getD 0
def bN (s : MS) (u : Int) : Bool := !decide (sN s u = 0)
section
variable {x : fQ} {ops : List (List Op)} {n : Nat} {s : MS} {t : Int} {o : Op}
theorem GA (h : lO ops s t = some o) : getI s.nx t = some (nN s t) ∧ ∃ r, getI ops t = some r ∧ getI r (nN s t) = some o := by
  obtain ⟨k, r, c1, c2, c3⟩ := kS h
  have : nN s t = k := by simp [nN, c1]
  rw [this]; exact ⟨c1, r, c2, c3⟩
theorem zu {v : Int} (h : getI s.st t = some v) : sN s t = v := by simp [sN, h]
theorem Run.base (hx : yh x) (hf : OpsFine ops) (hl : (ops.length : Int) = x.threads) (h : Run ops (ji x) n s) : n ≤ 800 → Base ops n s := by
  induction h with
  | nil => exact fun _ => uR hx hl
  | call h h0 hk hr ho ih => exact fun hn => (ih (by omega)).call (by omega) h0 hk hr ho
  | doo h h1 ho ih => exact fun hn => (ih (by omega)).doo hf (by omega) h1 ho
  | ret h h3 hk hr ho ih =>
    intro hn
    obtain ⟨k', row, c1, c2, c3⟩ := kS ho
    rw [hk] at c1; cases c1
    have h4 := hf.2.1 row (fX c2)
    have h5 := (gi c3).2
    exact (ih (by omega)).ret (by omega) h3 hk (by omega) c2 c3
theorem F3 {k : Int} (hB : t < (s.st.length : Int)) (h0 : 0 ≤ t) (u : Int) : sN (lz s t k) u = if u = t then 1 else sN s u := by
  unfold sN lz
  simp only
  rw [iT h0 hB]
  by_cases e : u = t
  · rw [if_pos e, if_pos e]; rfl
  · rw [if_neg e, if_neg e]
theorem GT {k : Int} {r : Result} (hB : t < (s.st.length : Int)) (h0 : 0 ≤ t) (u : Int) : sN (lC s t k r) u = if u = t then 0 else sN s u := by
  unfold sN lC
  simp only
  rw [iT h0 hB]
  by_cases e : u = t
  · rw [if_pos e, if_pos e]; rfl
  · rw [if_neg e, if_neg e]
theorem GO {k : Int} {r : Result} (hB : t < (s.nx.length : Int)) (h0 : 0 ≤ t) (u : Int) : nN (lC s t k r) u = if u = t then k + 1 else nN s u := by
  unfold nN lC
  simp only
  rw [iT h0 hB]
  by_cases e : u = t
  · rw [if_pos e, if_pos e]; rfl
  · rw [if_neg e, if_neg e]
theorem do_st (hB : Base ops n s) (hf : OpsFine ops) (h1 : getI s.st t = some 1) (ho : lO ops s t = some o) (u : Int) : sN (doS s t o) u = if u ∈ jg (DoD s.d t o).2.1 then 3 else if u = t then 2 else sN s u := by
  obtain ⟨_, d2, _⟩ := nz hB hf h1 ho
  obtain ⟨t0, t1⟩ := gi h1
  have hsl := hB.sl
  unfold sN doS
  simp only
  rw [mR _ _ _ u fun y hy => by rw [gk]; have := d2 y hy; omega, iT t0 t1]
  split
  · rfl
  · split <;> rfl
theorem FR (hB : Base ops n s) (hf : OpsFine ops) (h1 : getI s.st t = some 1) (ho : lO ops s t = some o) {y : Done} (hy : y ∈ (DoD s.d t o).2.1) : (sN s y.thread = 1 ∨ sN s y.thread = 2) ∧ 0 ≤ y.thread ∧ y.thread < (ops.length : Int) := by
  obtain ⟨_, d2, _⟩ := nz hB hf h1 ho
  obtain ⟨y0, y1, h2⟩ := d2 y hy
  refine ⟨?_, y0, y1⟩
  rcases h2 with h2 | ⟨w, hw, h2⟩
  · rw [h2]; exact .inl (zu h1)
  · rw [← h2]; exact .inr (zu (hB.wt w hw).1)
theorem Run.hs (hx : yh x) (hf : OpsFine ops) (hl : (ops.length : Int) = x.threads) (h : Run ops (ji x) n s) : n ≤ 800 → Hs ops s.l (nN s) (bN s) := by
  induction h with
  | nil =>
    intro _
    have e1 : nN (ji x) = fun _ => 0 := funext fun u => by
      unfold nN
      cases h : getI (ji x).nx u with
      | none => rfl
      | some v => exact kV (n := x.threads.toNat) h
    have e2 : bN (ji x) = fun _ => false := funext fun u => by
      unfold bN sN
      cases h : getI (ji x).st u with
      | none => rfl
      | some v => have h3 : v = 0 := kV (n := x.threads.toNat) h
                  subst h3; rfl
    rw [e1, e2]; exact .nil
  | @call n s t k r o h h0 hk hr ho ih =>
    intro hn
    have hB := h.base hx hf hl (by omega)
    obtain ⟨t0, t1⟩ := gi h0
    have hN : nN s t = k := by simp [nN, hk]
    have h2 := Hs.call t r (ih (by omega)) hr (by unfold bN; rw [zu h0]; rfl) (by rw [hN]; exact (gi ho).2)
    have e1 : nN (lz s t k) = nN s := rfl
    have e2 : bN (lz s t k) = up (bN s) t true := funext fun u => by
      unfold bN up
      rw [F3 t1 t0]
      by_cases e : u = t
      · rw [if_pos e, if_pos e]; rfl
      · rw [if_neg e, if_neg e]
    rw [e1, e2]
    rw [hN] at h2; exact h2
  | @doo n s t o h h1 ho ih =>
    intro hn
    have hB := h.base hx hf hl (by omega)
    have e1 : nN (doS s t o) = nN s := rfl
    have e2 : bN (doS s t o) = bN s := funext fun u => by
      unfold bN
      rw [do_st hB hf h1 ho]
      by_cases e : u ∈ jg (DoD s.d t o).2.1
      · rw [if_pos e]
        obtain ⟨y, hy, rfl⟩ := List.mem_map.1 e
        rcases (FR hB hf h1 ho hy).1 with h2 | h2 <;> rw [h2] <;> rfl
      · rw [if_neg e]
        by_cases e3 : u = t
        · rw [if_pos e3, e3, zu h1]; rfl
        · rw [if_neg e3]
    rw [e1, e2]; exact ih (by omega)
  | @ret n s t k r o h h3 hk hr ho ih =>
    intro hn
    have hB := h.base hx hf hl (by omega)
    obtain ⟨t0, t1⟩ := gi h3
    obtain ⟨_, row, c2, c3⟩ := GA ho
    have hN : nN s t = k := by simp [nN, hk]
    have h2 := Hs.ret t row r (ih (by omega)) c2 (by unfold bN; rw [zu h3]; rfl)
    have e1 : nN (lC s t k r) = up (nN s) t (nN s t + 1) := funext fun u => by
      unfold up
      rw [GO (gi hk).2 t0, hN]
    have e2 : bN (lC s t k r) = up (bN s) t false := funext fun u => by
      unfold bN up
      rw [GT t1 t0]
      by_cases e : u = t
      · rw [if_pos e, if_pos e]; rfl
      · rw [if_neg e, if_neg e]
    rw [e1, e2]
    rw [hN] at h2 ⊢; exact h2
end
section
variable {ops : List (List Op)} {L tail : List Event} {s : MS} {t : Int} {o : Op}
end
section
variable {x : fQ} {ops : List (List Op)} {L tail : List Event} {s : MS} {t : Int} {o : Op} {n : Nat}
end
theorem OpOk.v {o : Op} (h : OpOk o) : OpV o := by
 intro i x hx
 unfold gG at hx
 split at hx
 ·split at hx
  ·cases hx; exact h.val
  ·cases hx
 ·split at hx
  ·exact (h.cases x (fX hx)).v
  ·cases hx
theorem MadeOk.hist {x : fQ} {ops : List (List Op)} {l m : List Event} (h : MadeOk x ops l) (hm : m.length ≤ 1000) : HistIn x ops m := by
 have h1 := h.cfg.t4
 have h2 := h.len
 have h3 := h.cfg.n3
 exact ⟨by omega, by omega, fun r hr => by have := h.rows r hr; omega, by omega, fun k hk => by have := h.cfg.cap k hk; omega, fun r hr o ho => ⟨(h.fine.2.2 r hr o ho).m, (h.fine.2.2 r hr o ho).v⟩⟩
theorem FB : vQ = some true := by decide +kernel
theorem Gg {a n : Int} (h : 1 ≤ n) (h1 : n ≤ 1000) : Ok (oK a n) fun r => 0 ≤ r ∧ r < n := by
 unfold oK
 have hn : uq a n = some (Int.tmod a n) := by unfold uq; rw [if_neg (by omega)]
 refine Ok.bindEq hn ?_
 have h3 : Int.tmod a n < n := Int.tmod_lt_of_pos _ (by omega)
 have h4 : -n < Int.tmod a n := by
  have h5 := Int.tmod_lt_of_pos (-a) (show 0 < n by omega)
  rw [Int.neg_tmod] at h5; omega
 refine Ok.ite (fun h => ?_) fun h => Ok.some ⟨by omega, by omega⟩
 rw [gl (by omega) (by omega)]
 exact Ok.some ⟨by omega, by omega⟩
open Classical in
theorem By {α : Type} : ∀ {l m : List α}, l.Nodup → (∀ x ∈ l, x ∈ m) → l.length ≤ m.length
 | [], _, _, _ => Nat.zero_le _
 | x :: l, m, hn, hs => by
  rw [List.nodup_cons] at hn
  have hx := hs x (.head _)
  have h1 := By (l := l) (m := m.erase x) hn.2 fun y hy => by
   have hne : y ≠ x := fun e => hn.1 (e ▸ hy)
   exact (List.mem_erase_of_ne hne).2 (hs y (.tail _ hy))
  have h2 := List.length_erase_of_mem hx
  have h3 := List.length_pos_of_mem hx
  simp only [List.length_cons]; omega
def Dp (ops : List (List Op)) : List A2Int := (ops.mapIdx fun t r => (List.range r.length).map fun (k : Nat) => A2Int.mk (t : Int) (k : Int)).flatten
theorem Dq (ops : List (List Op)) : (Dp ops).length = sumL ops := by
 unfold Dp sumL
 rw [List.length_flatten]
 congr 1
 refine List.ext_getElem? fun n => ?_
 rw [List.getElem?_map, List.getElem?_mapIdx, List.getElem?_map]
 cases ops[n]? with
 | none => rfl
 | some r => simp
theorem Ds {ops : List (List Op)} {t k : Int} {r : List Op} {o : Op} (hr : getI ops t = some r) (ho : getI r k = some o) : A2Int.mk t k ∈ Dp ops := by
 obtain ⟨t0, h1, _⟩ := fR hr
 obtain ⟨k0, h2, _⟩ := fR ho
 have hk := (List.getElem?_eq_some_iff.1 h2).1
 unfold Dp
 refine List.mem_flatten.2 ⟨(List.range r.length).map fun (k : Nat) => A2Int.mk ((t.toNat : Nat) : Int) (k : Int), ?_, ?_⟩
 ·refine List.mem_iff_getElem?.2 ⟨t.toNat, ?_⟩
  rw [List.getElem?_mapIdx, h1]; rfl
 ·refine List.mem_map.2 ⟨k.toNat, List.mem_range.2 hk, ?_⟩
  congr 1 <;> omega
theorem BQ : ∀ d : List Bool, und d ≤ d.length
 | [] => Nat.le_refl _
 | b :: d => by
  have := BQ d
  simp only [und, List.length_cons]; split <;> omega
theorem fS_le : ∀ k < 8, fS k ≤ 4294967296 := by decide
theorem VB.v5 {o : Op} (h : VB 1000 o) : OpV5 o := by
 intro i x hx
 unfold gG at hx
 split at hx
 ·split at hx
  ·cases hx
   have := h.v
   exact ⟨this.1, by show o.value < _; omega⟩
  ·cases hx
 ·split at hx
  ·have := h.c x (fX hx)
   exact ⟨this.1, by omega⟩
  ·cases hx
theorem x5 {x : fQ} (hx : x.capacities.length ≤ 1000) : pB x = some (nI x) := by
 refine Ok.eq ?_
 unfold pB
 refine io (fun _ i => ((x.capacities.length : Int) - i).toNat) (fun l i => 0 ≤ i ∧ i ≤ (x.capacities.length : Int) ∧ l = (x.capacities.take i.toNat).map fun k => fL.mk k [] false) (fun _ _ r => r = nI x) ?_ BIG [] 0 ⟨by omega, by omega, by simp⟩ (gn (by omega))
 intro l i k ⟨h0, h1, h2⟩ hk
 unfold yi
 refine Ok.ite (fun h3 => ?_) fun h3 => ?_
 ·obtain ⟨y, hy⟩ : ∃ y, getI x.capacities i = some y := ⟨_, fK h0 h3⟩
  refine Ok.bindEq hy ?_
  refine Ok.bindEq (gm (by rw [h2]; simp; omega)) ?_
  rw [gl (by omega) (by omega)]
  refine hk _ _ ⟨by omega, by omega, ?_⟩ (by omega)
  rw [ii hy, h2]; simp
 ·refine Ok.some ?_
  rw [h2, List.take_of_length_le (by omega)]; rfl
structure Few (ops : List (List Op)) : Prop where
 sum : sumL ops ≤ 7
 vb : ∀ r ∈ ops, ∀ o ∈ r, VB 1000 o
 six : ∀ r ∈ ops, ∀ o ∈ r, o.cases.length ≤ 6
section
variable {x : fQ} {ops : List (List Op)} {l : List Event} {N : Int → Int} {B : Int → Bool}
theorem Ce (hH : Hs ops l N B) (hf : Few ops) : (gg l).length ≤ 7 := by
 have := By hH.calls_nodup (m := Dp ops) fun c hc => by
  obtain ⟨_, _, r, o, hr, ho⟩ := hH.called_ops (i8.1 hc)
  exact Ds hr ho
 rw [Dq] at this
 have := hf.sum; omega
theorem GU (h : HistIn x ops l) (hH : Hs ops l N B) (hf : Few ops) : Sea ops (gg l) (iS l) (jk l) (iZ l) := by
 refine ⟨Ce hH hf, by unfold iS; rw [List.length_map], fun r hr => ?_, by unfold jk; rw [List.length_map], by unfold iZ; rw [List.length_map], fun i i0 i1 => ?_⟩
 ·unfold iS at hr
  obtain ⟨a, _, rfl⟩ := List.mem_map.1 hr
  rw [List.length_map]
 ·obtain ⟨c, hc⟩ : ∃ c, getI (gg l) i = some c := ⟨_, fK i0 i1⟩
  obtain ⟨_, _, r, o, hr, ho⟩ := hH.called_ops (i8.1 (fX hc))
  have hrm := fX hr
  have hom := fX ho
  exact ⟨o, by rw [pv hc, hr]; exact ho, (h.ops r hrm o hom).1, (hf.vb r hrm o hom).v5, hf.six r hrm o hom⟩
theorem AS (hH : Hs ops l N B) : List.replicate (((gg l).length : Int)).toNat false = jy l (jG ops) := by
 refine tZ fun i hi => ?_
 by_cases h : i < ((gg l).length : Int)
 ·obtain ⟨c, hc⟩ : ∃ c, getI (gg l) i = some c := ⟨_, fK hi h⟩
  obtain ⟨b, hb⟩ : ∃ b, getI (List.replicate (((gg l).length : Int)).toNat false) i = some b := ⟨_, fK hi (by simp; omega)⟩
  have hbf := (List.mem_replicate.1 (fX hb)).2
  obtain ⟨c0, _⟩ := hH.called_ops (i8.1 (fX hc))
  have hz : pf (jG ops) c.x0 = 0 := by
   unfold pf
   cases hg : getI (jG ops) c.x0 with
   | none => rfl
   | some v => rw [kV hg]; rfl
  rw [hb, hbf, jW hc, hz, decide_eq_false (by omega)]
 ·rw [gI (.inr (by simp; omega)), gI (.inr (by rw [jS]; omega))]
theorem zG : WfPl ops (jG ops) := ⟨by simp [jG], fun t n h => by rw [kV h]; exact Int.le_refl _⟩
theorem FY (h : HistIn x ops l) : Ch56 x.capacities (nI x) := ⟨AD h, fun c hc v hv => by
 unfold nI at hc
 obtain ⟨k, _, rfl⟩ := List.mem_map.1 hc; cases hv⟩
theorem Hs.set (h : Hs ops l N B) : ∀ (i : Nat) (e : Event) (r : Result), l[i]? = some e → e.ret = true → Hs ops (l.set i (Event.mk e.thread e.op e.ret r)) N B := by
 induction h with
 | nil => intro i e r hi; simp at hi
 | @call l N B u row h hr hb hn ih =>
  intro i e r hi he
  by_cases hlt : i < l.length
  ·rw [List.getElem?_append_left hlt] at hi
   rw [List.set_append_left _ _ hlt]
   exact .call u row (ih i e r hi he) hr hb hn
  ·rw [List.getElem?_append_right (by omega)] at hi
   have : i - l.length = 0 := by
    rcases Nat.eq_zero_or_pos (i - l.length) with h | h
    ·exact h
    ·rw [List.getElem?_eq_none (by simp; omega)] at hi; cases hi
   rw [this] at hi
   simp at hi; subst hi; cases he
 | @ret l N B u row x h hr hb ih =>
  intro i e r hi he
  by_cases hlt : i < l.length
  ·rw [List.getElem?_append_left hlt] at hi
   rw [List.set_append_left _ _ hlt]
   exact .ret u row x (ih i e r hi he) hr hb
  ·rw [List.getElem?_append_right (by omega)] at hi
   have h0 : i - l.length = 0 := by
    rcases Nat.eq_zero_or_pos (i - l.length) with h | h
    ·exact h
    ·rw [List.getElem?_eq_none (by simp; omega)] at hi; cases hi
   rw [h0] at hi
   simp at hi; subst hi
   rw [List.set_append_right _ _ (by omega), h0]
   exact .ret u row r h hr hb
end
theorem E4 {ops : List (List Op)} {l : List Event} {N : Int → Int} {B : Int → Bool} {a w b : Int} (hH : Hs ops l N B) (hl : l.length ≤ 1000) : Ok (rL l a w b) fun m => m.length = l.length ∧ Hs ops m N B := by
 unfold rL
 refine Ok.bindEq (gm (by simp; omega)) ?_
 rw [List.nil_append]
 refine Ok.ite (fun _ => Ok.some ⟨rfl, hH⟩) fun h0 => ?_
 refine Ok.bind (Gg (by omega) (by omega)) fun i ⟨i0, i1⟩ => ?_
 obtain ⟨e, he⟩ : ∃ e, getI l i = some e := ⟨_, fK i0 i1⟩
 refine Ok.bindEq he ?_
 refine Ok.ite (fun hr => ?_) fun _ => Ok.some ⟨rfl, hH⟩
 have hJ : ∀ r, Ok (pO (gb l i (Event.mk e.thread e.op e.ret r))) fun m => m.length = l.length ∧ Hs ops m N B := fun r => Ok.some ⟨gk, hH.set _ _ _ (fR he).2.1 hr⟩
 refine Ok.ite (fun _ => Ok.bindEq he (hJ _)) fun _ => ?_
 refine Ok.ite (fun _ => Ok.bindEq he (Ok.bindEq he (hJ _))) fun _ => ?_
 refine Ok.ite (fun _ => Ok.bindEq he (hJ _)) fun _ => ?_
 exact Ok.ite (fun _ => Ok.bindEq he (Ok.bindEq he (hJ _))) fun _ => Ok.some ⟨rfl, hH⟩
theorem MadeOk.hs {x : fQ} {ops : List (List Op)} {l : List Event} (h : MadeOk x ops l) : ∃ n s, n ≤ 100 ∧ Run ops (ji x) n s ∧ s.l = l ∧ Hs ops l (nN s) (bN s) := by
 obtain ⟨s, _, n, hR, hn, _, _, rfl⟩ := h.run
 exact ⟨n, s, hn, hR, rfl, hR.hs h.cfg h.fine h.len (by omega)⟩
theorem ED {x : fQ} {ops : List (List Op)} {l : List Event} (h : MadeOk x ops l) (h1 : ((sumL ops : Nat) : Int) ≤ 7) (h2 : ∀ w ∈ ops, ∀ o ∈ w, VB 1000 o) : Few ops := ⟨by omega, h2, fun r hr o ho => (h.fine.2.2 r hr o ho).lens.2⟩
def opC (ops : List (List Op)) (c : A2Int) : Option Op := (getI ops c.x0).bind fun r => getI r c.x1
def wtF (ops : List (List Op)) (l : List Event) (c : A2Int) : Option gd := if gj l c.x0 c.x1 true < 0 then (opC ops c).map (gd.mk c.x0) else none
def wtS (ops : List (List Op)) (l : List Event) : List gd := (gg l).filterMap (wtF ops l)
def yr (ops : List (List Op)) (l : List Event) (C : List fL) : Prop := jE C [] (wtS ops l) = false
def uk (l : List Event) : List A2Int := (gg l).filter fun c => decide (gj l c.x0 c.x1 true < 0)
theorem Fp {l : List Event} (hl : l.length ≤ 100000) : rO l = some (uk l) := by
 refine Ok.eq ?_
 have hcl := ku l
 unfold rO
 refine Ok.bindEq (yg (by omega)) ?_
 unfold uk
 generalize hcs : gg l = cs at *
 refine io (fun _ i => ((cs.length : Int) - i).toNat) (fun m i => 0 ≤ i ∧ i ≤ (cs.length : Int) ∧ m = (cs.take i.toNat).filter fun c => decide (gj l c.x0 c.x1 true < 0)) (fun _ _ r => r = cs.filter fun c => decide (gj l c.x0 c.x1 true < 0)) ?_ BIG [] 0 ⟨by omega, by omega, by simp⟩ (gn (by omega))
 intro m i k ⟨i0, i1, hm⟩ hk
 unfold v6
 refine Ok.ite (fun hi => ?_) fun hi => ?_
 ·obtain ⟨c, hc⟩ : ∃ c, getI cs i = some c := ⟨_, fK i0 hi⟩
  have htk := ii hc
  have hml : m.length ≤ cs.length := by
   rw [hm]; exact Nat.le_trans (List.length_filter_le _ _) (by rw [List.length_take]; omega)
  refine Ok.bindEq hc ?_
  refine Ok.bd2 (Q := fun x => x = mn l c.x0 c.x1) ⟨_, lG (by omega), rfl⟩ fun r n hrn => ?_
  have hn : n = gj l c.x0 c.x1 true := by rw [← uu, ← hrn]
  rw [gl (by omega) (by omega)]
  refine Ok.ite (fun h => ?_) fun h => ?_
  ·refine Ok.bindEq (gm (by simp; omega)) ?_
   refine hk _ _ ⟨by omega, by omega, ?_⟩ (by omega)
   rw [htk, List.filter_append, List.filter_cons_of_pos (by rw [← hn]; exact decide_eq_true h), ← hm]; rfl
  ·refine hk _ _ ⟨by omega, by omega, ?_⟩ (by omega)
   rw [htk, List.filter_append, List.filter_cons_of_neg (by rw [← hn, decide_eq_true_eq]; exact h), ← hm]
   simp
 ·unfold vZ
  refine Ok.some ?_
  rw [hm, List.take_of_length_le (by omega)]
theorem Way.open {T : iF} {acc : List fL → Prop} {p : List Int} {C : List fL} {ds : List Done} (h : Way T false acc p C ds) : Way T true (fun _ => True) p C ds := by
 induction h with
 | stop h _ => exact .stop h trivial
 | one h hr ha _ ih => exact .one ⟨h.nxt, h.early, .inl rfl⟩ hr ha ih
 | two h h' hne hp hx hy _ ih => exact .two ⟨h.nxt, h.early, .inl rfl⟩ ⟨h'.nxt, h'.early, .inl rfl⟩ hne hp hx hy ih
section
variable {x : fQ} {ops : List (List Op)} {l : List Event} {N : Int → Int} {B : Int → Bool}
theorem Ff (ops : List (List Op)) (l : List Event) : wtS ops l = (uk l).filterMap fun c => (opC ops c).map (gd.mk c.x0) := by
 unfold wtS uk wtF
 rw [List.filterMap_filter]
 simp only [decide_eq_true_eq]
theorem Fg : (wtS ops l).length ≤ l.length := Nat.le_trans (List.length_filterMap_le _ _) (ku l)
theorem Gj (h : HistIn x ops l) : ∀ a ∈ wtS ops l, OpM a.op := fun a ha => by
 obtain ⟨c, _, hc⟩ := List.mem_filterMap.1 ha
 unfold wtF at hc
 split at hc
 ·obtain ⟨o, ho, rfl⟩ := Option.map_eq_some_iff.1 hc
  unfold opC at ho
  obtain ⟨r, hr, ho⟩ := Option.bind_eq_some_iff.1 ho
  exact (h.ops r (fX hr) o (fX ho)).1
 ·cases hc
theorem Gx (h : HistIn x ops l) (hl : l.length ≤ 1000) {C : List fL} (hC : ix C) : Ok (oM C (wtS ops l)) fun b => b = true ↔ yr ops l C := by
 have := Fg (ops := ops) (l := l)
 unfold oM
 refine Ok.bindEq (pr hC (by omega) (Gj h)) ?_
 exact Ok.some (by unfold yr; simp)
def Gw (x : fQ) (ops : List (List Op)) (l : List Event) : Prop := ∃ ds, Way (hU ops l) false (yr ops l) (jG ops) (nI x) ds
theorem Aq (h : HistIn x ops l) (hH : Hs ops l N B) (hl : l.length ≤ 1000) : Ok (r3 x ops l) fun b => b = true ↔ Gw x ops l := by
 have h1 := h.thr
 have h2 := h.caps
 have hr := h.rem
 have hcl := ku l
 unfold r3
 refine Ok.bd3 (Q := fun r => r = (hU ops l, false, ka ByteArray Bool)) ⟨_, yC h.len (by omega) (fun r hr => by have := h.rows r hr; omega), rfl⟩ fun T b m e => ?_
 cases e
 refine Ok.bindEq (Fp h.len) ?_
 have hw := Ff ops l
 have hmem : ∀ c ∈ uk l, 0 ≤ c.x0 ∧ 0 ≤ c.x1 ∧ ∃ r o, getI ops c.x0 = some r ∧ getI r c.x1 = some o := fun c hc => by
  obtain ⟨c0, _, r, o, hr, ho⟩ := hH.called_ops (i8.1 (List.mem_filter.1 hc).1)
  exact ⟨(gi hr).1, (gi ho).1, r, o, hr, ho⟩
 have hol : (uk l).length ≤ l.length := Nat.le_trans (List.length_filter_le _ _) hcl
 generalize uk l = os at *
 refine io (fun i _ => ((os.length : Int) - i).toNat) (fun i w => 0 ≤ i ∧ i ≤ (os.length : Int) ∧ w = (os.take i.toNat).filterMap fun c => (opC ops c).map (gd.mk c.x0)) (fun _ _ b => b = true ↔ Gw x ops l) ?_ BIG 0 [] ⟨by omega, by omega, by simp⟩ (gn (by omega))
 intro i w k ⟨i0, i1, hwt⟩ hk
 unfold wv
 refine Ok.ite (fun hi => ?_) fun hi => ?_
 ·obtain ⟨c, hc⟩ : ∃ c, getI os i = some c := ⟨_, fK i0 hi⟩
  obtain ⟨c0, c1, r, o, hr, ho⟩ := hmem c (fX hc)
  have hwl : w.length ≤ os.length := by
   rw [hwt]; exact Nat.le_trans (List.length_filterMap_le _ _) (by rw [List.length_take]; omega)
  refine Ok.bindEq hc ?_
  rw [if_pos c0, if_pos (gi hr).2, if_pos c1]
  refine Ok.bindEq hr ?_
  rw [show dcd (c.x1 < (r.length : Int)) = true from ip.2 (gi ho).2]
  unfold s7
  rw [if_pos rfl]
  refine Ok.bindEq hr ?_
  refine Ok.bindEq ho ?_
  refine Ok.bindEq (gm (by simp; omega)) ?_
  unfold r0
  rw [gl (by omega) (by omega)]
  refine hk _ _ ⟨by omega, by omega, ?_⟩ (by omega)
  rw [ii hc, List.filterMap_append, hwt]
  simp [opC, hr, ho]
 ·rw [List.take_of_length_le (by omega), ← hw] at hwt
  subst hwt
  unfold wu
  refine Ok.bindEq (ke (by omega) (by omega)) ?_
  refine Ok.bindEq (lW (by omega)) ?_
  have hz : List.replicate ((ops.length : Int)).toNat (0 : Int) = jG ops := by simp [jG]
  rw [hz]
  refine Ok.bd3 (BI (acc := yr ops l) h.calls h2 (fun r hr a ha => ?_) (fun C hC => Gx h hl hC.ok) 100 (jG ops) (nI x) _ [] h.wf (AD h) (fun p C _ _ hl => ?_) (by omega) (by simp; omega)) fun b l2 m hR => ?_
  ·obtain ⟨t, row, _, rfl⟩ := km hr
   obtain ⟨o, _, j, _, _, rfl⟩ := uw _ _ _ _ _ ha
   have := mf l t j false
   show gj l t j false < _
   omega
  ·simp [kG, ka] at hl
  have hy := hR.yes
  have hn := hR.no
  simp only at hy hn
  refine Ok.some ⟨fun hb => ?_, ?_⟩
  ·obtain ⟨ds, d1, _⟩ := hy hb
   exact ⟨ds, d1⟩
  ·rintro ⟨ds, hd⟩
   cases b with
   | true => rfl
   | false => exact absurd hd ((hn rfl).1 ds)
theorem FT {d : List Bool} {C : List fL} {seen : List ByteArray} (h : HistIn x ops l) (hl : l.length ≤ 1000) (hsea : Sea ops (gg l) (iS l) (jk l) (iZ l)) (hd : d.length = (gg l).length) (hC : ix C) : Ok (sF ops l (gg l) (iS l) (jk l) (iZ l) true true seen d C) fun b => b = true ↔ (∀ i, getI (jk l) i = some true → getI d i = some true) ∧ yr ops l C := by
 refine xQ hsea hd ?_
 have hcl := ku l
 unfold qL
 rw [if_pos rfl]
 refine io (fun _ i => ((d.length : Int) - i).toNat) (fun w i => 0 ≤ i ∧ i ≤ (d.length : Int) ∧ w = ((gg l).take i.toNat).filterMap (wtF ops l)) (fun _ _ b => b = true ↔ yr ops l C) ?_ BIG [] 0 ⟨by omega, by omega, by simp⟩ (gn (by omega))
 intro w i k ⟨i0, i1, hw⟩ hk
 unfold wT
 refine Ok.ite (fun hi => ?_) fun hi => ?_
 ·obtain ⟨c, hc⟩ : ∃ c, getI (gg l) i = some c := ⟨_, fK i0 (by omega)⟩
  obtain ⟨o, ho, _⟩ := hsea.op i i0 (by omega)
  have hwl : w.length ≤ (gg l).length := by
   rw [hw]; exact Nat.le_trans (List.length_filterMap_le _ _) (by rw [List.length_take]; omega)
  have hb : getI (jk l) i = some (dcd (gj l c.x0 c.x1 true ≥ 0)) := by unfold jk; rw [jJ, hc]; rfl
  have hoc : opC ops c = some o := by rw [← ho, pv hc]; rfl
  refine Ok.bindEq hb ?_
  rw [gl (by omega) (by omega)]
  refine Ok.ite (fun h1 => ?_) fun h1 => ?_
  ·have h1 := ip.1 h1
   refine hk _ _ ⟨by omega, by omega, ?_⟩ (by omega)
   have : wtF ops l c = none := by unfold wtF; rw [if_neg (by omega)]
   rw [ii hc, List.filterMap_append, ← hw]
   simp [this]
  ·have h1 : ¬ gj l c.x0 c.x1 true ≥ 0 := fun h => h1 (ip.2 h)
   refine Ok.bindEq hc ?_
   rw [zm]
   refine Ok.bindEq ho ?_
   refine Ok.bindEq (gm (by simp; omega)) ?_
   refine hk _ _ ⟨by omega, by omega, ?_⟩ (by omega)
   have : wtF ops l c = some (gd.mk c.x0 o) := by unfold wtF; rw [if_pos (by omega), hoc]; rfl
   rw [ii hc, List.filterMap_append, ← hw]
   simp [this]
 ·rw [List.take_of_length_le (by omega)] at hw
  subst hw
  have := Fg (ops := ops) (l := l)
  unfold wR
  refine Ok.bindEq (uo (w := wtS ops l) hC (by omega) (Gj h)) ?_
  exact Ok.some (by unfold yr; simp)
theorem yp (h : HistIn x ops l) (hH : Hs ops l N B) (hf : Few ops) (hl : l.length ≤ 1000) : Ok (sC x ops l) fun b => b = true ↔ Gw x ops l := by
 have h2 := h.caps
 have hsea := GU h hH hf
 have hn := hsea.n
 have hu := BQ (jy l (jG ops))
 rw [jS] at hu
 have hfs := fS_le (und (jy l (jG ops))) (by omega)
 unfold sC
 refine Ok.bd8 (Q := fun r => r = (ops, l, gg l, iS l, jk l, iZ l, true, true)) ⟨_, E5 h.len, rfl⟩ fun a b c d e g i j hq => ?_
 cases hq
 refine Ok.bindEq (ke (by omega) (by omega)) ?_
 refine Ok.bindEq (x5 (by omega)) ?_
 rw [AS hH]
 refine Ok.bd2 (BH (caps := x.capacities) (acc := yr ops l) hsea h2 (fun d C seen hd hC => FT h hl hsea hd hC.w.ok) 100 (jy l (jG ops)) (nI x) [] jS (FY h) (by omega) (by simp; omega) (by simp)) fun b s hR => ?_
 have hy := hR.yes
 have hno := hR.no
 simp only at hy hno
 unfold xr
 refine Ok.some ⟨fun hb => GR (op := false) hH (hy hb) _ zG rfl, ?_⟩
 rintro ⟨ds, hd⟩
 have := GV hH (op := false) hd zG
 cases b with
 | true => rfl
 | false => exact absurd this (hno rfl).1
end
inductive St (ops : List (List Op)) : (Int → Int) → (Int → Bool) → Event → (Int → Int) → (Int → Bool) → Prop
 | call {N : Int → Int} {B : Int → Bool} (t : Int) (r : List Op) (hr : getI ops t = some r) (hb : B t = false) (hn : N t < (r.length : Int)) : St ops N B (Event.mk t (N t) false BV) N (up B t true)
 | ret {N : Int → Int} {B : Int → Bool} (t : Int) (r : List Op) (x : Result) (hr : getI ops t = some r) (hb : B t = true) : St ops N B (Event.mk t (N t) true x) (up N t (N t + 1)) (up B t false)
inductive Pth (ops : List (List Op)) : (Int → Int) → (Int → Bool) → List Event → (Int → Int) → (Int → Bool) → Prop
 | nil {N : Int → Int} {B : Int → Bool} : Pth ops N B [] N B
 | cons {N N1 N2 : Int → Int} {B B1 B2 : Int → Bool} {e : Event} {l : List Event} (h : St ops N B e N1 B1) (h2 : Pth ops N1 B1 l N2 B2) : Pth ops N B (e :: l) N2 B2
section
variable {ops : List (List Op)} {N N1 N2 : Int → Int} {B B1 B2 : Int → Bool}
theorem Pth.app {a b : List Event} (h : Pth ops N B a N1 B1) (h2 : Pth ops N1 B1 b N2 B2) : Pth ops N B (a ++ b) N2 B2 := by
 induction h with
 | nil => exact h2
 | cons h _ ih => exact .cons h (ih h2)
theorem Pth.split {a b : List Event} : ∀ {N B}, Pth ops N B (a ++ b) N2 B2 → ∃ N1 B1, Pth ops N B a N1 B1 ∧ Pth ops N1 B1 b N2 B2 := by
 induction a with
 | nil => intro N B h; exact ⟨N, B, .nil, h⟩
 | cons e a ih =>
  intro N B h
  cases h with
  | cons h h2 =>
   obtain ⟨N1, B1, g1, g2⟩ := ih h2
   exact ⟨N1, B1, .cons h g1, g2⟩
theorem Hs.pth {l : List Event} (h : Hs ops l N B) : Pth ops (fun _ => 0) (fun _ => false) l N B := by
 induction h with
 | nil => exact .nil
 | call t r h hr hb hn ih => exact ih.app (.cons (.call t r hr hb hn) .nil)
 | ret t r x h hr hb ih => exact ih.app (.cons (.ret t r x hr hb) .nil)
theorem Pth.hs {l0 l : List Event} (h0 : Hs ops l0 N B) (h : Pth ops N B l N2 B2) : Hs ops (l0 ++ l) N2 B2 := by
 induction h generalizing l0 with
 | nil => rw [List.append_nil]; exact h0
 | @cons N N1 N2 B B1 B2 e l h _ ih =>
  have h1 : Hs ops (l0 ++ [e]) N1 B1 := by
   cases h with
   | call t r hr hb hn => exact .call t r h0 hr hb hn
   | ret t r x hr hb => exact .ret t r x h0 hr hb
  have := ih h1
  rw [List.append_assoc] at this; exact this
theorem Hs.take {l : List Event} (h : Hs ops l N B) (k : Nat) : ∃ N' B', Hs ops (l.take k) N' B' := by
 have hp := h.pth
 rw [← List.take_append_drop k l] at hp
 obtain ⟨M, D, h1, _⟩ := hp.split
 have := Pth.hs (l0 := []) .nil h1
 rw [List.nil_append] at this; exact ⟨M, D, this⟩
end
theorem nE (codes : List Int) (at_ what by_ cut : Int) (hc : ∀ b ∈ codes, 0 ≤ b ∧ b < 256) : xu codes at_ what by_ cut = some true := by
 refine Ok.eq ?_
 unfold xu
 refine Ok.bindEq FB ?_
 rw [if_pos rfl]
 refine Ok.bd3 (EQ hc (by omega) (by omega)) fun x ops l ⟨hm, hs, hv⟩ => ?_
 simp only at hm hs hv
 have hll := hm.ev.2
 have hf := ED hm hs hv
 have hol := hm.len
 obtain ⟨n, s, hn, hR, hsl, hH⟩ := hm.hs
 rw [gl (by omega) (by omega)]
 refine Ok.bind (Gg (by omega) (by omega)) fun q ⟨q0, q1⟩ => ?_
 have hcut : jP l 0 q = some (l.take q.toNat) := by rw [iY (by omega) (by omega) (by omega)]; simp
 refine Ok.bindEq hcut ?_
 refine Ok.bind (E4 hH (by omega)) fun m ⟨hml, hHm⟩ => ?_
 obtain ⟨N', B', hHt⟩ := hH.take q.toNat
 have hall : ∀ y ∈ [l, l.take q.toNat, m], y.length ≤ 1000 ∧ ∃ N B, Hs ops y N B := fun y hy => by
  simp only [List.mem_cons, List.not_mem_nil, or_false] at hy
  rcases hy with rfl | rfl | rfl
  ·exact ⟨by omega, _, _, hH⟩
  ·exact ⟨by rw [List.length_take]; omega, _, _, hHt⟩
  ·exact ⟨by omega, _, _, hHm⟩
 refine jB (fun i => (3 - i).toNat) (fun i => 0 ≤ i ∧ i ≤ 3) (fun _ r => r = true) ?_ BIG 0 ⟨by omega, by omega⟩ (gn (by omega))
 intro i k ⟨i0, i1⟩ hk
 unfold xt
 generalize hL : [l, l.take q.toNat, m] = L at *
 have hL3 : L.length = 3 := by rw [← hL]; rfl
 refine Ok.ite (fun hi => ?_) fun hi => ?_
 ·obtain ⟨y, hy⟩ : ∃ y, getI L i = some y := ⟨_, fK i0 hi⟩
  obtain ⟨hyl, N2, B2, hHy⟩ := hall y (fX hy)
  have hin := hm.hist hyl
  refine Ok.bindEq hy ?_
  refine Ok.bind (Aq hin hHy hyl) fun a ha => ?_
  refine Ok.bind (yp hin hHy hf hyl) fun b hb => ?_
  have hab : a = b := by rw [Bool.eq_iff_iff, ha, hb]
  subst hab
  have hJ : Ok (tr ops l (l.take q.toNat) m i x k false) fun r => r = true := by
   unfold tr
   rw [if_neg (by decide), gl (by omega) (by omega)]
   exact hk _ ⟨by omega, by omega⟩ (by omega)
  rw [if_pos (by simp)]
  refine Ok.ite (fun h => ?_) fun _ => hJ
  refine Ok.bind (C6 hin) fun b hb => ?_
  have hbt : b = true := by
   obtain ⟨ds, hd⟩ := ha.1 h
   exact hb.2 ⟨ds, hd.open⟩
  subst hbt
  exact hJ
 ·exact Ok.some rfl
end Go.Hx
