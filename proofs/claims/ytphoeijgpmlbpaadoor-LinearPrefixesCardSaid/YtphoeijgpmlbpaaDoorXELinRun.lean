
import Derived.Test.YtphoeijgpmlbpaaDoorXEHistL
namespace Go.Hx
open Go
set_option linter.unusedVariables false
set_option linter.unusedSimpArgs false
theorem su {p : List Int} {t : Int} : (cC p t).length = p.length := by
  unfold cC; split
  · rw [aJ]
  · rfl
theorem ni {p : List Int} {t n : Int} (h : getI p t = some n) : cC p t = aG p t (n + 1) := by unfold cC; rw [h]
theorem gf {p : List Int} {t s n : Int} (h : getI p t = some n) : getI (cC p t) s = if s = t then some (n + 1) else getI p s := by
  rw [ni h]; exact bn (aQ h).1 (aQ h).2
theorem Nxt.inj {T : ce} {p : List Int} {t : Int} {a b : Linear_call} (h : Nxt T p t a) (h' : Nxt T p t b) : a = b := by
  obtain ⟨l, n, h1, h2, h3⟩ := h
  obtain ⟨l', n', g1, g2, g3⟩ := h'
  rw [h1] at g1; cases g1
  rw [h2] at g2; cases g2
  rw [h3] at g3; cases g3; rfl
theorem WfP.inc {T : ce} {p : List Int} {t : Int} {a : Linear_call} (h : WfP T p) (hn : Nxt T p t a) : WfP T (cC p t) := by
  obtain ⟨l, n, h1, h2, h3⟩ := hn
  refine ⟨by rw [su]; exact h.len, h.lt, fun s l' n' g1 g2 => ?_⟩
  rw [gf h2] at g2
  split at g2
  · rename_i e; subst e
    cases g2
    rw [h1] at g1; cases g1
    have := h.each s l n h1 h2
    have := (aQ h3).2
    omega
  · exact h.each s l' n' g1 g2
def f6 : ce → List Int → Nat
  | l :: T, n :: p => (l.length - n.toNat) + f6 T p
  | _, _ => 0
theorem ql : ∀ {T : ce} {p : List Int} {i : Nat} {l : List Linear_call} {n : Int}, T[i]? = some l → p[i]? = some n → 0 ≤ n → n < (l.length : Int) → f6 T (p.set i (n + 1)) + 1 = f6 T p
  | [], _, _, _, _, h, _, _, _ => by simp at h
  | _ :: _, [], _, _, _, _, h, _, _ => by simp at h
  | l :: T, m :: p, 0, l', n, h1, h2, h0, h3 => by
    simp at h1 h2; subst h1 h2
    simp only [List.set_cons_zero, f6]
    omega
  | l :: T, m :: p, i + 1, l', n, h1, h2, h0, h3 => by
    have := ql (T := T) (p := p) (i := i) (by simpa using h1) (by simpa using h2) h0 h3
    simp only [List.set_cons_succ, f6]
    omega
theorem nu {T : ce} {p : List Int} {t : Int} {a : Linear_call} (h : Nxt T p t a) : f6 T (cC p t) + 1 = f6 T p := by
  obtain ⟨l, n, h1, h2, h3⟩ := h
  rw [ni h2]
  exact ql (az h1).2.1 (az h2).2.1 (aQ h3).1 (aQ h3).2
def OpV (op : Op) : Prop := ∀ i x, bc op i = some x → W64 x.value
theorem rh {C : List Chan} {i : Int} {c c' : Chan} (h : getI C i = some c) (hc : c'.capacity = c.capacity) : (aG C i c').map (·.capacity) = C.map (·.capacity) := by
  obtain ⟨_, h1, _⟩ := az h
  unfold aG
  rw [List.map_set, hc]
  have : (C.map (·.capacity))[i.toNat]? = some c.capacity := by rw [List.getElem?_map, h1]; rfl
  obtain ⟨h2, h3⟩ := List.getElem?_eq_some_iff.1 this
  exact List.ext_getElem (by simp) fun k hk hk' => by
    rw [List.getElem_set]
    split
    · rename_i e; subst e; exact h3.symm
    · rfl
theorem py {caps : List Int} {C : List Chan} {i : Int} {c c' : Chan} (h : ChW caps C) (hi : getI C i = some c) (hc : c'.capacity = c.capacity) (ho : cx (aG C i c')) (hv : ∀ v ∈ c'.buffer, W64 v) : ChW caps (aG C i c') := by
  refine ⟨ho, by rw [rh hi hc]; exact h.caps, fun d hd v hv' => ?_⟩
  rcases ci hd with rfl | hd
  · exact hv v hv'
  · exact h.val d hd v hv'
theorem ul {caps : List Int} {C : List Chan} {x : Case} {r : Result} (h : ChW caps C) (hx : W64 x.value) (ha : (cF C x r).2 = true) (ho : cx (cF C x r).1) : ChW caps (cF C x r).1 := by
  revert ha ho
  unfold cF
  cases hi : getI C x.channel with
  | none => intro ha; cases ha
  | some c =>
    have hcv := h.val c (aH hi)
    simp only
    split
    · split
      · intro _ ho
        refine py h hi rfl ho fun v hv => ?_
        rcases List.mem_append.1 hv with hv | hv
        · exact hcv v hv
        · rw [List.mem_singleton] at hv; subst hv; exact hx
      · intro ha; cases ha
    · split
      · split
        · intro _ _; exact h
        · intro ha; cases ha
      · split
        · split
          · intro ha; cases ha
          · split
            · split
              · intro _ ho
                exact py h hi rfl ho fun v hv => hcv v (List.mem_of_mem_drop hv)
              · intro ha; cases ha
            · split
              · intro _ _; exact h
              · intro ha; cases ha
        · intro ha; cases ha
theorem rH {caps : List Int} {C : List Chan} {op : Op} {r : Result} (h : ChW caps C) (hv : OpV op) (ha : (aO C op r).2 = true) : ChW caps (aO C op r).1 := by
  have ho := (qI h.ok ha).1
  revert ha ho
  unfold aO
  split
  · split
    · intro ha; cases ha
    · rename_i x hx
      intro ha ho
      exact ul h (hv _ _ hx) ha ho
  · split
    · split
      · intro _ _; exact h
      · intro ha; cases ha
    · split
      · split
        · cases hi : getI C op.channel with
          | none => intro ha; cases ha
          | some c => intro _ ho; exact py h hi rfl ho (h.val c (aH hi))
        · intro ha; cases ha
      · split
        · split
          · intro _ _; exact h
          · intro ha; cases ha
        · split
          · split
            · intro _ _; exact h
            · intro ha; cases ha
          · split
            · split
              · intro _ _; exact h
              · intro ha; cases ha
            · intro ha; cases ha
def lR (T : ce) : Prop := ∀ l ∈ T, ∀ a ∈ l, OpM a.op ∧ OpV a.op
theorem Nxt.ok {T : ce} (h : lR T) {p : List Int} {t : Int} {a : Linear_call} (hn : Nxt T p t a) : OpM a.op ∧ OpV a.op := by
  obtain ⟨l, n, h1, h2, h3⟩ := hn
  exact h l (aH h1) a (aH h3)
def Sound (T : ce) (op : Bool) (acc : List Chan → Prop) (caps : List Int) (f : ByteArray → Option Bool) : Prop := ∀ p C, WfP T p → ChW caps C → ep f (cT p C) false = true → ∀ ds, ¬ Way T op acc p C ds
structure mY (T : ce) (op : Bool) (acc : List Chan → Prop) (caps : List Int) (p : List Int) (C : List Chan) (order : List Done) (r : Bool × List Done × (ByteArray → Option Bool)) : Prop where
  sound : Sound T op acc caps r.2.2
  yes : r.1 = true → ∃ ds, Way T op acc p C ds ∧ r.2.1 = order ++ ds
  no : r.1 = false → (∀ ds, ¬ Way T op acc p C ds) ∧ r.2.1 = order
theorem oD {P : Bool × List Done × (ByteArray → Option Bool) → Prop} {rc : ce → Bool → (ByteArray → Option Bool) → List Done → List Int → List Chan → Option (Bool × List Done × (ByteArray → Option Bool))} {T : ce} {op : Bool} {f : ByteArray → Option Bool} {order ds : List Done} {p : List Int} {C : List Chan}
    (hds : ∀ d ∈ ds, 0 ≤ d.thread ∧ d.thread < (p.length : Int)) (hp : ∀ n ∈ p, 0 ≤ n ∧ n ≤ 1000000) (hl : ds.length ≤ 2) (hpl : p.length ≤ 1000) (h : Ok (kY C ds T op order f rc (ds.foldl (fun p d => cC p d.thread) p)) P) :
    Ok (kZ rc T op f order p C ds) P := by
  unfold kZ
  refine Ok.bindEq (b := p) (by unfold mn; rw [bk (by simp; omega)]; rfl) ?_
  refine cq (fun _ i => ((ds.length : Int) - i).toNat) (fun l i => 0 ≤ i ∧ i ≤ (ds.length : Int) ∧ l.length = p.length ∧ (∀ n ∈ l, 0 ≤ n ∧ n ≤ 1000000 + i) ∧ (ds.drop i.toNat).foldl (fun p d => cC p d.thread) l = ds.foldl (fun p d => cC p d.thread) p) (fun _ _ => P) ?_ BIG p 0 ⟨by omega, by omega, rfl, fun n hn => by have := hp n hn; omega, by simp⟩ (bv (by omega))
  intro l i k ⟨i0, i1, g1, g2, g3⟩ hk
  unfold mz
  refine Ok.ite (fun hi => ?_) fun hi => ?_
  · obtain ⟨d, hd⟩ : ∃ d, getI ds i = some d := ⟨_, aF i0 hi⟩
    obtain ⟨d0, d1⟩ := hds d (aH hd)
    obtain ⟨n, hn⟩ : ∃ n, getI l d.thread = some n := ⟨_, aF d0 (by omega)⟩
    have := g2 n (aH hn)
    refine Ok.bindEq hd ?_
    refine Ok.bindEq hn ?_
    refine Ok.bindEq hn ?_
    rw [be (x := n + 1) (by omega) (by omega), be (by omega) (by omega)]
    refine hk _ _ ⟨by omega, by omega, by rw [aJ]; exact g1, fun m hm => ?_, ?_⟩ (by omega)
    · rcases ci hm with rfl | hm
      · omega
      · have := g2 m hm; omega
    · rw [← g3, cA hd, List.foldl_cons, ni hn]
  · rw [List.drop_eq_nil_of_le (by omega)] at g3
    simp only [List.foldl_nil] at g3
    rw [g3]; exact h
section
variable {T : ce} {op : Bool} {acc : List Chan → Prop} {caps : List Int} {p : List Int} {C : List Chan}
def hM (T : ce) (op : Bool) (acc : List Chan → Prop) (p : List Int) (C : List Chan) (t : Int) : Prop := ∀ a r ds, Cand T op p t a → r ∈ gi a C → (aO C a.op r).2 = true → ¬ Way T op acc (cC p t) (aO C a.op r).1 ds
def eE (T : ce) (op : Bool) (acc : List Chan → Prop) (p : List Int) (C : List Chan) (t u : Int) : Prop := ∀ a b x y ds, Cand T op p t a → Cand T op p u b → u ≠ t → ca C a.op x b.op y = true → cn a x → cn b y → ¬ Way T op acc (cC (cC p t) u) C ds
theorem noway (hs : (∃ c, kE T p c ∧ 0 ≤ c.coming) ∨ ¬ acc C) (h : ∀ t, hM T op acc p C t ∧ ∀ u, eE T op acc p C t u) : ∀ ds, ¬ Way T op acc p C ds := by
  intro ds hw
  cases hw with
  | stop h1 ha =>
    rcases hs with ⟨c, c1, c2⟩ | hs
    · have := h1 c c1; omega
    · exact hs ha
  | one h1 hr ha hw => exact (h _).1 _ _ _ h1 hr ha hw
  | two h1 h2 hne hp hx hy hw => exact (h _).2 _ _ _ _ _ _ h1 h2 hne hp hx hy hw
theorem Cand.rng {t : Int} {a : Linear_call} (h : Cand T op p t a) : 0 ≤ t ∧ t < (T.length : Int) := by
  obtain ⟨l, n, h1, _⟩ := h.nxt
  exact aQ h1
theorem Cand.rngp {t : Int} {a : Linear_call} (h : Cand T op p t a) : 0 ≤ t ∧ t < (p.length : Int) := by
  obtain ⟨l, n, _, h1, _⟩ := h.nxt
  exact aQ h1
theorem Sound.put {f : ByteArray → Option Bool} (h : Sound T op acc caps f) (hp : WfP T p) (hC : ChW caps C) (hn : ∀ ds, ¬ Way T op acc p C ds) : Sound T op acc caps (upd f (cT p C) true) := by
  intro q D hq hD hl
  unfold ep upd at hl
  by_cases e : cT q D = cT p C
  · obtain ⟨e1, e2⟩ := qP (by rw [hq.len, hp.len]) hD hC e
    subst e1 e2; exact hn
  · rw [if_neg e] at hl
    exact h q D hq hD hl
theorem qs {t u : Int} {a b : Linear_call} (h : Nxt T p t a) (h' : Nxt T p u b) (hne : u ≠ t) : Nxt T (cC p t) u b := by
  obtain ⟨l, n, h1, h2, h3⟩ := h
  obtain ⟨l', n', g1, g2, g3⟩ := h'
  exact ⟨l', n', g1, by rw [gf h2, if_neg hne]; exact g2, g3⟩
theorem WfP.nums (h : WfP T p) : (∀ n ∈ p, 0 ≤ n ∧ n ≤ 1000) ∧ p.length ≤ 1000 := by
  refine ⟨fun n hn => ?_, by rw [h.len]; exact h.lt⟩
  obtain ⟨i, hi⟩ := List.mem_iff_getElem?.1 hn
  have hi2 := (List.getElem?_eq_some_iff.1 hi).1
  rw [h.len] at hi2
  obtain ⟨l, hl⟩ : ∃ l, getI T (i : Int) = some l := ⟨_, aF (by omega) (by omega)⟩
  have := h.each i l n hl (by rw [bS]; exact hi)
  omega
end
theorem sQ {T : ce} {op : Bool} {caps : List Int} (hT : lR T) (hcaps : caps.length ≤ 10) : ∀ (fu : Nat) (p : List Int) (C : List Chan) (f : ByteArray → Option Bool) (order : List Done), WfP T p → ChW caps C → Sound T op (fun _ => True) caps f → f6 T p < fu → order.length + f6 T p ≤ 1000 → Ok (gw fu T op f order p C) fun r => mY T op (fun _ => True) caps p C order r
  | 0, _, _, _, _, _, _, _, h, _ => by omega
  | fu + 1, p, C, f, order, hp, hC, hf, hfu, hord => by
    have hpn := hp.nums
    have hpn1 : ∀ n ∈ p, 0 ≤ n ∧ n ≤ 1000000 := fun n hn => by have := hpn.1 n hn; omega
    have hTl := hp.lt
    have ih := fun p C f order => sQ (op := op) hT hcaps fu p C f order
    show Ok (iP (gw fu) T op f order p C) _
    generalize hrc : gw fu = rc at *
    unfold iP
    refine Ok.bd2 (sD hp) fun least any hL => ?_
    simp only at hL
    refine Ok.ite (fun hany => ?_) fun hany => ?_
    rotate_left
    · rcases hL with ⟨_, h2⟩ | ⟨h1, _⟩
      · exact Ok.some ⟨hf, fun _ => ⟨[], .stop h2 trivial, by simp⟩, fun h => by cases h⟩
      · exact absurd h1 hany
    subst hany
    have hex : ∃ c, kE T p c ∧ 0 ≤ c.coming := by
      rcases hL with ⟨h1, _⟩ | ⟨_, ⟨c, c1, c2, _⟩, _⟩
      · cases h1
      · exact ⟨c, c1, c2⟩
    refine Ok.bindEq (oh (by omega) hpn1 hC hcaps) ?_
    refine Ok.ite (fun hk => Ok.some ⟨hf, fun h => (by cases h), fun _ => ⟨hf p C hp hC hk, rfl⟩⟩) fun _ => ?_
    refine ea (fun i _ _ => ((T.length : Int) - i).toNat) (fun i m l => 0 ≤ i ∧ i ≤ (T.length : Int) ∧ Sound T op (fun _ => True) caps m ∧ l = order ∧ ∀ t, t < i → hM T op (fun _ => True) p C t ∧ ∀ u, eE T op (fun _ => True) p C t u) (fun _ _ _ r => mY T op (fun _ => True) caps p C order r) ?_ BIG 0 f order ⟨by omega, by omega, hf, rfl, fun t ht => ⟨fun a r ds h => by have := h.rng.1; omega, fun u a b x y ds h => by have := h.rng.1; omega⟩⟩ (bv (by omega))
    intro i m l k ⟨i0, i1, hm, hl, hd⟩ hk
    subst hl
    unfold mF
    refine Ok.ite (fun hi => ?_) fun hi => ?_
    rotate_left
    · unfold mA
      have hno := noway (.inl hex) fun t => by
        by_cases ht : t < i
        · exact hd t ht
        · exact ⟨fun a r ds h => by have := h.rng.2; omega, fun u a b x y ds h => by have := h.rng.2; omega⟩
      exact Ok.some ⟨hm.put hp hC hno, fun h => (by cases h), fun _ => ⟨hno, rfl⟩⟩
    have hJ2 : ∀ m', Sound T op (fun _ => True) caps m' → (hM T op (fun _ => True) p C i ∧ ∀ u, eE T op (fun _ => True) p C i u) → Ok (k7 p C least (cT p C) T i op k rc m' l) fun r => mY T op (fun _ => True) caps p C l r := fun m' h1 h2 => by
      unfold k7
      rw [be (by omega) (by omega)]
      refine hk _ _ _ ⟨by omega, by omega, h1, rfl, fun t ht => ?_⟩ (by omega)
      by_cases e : t = i
      · subst e; exact h2
      · exact hd t (by omega)
    refine Ok.bd2 (pV hp i0 hi hL) fun a b ⟨hb1, hb2⟩ => ?_
    simp only at hb1 hb2
    refine Ok.ite (fun hb => ?_) fun hb => ?_
    rotate_left
    · have hno := hb2 (by simpa using hb)
      exact hJ2 m hm ⟨fun a r ds h => absurd h (hno a), fun u a b x y ds h => absurd h (hno a)⟩
    have hca := hb1 hb
    obtain ⟨hao, hav⟩ := hca.nxt.ok hT
    refine Ok.bindEq (tG hC.ok hao) ?_
    have hrl : (gi a C).length ≤ 2002 := by
      unfold gi; split
      · simp
      · exact qN hao
    refine ea (fun j _ _ => (((gi a C).length : Int) - j).toNat) (fun j m l' => 0 ≤ j ∧ j ≤ ((gi a C).length : Int) ∧ Sound T op (fun _ => True) caps m ∧ l' = l ∧ ∀ r ∈ (gi a C).take j.toNat, (aO C a.op r).2 = true → ∀ ds, ¬ Way T op (fun _ => True) (cC p i) (aO C a.op r).1 ds) (fun _ _ _ r => mY T op (fun _ => True) caps p C l r) ?_ BIG 0 m l ⟨by omega, by omega, hm, rfl, by simp⟩ (bv (by omega))
    intro j m l' k2 ⟨j0, j1, hm, hl', hdj⟩ hk2
    subst hl'
    unfold mE
    refine Ok.ite (fun hj => ?_) fun hj => ?_
    · obtain ⟨r, hr⟩ : ∃ r, getI (gi a C) j = some r := ⟨_, aF j0 hj⟩
      have hrm := aH hr
      refine Ok.bindEq hr ?_
      refine Ok.bd2 (Q := fun x => x = aO C a.op r) ⟨_, eB hC.ok hao, rfl⟩ fun C' ok' hC' => ?_
      have e1 : (aO C a.op r).1 = C' := by rw [← hC']
      have e2 : (aO C a.op r).2 = ok' := by rw [← hC']
      have hJ4 : ∀ (b : Bool) m' , Sound T op (fun _ => True) caps m' → ((aO C a.op r).2 = true → ∀ ds, ¬ Way T op (fun _ => True) (cC p i) (aO C a.op r).1 ds) → Ok (jD p C least (cT p C) i T (gi a C) j op a k k2 rc false m' l') fun r => mY T op (fun _ => True) caps p C l' r := by
        intro b m' h1 h2
        unfold jD
        rw [if_neg (by decide), be (by omega) (by omega)]
        refine hk2 _ _ _ ⟨by omega, by omega, h1, rfl, fun r' hr' => ?_⟩ (by omega)
        rw [show (j + 1).toNat = j.toNat + 1 by omega] at hr'
        rcases (bL (az hr).2.1).1 hr' with hr' | rfl
        · exact hdj r' hr'
        · exact h2
      refine Ok.ite (fun hok => ?_) fun hok => ?_
      rotate_left
      · exact hJ4 true m hm fun h => absurd (by rw [← e2]; exact h) hok
      have hap : (aO C a.op r).2 = true := by rw [e2]; exact hok
      have hCW := rH hC hav hap
      rw [e1] at hCW
      have hre := nu hca.nxt
      refine Ok.bd3 (Q := fun q => Sound T op (fun _ => True) caps q.2.2 ∧ (q.1 = true → ∃ ds, Way T op (fun _ => True) (cC p i) C' ds ∧ q.2.1 = l' ++ [Done.mk i r] ++ ds) ∧ (q.1 = false → (∀ ds, ¬ Way T op (fun _ => True) (cC p i) C' ds) ∧ q.2.1 = l')) ?_ fun b l2 m2 ⟨q1, q2, q3⟩ => ?_
      · refine oD (fun d hd => ?_) hpn1 (by simp) (by omega) ?_
        · rw [List.mem_singleton] at hd; subst hd; exact hca.rngp
        · unfold kY
          refine Ok.bindEq (bk (by simp; omega)) ?_
          simp only [List.foldl_cons, List.foldl_nil]
          refine Ok.bd3 (ih _ _ _ _ (hp.inc hca.nxt) hCW hm (by omega) (by simp; omega)) fun b l2 m2 hR => ?_
          have hs := hR.sound
          have hy := hR.yes
          have hn := hR.no
          simp only at hs hy hn
          refine Ok.ite (fun hb => Ok.some ⟨hs, fun _ => hy hb, fun h => by cases h⟩) fun hb => ?_
          obtain ⟨h1, h2⟩ := hn (by simpa using hb)
          refine Ok.bindEq (cj (by omega) (by omega) (by rw [h2]; simp; omega)) ?_
          refine Ok.some ⟨hs, fun h => (by cases h), fun _ => ⟨h1, ?_⟩⟩
          rw [h2]; simp
      · simp only at q1 q2 q3
        by_cases hb : b = true
        · subst hb
          unfold jD
          rw [if_pos rfl]
          obtain ⟨ds, d1, d2⟩ := q2 rfl
          refine Ok.some ⟨q1, fun _ => ⟨Done.mk i r :: ds, ?_, by simpa using d2⟩, fun h => by cases h⟩
          exact .one hca hrm hap (by rw [e1]; exact d1)
        · obtain ⟨h1, h2⟩ := q3 (by simpa using hb)
          have hb : b = false := by simpa using hb
          subst hb h2
          exact hJ4 true m2 q1 fun _ => by rw [e1]; exact h1
    · -- the second thread
      unfold mD
      have hdead : hM T op (fun _ => True) p C i := fun a' r ds h hr ha => by
        have := h.nxt.inj hca.nxt
        subst this
        exact hdj r (by rw [List.take_of_length_le (by omega)]; exact hr) ha ds
      refine ea (fun u _ _ => ((T.length : Int) - u).toNat) (fun u m l2 => 0 ≤ u ∧ u ≤ (T.length : Int) ∧ Sound T op (fun _ => True) caps m ∧ l2 = l' ∧ ∀ v, v < u → eE T op (fun _ => True) p C i v) (fun _ _ _ r => mY T op (fun _ => True) caps p C l' r) ?_ BIG 0 m l' ⟨by omega, by omega, hm, rfl, fun v hv a b x y ds _ h => by have := h.rng.1; omega⟩ (bv (by omega))
      intro u m l2 k3 ⟨u0, u1, hm, hl2, hdu⟩ hk3
      subst hl2
      unfold mC
      refine Ok.ite (fun hu => ?_) fun hu => ?_
      rotate_left
      · refine hJ2 m hm ⟨hdead, fun v => ?_⟩
        by_cases hv : v < u
        · exact hdu v hv
        · exact fun a b x y ds _ h => by have := h.rng.2; omega
      have hJ5 : ∀ m', Sound T op (fun _ => True) caps m' → eE T op (fun _ => True) p C i u → Ok (k9 p C least (cT p C) i T u op a k k3 rc m' l2) fun r => mY T op (fun _ => True) caps p C l2 r := fun m' h1 h2 => by
        unfold k9
        rw [be (by omega) (by omega)]
        refine hk3 _ _ _ ⟨by omega, by omega, h1, rfl, fun v hv => ?_⟩ (by omega)
        by_cases e : v = u
        · subst e; exact h2
        · exact hdu v (by omega)
      refine Ok.bd2 (pV hp u0 hu hL) fun c b2 ⟨hc1, hc2⟩ => ?_
      simp only at hc1 hc2
      have hskip : eE T op (fun _ => True) p C i u → Ok (jC p C least (cT p C) i u T op l2 c a m k k3 rc true) fun r => mY T op (fun _ => True) caps p C l2 r := fun h => by
        unfold jC
        rw [if_pos rfl]
        exact hJ5 m hm h
      refine Ok.ite (fun hb2 => ?_) fun hb2 => ?_
      rotate_left
      · have hno := hc2 (by simpa using hb2)
        exact hskip fun a b x y ds _ h => absurd h (hno b)
      have hcc := hc1 hb2
      by_cases hui : u = i
      · rw [show dcd (u = i) = true from bP.2 hui]
        exact hskip fun a b x y ds _ _ h => absurd hui h
      rw [show dcd (u = i) = false from dZ.2 hui]
      obtain ⟨hco, hcv⟩ := hcc.nxt.ok hT
      unfold jC
      rw [if_neg (by decide)]
      refine Ok.bind (ou hao hco) fun ms ⟨hml, hms⟩ => ?_
      have hre := nu hca.nxt
      have hre2 := nu (qs hca.nxt hcc.nxt hui)
      refine ea (fun q _ _ => ((ms.length : Int) - q).toNat) (fun q m l3 => 0 ≤ q ∧ q ≤ (ms.length : Int) ∧ Sound T op (fun _ => True) caps m ∧ l3 = l2 ∧ (0 < q → ∀ ds, ¬ Way T op (fun _ => True) (cC (cC p i) u) C ds)) (fun _ _ _ r => mY T op (fun _ => True) caps p C l2 r) ?_ BIG 0 m l2 ⟨by omega, by omega, hm, rfl, fun h => by omega⟩ (bv (by omega))
      intro q m l3 k4 ⟨g0, g1, hm, hl3, hdq⟩ hk4
      subst hl3
      unfold mB
      refine Ok.ite (fun hq => ?_) fun hq => ?_
      rotate_left
      · refine hJ5 m hm fun a' b' x y ds h1 h2 hne hpq hx hy hw => ?_
        have e3 := h1.nxt.inj hca.nxt
        have e4 := h2.nxt.inj hcc.nxt
        subst e3 e4
        have : A2Result.mk x y ∈ ms := (hms _).2 ⟨hpq, hx, hy⟩
        have := List.length_pos_of_mem this
        exact hdq (by omega) ds hw
      obtain ⟨z, hz⟩ : ∃ z, getI ms q = some z := ⟨_, aF g0 hq⟩
      obtain ⟨z1, z2, z3⟩ := (hms z).1 (aH hz)
      refine Ok.bindEq hz ?_
      refine Ok.bd3 (Q := fun w => Sound T op (fun _ => True) caps w.2.2 ∧ (w.1 = true → ∃ ds, Way T op (fun _ => True) (cC (cC p i) u) C ds ∧ w.2.1 = l3 ++ [Done.mk i z.x0, Done.mk u z.x1] ++ ds) ∧ (w.1 = false → (∀ ds, ¬ Way T op (fun _ => True) (cC (cC p i) u) C ds) ∧ w.2.1 = l3)) ?_ fun b l4 m4 ⟨q1, q2, q3⟩ => ?_
      · refine oD (fun d hd => ?_) hpn1 (by simp) (by omega) ?_
        · simp only [List.mem_cons, List.not_mem_nil, or_false] at hd
          rcases hd with rfl | rfl
          · exact hca.rngp
          · exact hcc.rngp
        · unfold kY
          refine Ok.bindEq (bk (by simp; omega)) ?_
          simp only [List.foldl_cons, List.foldl_nil]
          refine Ok.bd3 (ih _ _ _ _ ((hp.inc hca.nxt).inc (qs hca.nxt hcc.nxt hui)) hC hm (by omega) (by simp; omega)) fun b l5 m5 hR => ?_
          have hs := hR.sound
          have hy := hR.yes
          have hn := hR.no
          simp only at hs hy hn
          refine Ok.ite (fun hb => Ok.some ⟨hs, fun _ => hy hb, fun h => by cases h⟩) fun hb => ?_
          obtain ⟨h1, h2⟩ := hn (by simpa using hb)
          refine Ok.bindEq (cj (by omega) (by omega) (by rw [h2]; simp; omega)) ?_
          refine Ok.some ⟨hs, fun h => (by cases h), fun _ => ⟨h1, ?_⟩⟩
          rw [h2]; simp
      · simp only at q1 q2 q3
        refine Ok.ite (fun hb => ?_) fun hb => ?_
        · obtain ⟨ds, d1, d2⟩ := q2 hb
          refine Ok.some ⟨q1, fun _ => ⟨Done.mk i z.x0 :: Done.mk u z.x1 :: ds, ?_, by simpa using d2⟩, fun h => by cases h⟩
          exact .two hca hcc hui z1 z2 z3 d1
        · obtain ⟨h1, h2⟩ := q3 (by simpa using hb)
          rw [be (by omega) (by omega)]
          exact hk4 _ _ _ ⟨by omega, by omega, q1, h2, fun _ => h1⟩ (by omega)
end Go.Hx

namespace Go.Hx
open Go
set_option linter.unusedVariables false
set_option linter.unusedSimpArgs false
def eT (o : Op) (l : List Event) (t k : Int) : Linear_call := Linear_call.mk o (gj l t k).1 (bb l t k false) (bb l t k true)
def cX (l : List Event) (t : Int) : List Op → Int → List Linear_call
  | [], _ => []
  | o :: row, k => if bb l t k false < 0 then [] else eT o l t k :: cX l t row (k + 1)
def bw (ops : List (List Op)) (l : List Event) : ce := ops.mapIdx fun t r => cX l (t : Int) r 0
section
variable {l : List Event} {t k : Int} {o : Op} {row : List Op} {ops : List (List Op)}
theorem re (h : bb l t k false < 0) : cX l t row k = [] := by
  cases row with
  | nil => rfl
  | cons o row => simp only [cX]; rw [if_pos h]
theorem q9 (h : ¬ bb l t k false < 0) : cX l t (o :: row) k = eT o l t k :: cX l t row (k + 1) := by
  simp only [cX]; rw [if_neg h]
theorem kz (l : List Event) (t : Int) : ∀ (row : List Op) (k : Int), (cX l t row k).length ≤ row.length
  | [], _ => Nat.le_refl _
  | o :: row, k => by
    simp only [cX]
    split
    · simp
    · have := kz l t row (k + 1)
      simp; omega
theorem oH (l : List Event) (t : Int) : ∀ (row : List Op) (k : Int) a, a ∈ cX l t row k → ∃ o ∈ row, ∃ j, k ≤ j ∧ 0 ≤ bb l t j false ∧ a = eT o l t j
  | [], _, a, h => by cases h
  | o :: row, k, a, h => by
    simp only [cX] at h
    split at h
    · cases h
    · rcases List.mem_cons.1 h with rfl | h
      · exact ⟨o, .head _, k, by omega, by omega, rfl⟩
      · obtain ⟨o', h1, j, h2, h3⟩ := oH l t row (k + 1) a h
        exact ⟨o', .tail _ h1, j, by omega, h3⟩
theorem ky (l : List Event) (t : Int) : ∀ (row : List Op) (k : Int) (n : Nat) (a : Linear_call), (cX l t row k)[n]? = some a ↔ ∃ o, row[n]? = some o ∧ a = eT o l t (k + n) ∧ ∀ j : Nat, j ≤ n → 0 ≤ bb l t (k + j) false
  | [], k, n, a => by simp [cX]
  | o :: row, k, 0, a => by
    simp only [cX]
    by_cases h : bb l t k false < 0
    · rw [if_pos h]
      simp only [List.getElem?_nil]
      constructor
      · intro h; cases h
      · rintro ⟨_, _, _, h3⟩
        have := h3 0 (by omega)
        simp at this; omega
    · rw [if_neg h]
      simp only [List.getElem?_cons_zero, Option.some.injEq]
      constructor
      · rintro rfl
        exact ⟨o, rfl, by simp, fun j hj => by have : j = 0 := by omega
                                               subst this; simp; omega⟩
      · rintro ⟨_, rfl, h2, _⟩
        rw [h2]; simp
  | o :: row, k, n + 1, a => by
    simp only [cX]
    by_cases h : bb l t k false < 0
    · rw [if_pos h]
      simp only [List.getElem?_nil]
      constructor
      · intro h; cases h
      · rintro ⟨_, _, _, h3⟩
        have := h3 0 (by omega)
        simp at this; omega
    · rw [if_neg h]
      simp only [List.getElem?_cons_succ]
      rw [ky l t row (k + 1) n a]
      constructor
      · rintro ⟨o', h1, h2, h3⟩
        refine ⟨o', h1, by rw [h2]; congr 1; omega, fun j hj => ?_⟩
        by_cases e : j = 0
        · subst e; simp; omega
        · have := h3 (j - 1) (by omega)
          rw [show k + (j : Int) = k + 1 + ((j - 1 : Nat) : Int) by omega]; exact this
      · rintro ⟨o', h1, h2, h3⟩
        refine ⟨o', h1, by rw [h2]; congr 1; omega, fun j hj => ?_⟩
        have := h3 (j + 1) (by omega)
        rw [show k + 1 + (j : Int) = k + ((j + 1 : Nat) : Int) by omega]; exact this
theorem eh : (bw ops l).length = ops.length := by unfold bw; rw [List.length_mapIdx]
theorem de (n : Nat) : (bw ops l)[n]? = (ops[n]?).map fun r => cX l (n : Int) r 0 := by unfold bw; rw [List.getElem?_mapIdx]
theorem nB {r : List Op} (h : getI ops t = some r) : getI (bw ops l) t = some (cX l t r 0) := by
  obtain ⟨h0, h1, _⟩ := az h
  rw [show t = ((t.toNat : Nat) : Int) by omega, bS, de, h1]; rfl
theorem ek {r : List Linear_call} (h : r ∈ bw ops l) : ∃ t row, getI ops t = some row ∧ r = cX l t row 0 := by
  obtain ⟨n, hn⟩ := List.mem_iff_getElem?.1 h
  rw [de] at hn
  cases ho : ops[n]? with
  | none => rw [ho] at hn; cases hn
  | some row => rw [ho] at hn; cases hn; exact ⟨(n : Int), row, by rw [bS]; exact ho, rfl⟩
end
theorem tN {α : Type} {l : List α} {i : Int} {a : α} (h : getI l i = some a) : aG l i a = l := by
  obtain ⟨h0, h1, _⟩ := az h
  obtain ⟨h2, h3⟩ := List.getElem?_eq_some_iff.1 h1
  unfold aG
  rw [← h3, List.set_getElem_self]
theorem sU {α : Type} (l : List α) (i : Int) (a b : α) : aG (aG l i a) i b = aG l i b := by
  unfold aG; rw [List.set_set]
theorem rI {ops : List (List Op)} {l : List Event} (hl : l.length ≤ 100000) (ho : ops.length ≤ 1000) (hr : ∀ r ∈ ops, r.length ≤ 1000) : nK ops l = some (bw ops l, false, dI ByteArray Bool) := by
  refine Ok.eq ?_
  unfold nK
  refine Ok.bindEq (eb (by omega) (by omega)) ?_
  have hfin : ∀ T : ce, T.length = ops.length → (∀ t r, getI ops t = some r → getI T t = some (cX l t r 0)) → T = bw ops l := fun T h1 h2 => by
    refine List.ext_getElem? fun n => ?_
    rw [de]
    cases hn : ops[n]? with
    | none =>
      have hn := List.getElem?_eq_none_iff.1 hn
      rw [List.getElem?_eq_none (by rw [h1]; exact hn)]; rfl
    | some r =>
      have := h2 (n : Int) r (by rw [bS]; exact hn)
      rw [bS] at this
      rw [this]; rfl
  refine cq (fun i _ => ((ops.length : Int) - i).toNat) (fun i T => 0 ≤ i ∧ i ≤ (ops.length : Int) ∧ T.length = ops.length ∧ (∀ t r, t < i → getI ops t = some r → getI T t = some (cX l t r 0)) ∧ ∀ t, i ≤ t → t < (ops.length : Int) → getI T t = some []) (fun _ _ r => r = (bw ops l, false, dI ByteArray Bool)) ?_ BIG 0 (List.replicate ((ops.length : Int)).toNat []) ⟨by omega, by omega, by simp, fun t r h h2 => by have := (aQ h2).1; omega, fun t h0 h1 => ?_⟩ (bv (by omega))
  rotate_left
  · obtain ⟨x, hx⟩ : ∃ x, getI (List.replicate ((ops.length : Int)).toNat ([] : List Linear_call)) t = some x := ⟨_, aF h0 (by rw [List.length_replicate]; omega)⟩
    rw [hx, (List.mem_replicate.1 (aH hx)).2]
  intro i T k ⟨i0, i1, hT, hA, hB⟩ hk
  unfold lX
  refine Ok.ite (fun hi => ?_) fun hi => ?_
  rotate_left
  · unfold lT
    refine Ok.some ?_
    rw [hfin T hT fun t r htr => hA t r (by have := (aQ htr).2; omega) htr]
  obtain ⟨row, hrow⟩ : ∃ r, getI ops i = some r := ⟨_, aF i0 hi⟩
  have hrl := hr row (aH hrow)
  have hTi := hB i (by omega) hi
  have hJ2 : ∀ c, c = cX l i row 0 → Ok (kO ops l i k (aG T i c)) fun r => r = (bw ops l, false, dI ByteArray Bool) := fun c hc => by
    unfold kO
    rw [be (by omega) (by omega)]
    refine hk _ _ ⟨by omega, by omega, by rw [aJ]; exact hT, fun t r ht htr => ?_, fun t ht0 ht1 => ?_⟩ (by omega)
    · rw [gg i0 (by omega)]
      by_cases e : t = i
      · subst e; rw [if_pos rfl, hc]; rw [hrow] at htr; cases htr; rfl
      · rw [if_neg e]; exact hA t r (by omega) htr
    · rw [gg i0 (by omega), if_neg (by omega)]; exact hB t (by omega) ht1
  refine Ok.bindEq hrow ?_
  refine cq (fun j _ => ((row.length : Int) - j).toNat) (fun j T' => 0 ≤ j ∧ j ≤ (row.length : Int) ∧ ∃ c, T' = aG T i c ∧ (c.length : Int) = j ∧ cX l i row 0 = c ++ cX l i (row.drop j.toNat) j) (fun _ _ r => r = (bw ops l, false, dI ByteArray Bool)) ?_ BIG 0 T ⟨by omega, by omega, [], (tN hTi).symm, by simp, by simp⟩ (bv (by omega))
  intro j T' k2 ⟨j0, j1, c, hc1, hc2, hc3⟩ hk2
  subst hc1
  unfold lW
  refine Ok.ite (fun hj => ?_) fun hj => ?_
  rotate_left
  · refine hJ2 c ?_
    rw [hc3, List.drop_eq_nil_of_le (by omega)]; simp [cX]
  obtain ⟨o, ho'⟩ : ∃ o, getI row j = some o := ⟨_, aF j0 hj⟩
  rw [cA ho'] at hc3
  refine Ok.bindEq ho' ?_
  refine Ok.bindEq (qw (by omega)) ?_
  unfold lV
  refine Ok.ite (fun hf => ?_) fun hf => ?_
  · refine hJ2 c ?_
    rw [hc3, re hf, List.append_nil]
  rw [q9 hf] at hc3
  have hg : getI (aG T i c) i = some c := by rw [gg i0 (by omega), if_pos rfl]
  refine Ok.bd2 (Q := fun x => x = gj l i j) ⟨_, nQ (by omega), rfl⟩ fun a b hab => ?_
  have ha : a = (gj l i j).1 := by rw [← hab]
  have hb : b = bb l i j true := by rw [← sM, ← hab]
  refine Ok.bindEq hg ?_
  refine Ok.bindEq (bk (by simp; omega)) ?_
  refine Ok.bindEq hg ?_
  unfold lU
  rw [sU, be (by omega) (by omega)]
  refine hk2 _ _ ⟨by omega, by omega, c ++ [eT o l i j], by rw [ha, hb]; rfl, by simp; omega, ?_⟩ (by omega)
  rw [hc3, List.append_assoc]; rfl
def eu (ops : List (List Op)) : List Int := List.replicate ops.length 0
def pq (x : Config) : List Chan := x.capacities.map fun k => Chan.mk k [] false
theorem kq {x : Config} (hx : x.capacities.length ≤ 1000) : nL x = some (pq x) := by
  refine Ok.eq ?_
  unfold nL
  refine cq (fun _ i => ((x.capacities.length : Int) - i).toNat) (fun l i => 0 ≤ i ∧ i ≤ (x.capacities.length : Int) ∧ l = (x.capacities.take i.toNat).map fun k => Chan.mk k [] false) (fun _ _ r => r = pq x) ?_ BIG [] 0 ⟨by omega, by omega, by simp⟩ (bv (by omega))
  intro l i k ⟨h0, h1, h2⟩ hk
  unfold lY
  refine Ok.ite (fun h3 => ?_) fun h3 => ?_
  · obtain ⟨y, hy⟩ : ∃ y, getI x.capacities i = some y := ⟨_, aF h0 h3⟩
    refine Ok.bindEq hy ?_
    refine Ok.bindEq (bk (by rw [h2]; simp; omega)) ?_
    rw [be (by omega) (by omega)]
    refine hk _ _ ⟨by omega, by omega, ?_⟩ (by omega)
    rw [cB hy, h2]; simp
  · refine Ok.some ?_
    rw [h2, List.take_of_length_le (by omega)]; rfl
structure HistIn (x : Config) (ops : List (List Op)) (l : List Event) : Prop where
  len : l.length ≤ 100000
  thr : ops.length ≤ 4
  rows : ∀ r ∈ ops, r.length ≤ 20
  caps : x.capacities.length ≤ 10
  cap : ∀ k ∈ x.capacities, k ≤ 1000
  ops : ∀ r ∈ ops, ∀ o ∈ r, OpM o ∧ OpV o
theorem qk {b : Nat} : ∀ (T : ce) (p : List Int), (∀ r ∈ T, r.length ≤ b) → f6 T p ≤ T.length * b
  | [], p, _ => by simp [f6]
  | l :: T, [], _ => by simp [f6]
  | l :: T, n :: p, h => by
    have h1 := h l (.head _)
    have h2 := qk T p fun r hr => h r (.tail _ hr)
    simp only [f6, List.length_cons, Nat.add_mul, Nat.one_mul]; omega
theorem dS {n : Nat} {t m : Int} (h : getI (List.replicate n (0 : Int)) t = some m) : m = 0 := (List.mem_replicate.1 (aH h)).2
section
variable {x : Config} {ops : List (List Op)} {l : List Event}
theorem HistIn.wf (h : HistIn x ops l) : WfP (bw ops l) (eu ops) := by
  have h1 := h.thr
  refine ⟨by simp [eu, eh], by rw [eh]; omega, fun t r n hr hn => ?_⟩
  have := dS hn
  obtain ⟨t', row, h2, rfl⟩ := ek (aH hr)
  have h3 := kz l t' row 0
  have h4 := h.rows row (aH h2)
  omega
theorem HistIn.calls (h : HistIn x ops l) : lR (bw ops l) := fun r hr a ha => by
  obtain ⟨t, row, h2, rfl⟩ := ek hr
  obtain ⟨o, h3, j, _, _, rfl⟩ := oH _ _ _ _ _ ha
  exact h.ops row (aH h2) o h3
theorem HistIn.rem (h : HistIn x ops l) : f6 (bw ops l) (eu ops) ≤ 80 := by
  have h1 := qk (b := 20) (bw ops l) (eu ops) fun r hr => by
    obtain ⟨t, row, h2, rfl⟩ := ek hr
    exact Nat.le_trans (kz l t row 0) (h.rows row (aH h2))
  rw [eh] at h1
  have := h.thr; omega
theorem um (h : HistIn x ops l) : ChW x.capacities (pq x) := by
  have h1 := h.caps
  refine ⟨⟨by simp [pq]; omega, fun c hc => ?_, fun c hc => ?_⟩, by simp [pq, Function.comp_def], fun c hc v hv => ?_⟩
  · obtain ⟨k, _, rfl⟩ := List.mem_map.1 hc; simp
  · obtain ⟨k, hk, rfl⟩ := List.mem_map.1 hc; exact h.cap k hk
  · obtain ⟨k, _, rfl⟩ := List.mem_map.1 hc; cases hv
def rq (x : Config) (ops : List (List Op)) (l : List Event) (ds : List Done) : Prop := Way (bw ops l) true (fun _ => True) (eu ops) (pq x) ds
theorem pg (h : HistIn x ops l) : Ok (lb x ops l) fun r => (r.2 = true → rq x ops l r.1) ∧ (r.2 = false → r.1 = [] ∧ ∀ ds, ¬ rq x ops l ds) := by
  have h1 := h.thr
  have h2 := h.caps
  have hr := h.rem
  unfold lb
  refine Ok.bd3 (Q := fun r => r = (bw ops l, false, dI ByteArray Bool)) ⟨_, rI h.len (by omega) (fun r hr => by have := h.rows r hr; omega), rfl⟩ fun T b m e => ?_
  cases e
  refine Ok.bindEq (eb (by omega) (by omega)) ?_
  refine Ok.bindEq (kq (by omega)) ?_
  have hz : List.replicate ((ops.length : Int)).toNat (0 : Int) = eu ops := by simp [eu]
  rw [hz]
  refine Ok.bd3 (sQ h.calls h2 100 (eu ops) (pq x) _ [] h.wf (um h) (fun p C _ _ hl => ?_) (by omega) (by simp; omega)) fun b l2 m hR => ?_
  · simp [ep, dI] at hl
  have hy := hR.yes
  have hn := hR.no
  simp only at hy hn
  unfold mG
  cases b with
  | true =>
    rw [if_neg (by decide)]
    obtain ⟨ds, d1, d2⟩ := hy rfl
    refine Ok.some ⟨fun _ => ?_, fun h => by cases h⟩
    rw [List.nil_append] at d2
    subst d2; exact d1
  | false =>
    rw [if_pos (by decide)]
    exact Ok.some ⟨fun h => (by cases h), fun _ => ⟨rfl, (hn rfl).1⟩⟩
theorem rm (h : HistIn x ops l) : Ok (fB x ops l) fun b => b = true ↔ ∃ ds, rq x ops l ds := by
  unfold fB
  refine Ok.bd2 (pg h) fun ds b ⟨h1, h2⟩ => Ok.some ?_
  simp only at h1 h2
  constructor
  · intro hb; exact ⟨ds, h1 hb⟩
  · rintro ⟨ds', hd⟩
    cases b with
    | true => rfl
    | false => exact absurd hd ((h2 rfl).2 ds')
end
end Go.Hx

namespace Go.Hx
open Go
set_option linter.unusedVariables false
set_option linter.unusedSimpArgs false
theorem te : mH = some true := by decide +kernel
theorem tW {a n : Int} (h : 1 ≤ n) (h1 : n ≤ 1000) : Ok (lh a n) fun r => 0 ≤ r ∧ r < n := by
  unfold lh
  have hn : kw a n = some (Int.tmod a n) := by unfold kw; rw [if_neg (by omega)]
  refine Ok.bindEq hn ?_
  have h3 : Int.tmod a n < n := Int.tmod_lt_of_pos _ (by omega)
  have h4 : -n < Int.tmod a n := by
    have h5 := Int.tmod_lt_of_pos (-a) (show 0 < n by omega)
    rw [Int.neg_tmod] at h5; omega
  refine Ok.ite (fun h => ?_) fun h => Ok.some ⟨by omega, by omega⟩
  rw [be (by omega) (by omega)]
  exact Ok.some ⟨by omega, by omega⟩
end Go.Hx

namespace Go.Hx
open Go
set_option linter.unusedVariables false
set_option linter.unusedSimpArgs false
structure WOk (w : Waiter) : Prop where
  op : OpOk w.op
  kind : w.op.kind = 1 ∨ w.op.kind = 2 ∨ w.op.kind = 4
theorem OpOk.len {o : Op} (h : OpOk o) : o.cases.length ≤ 20 := by have := h.lens; omega
theorem lM (l : List Done) (t : Int) : ∀ k, k ≤ l.length → (∀ y ∈ (l.take k).drop (cU l t k), y.thread > t) ∧ (cU l t k = 0 ∨ ∃ y, l[cU l t k - 1]? = some y ∧ y.thread ≤ t)
  | 0, _ => ⟨by simp, .inl rfl⟩
  | k + 1, h => by
    obtain ⟨y, hy⟩ : ∃ y, l[k]? = some y := ⟨l[k], List.getElem?_eq_getElem (by omega)⟩
    have e : cU l t (k + 1) = if y.thread > t then cU l t k else k + 1 := by
      show (match l[k]? with | some y => if y.thread > t then cU l t k else k + 1 | none => k + 1) = _
      rw [hy]
    obtain ⟨h1, h2⟩ := lM l t k (by omega)
    by_cases hg : y.thread > t
    · rw [e, if_pos hg]
      refine ⟨fun z hz => ?_, h2⟩
      rw [List.take_add_one, hy] at hz
      have := ie l t k
      rw [List.drop_append_of_le_length (by rw [List.length_take]; omega)] at hz
      rcases List.mem_append.1 hz with hz | hz
      · exact h1 z hz
      · simp at hz; subst hz; exact hg
    · rw [e, if_neg hg]
      refine ⟨fun z hz => ?_, .inr ⟨y, by simpa using hy, by omega⟩⟩
      rw [List.drop_eq_nil_of_le (by rw [List.length_take]; omega)] at hz
      cases hz
def Srt (l : List Done) : Prop := l.Pairwise (fun a b => a.thread ≤ b.thread)
theorem cS {l : List Done} {t : Int} {r : Result} (h : Srt l) : bV l t r = l.filter (fun y => decide (y.thread ≤ t)) ++ Done.mk t r :: l.filter (fun y => decide (t < y.thread)) := by
  obtain ⟨h1, h2⟩ := lM l t l.length (Nat.le_refl _)
  rw [List.take_length] at h1
  have hle := ie l t l.length
  have h3 : ∀ y ∈ l.take (cU l t l.length), y.thread ≤ t := by
    rcases h2 with h2 | ⟨z, hz, hzt⟩
    · rw [h2]; simp
    · intro y hy
      obtain ⟨i, hi, hiy⟩ := List.mem_iff_getElem.1 hy
      rw [List.length_take] at hi
      rw [List.getElem_take] at hiy
      obtain ⟨hz1, hz2⟩ := List.getElem?_eq_some_iff.1 hz
      rcases Nat.lt_or_ge i (cU l t l.length - 1) with hlt | hge
      · have := List.pairwise_iff_getElem.1 h i (cU l t l.length - 1) (by omega) hz1 hlt
        rw [hiy, hz2] at this; omega
      · have : i = cU l t l.length - 1 := by omega
        subst this
        rw [← hiy, hz2]; exact hzt
  have e1 : l.filter (fun y => decide (y.thread ≤ t)) = l.take (cU l t l.length) := by
    conv => lhs; rw [← List.take_append_drop (cU l t l.length) l]
    rw [List.filter_append, List.filter_eq_self.2 (fun y hy => by simpa using h3 y hy), List.filter_eq_nil_iff.2 (fun y hy => by have := h1 y hy; simp; omega), List.append_nil]
  have e2 : l.filter (fun y => decide (t < y.thread)) = l.drop (cU l t l.length) := by
    conv => lhs; rw [← List.take_append_drop (cU l t l.length) l]
    rw [List.filter_append, List.filter_eq_nil_iff.2 (fun y hy => by have := h3 y hy; simp; omega), List.filter_eq_self.2 (fun y hy => by simpa using h1 y hy), List.nil_append]
  unfold bV
  rw [e1, e2]
theorem fH {l : List Done} {t : Int} {r : Result} (h : Srt l) : Srt (bV l t r) := by
  rw [cS h]
  unfold Srt
  rw [List.pairwise_append]
  refine ⟨h.filter _, List.pairwise_cons.2 ⟨fun y hy => ?_, h.filter _⟩, fun a ha b hb => ?_⟩
  · simp at hy; simp only; omega
  · simp at ha
    rcases List.mem_cons.1 hb with rfl | hb
    · simp only; omega
    · simp at hb; omega
theorem pE {l : List Done} {a b : Int} {ra rb : Result} (h : Srt l) (hab : a < b) : bV (bV l a ra) b rb = bV (bV l b rb) a ra := by
  rw [cS (fH h), cS (fH h), cS h, cS h]
  simp only [List.filter_append, List.filter_cons, List.filter_filter]
  rw [if_pos (by simp; omega), if_neg (by simp; omega), if_neg (by simp; omega), if_pos (by simp; omega)]
  have e1 : ∀ y : Done, (decide (y.thread ≤ b) && decide (y.thread ≤ a)) = decide (y.thread ≤ a) := fun y => by by_cases h1 : y.thread ≤ a <;> simp [h1]; omega
  have e2 : ∀ y : Done, (decide (b < y.thread) && decide (y.thread ≤ a)) = false := fun y => by by_cases h1 : y.thread ≤ a <;> simp [h1]; omega
  have e3 : ∀ y : Done, (decide (b < y.thread) && decide (a < y.thread)) = decide (b < y.thread) := fun y => by by_cases h1 : b < y.thread <;> simp [h1]; omega
  have e4 : ∀ y : Done, (decide (y.thread ≤ a) && decide (y.thread ≤ b)) = decide (y.thread ≤ a) := fun y => by by_cases h1 : y.thread ≤ a <;> simp [h1]; omega
  have e5 : ∀ y : Done, (decide (y.thread ≤ a) && decide (b < y.thread)) = false := fun y => by by_cases h1 : y.thread ≤ a <;> simp [h1]; omega
  have e6 : ∀ y : Done, (decide (a < y.thread) && decide (b < y.thread)) = decide (b < y.thread) := fun y => by by_cases h1 : b < y.thread <;> simp [h1]; omega
  have e7 : ∀ y : Done, (decide (y.thread ≤ b) && decide (a < y.thread)) = (decide (a < y.thread) && decide (y.thread ≤ b)) := fun y => Bool.and_comm _ _
  simp only [e1, e2, e3, e4, e5, e6, e7]
  have en : ∀ l : List Done, l.filter (fun _ => false) = [] := fun l => List.filter_eq_nil_iff.2 (by simp)
  simp only [en, List.nil_append, List.append_nil, List.append_assoc, List.cons_append]
theorem qF {l : List Done} {a b : Int} {ra rb : Result} (h : Srt l) (hab : a ≠ b) : bV (bV l a ra) b rb = bV (bV l b rb) a ra := by
  rcases Int.lt_or_gt_of_ne hab with h1 | h1
  · exact pE h h1
  · exact (pE h h1).symm
theorem rF (t : Int) (r : Result) : bV [] t r = [Done.mk t r] := rfl
theorem qq : Srt [] := List.Pairwise.nil
theorem gn (ch : Int) (send : Bool) (kd : Int) : ∀ (ws : List Waiter) (o1 o2 : List Done), (bf ch send kd ws o1).1 = (bf ch send kd ws o2).1
  | [], _, _ => rfl
  | w :: ws, o1, o2 => by
    unfold bf
    split
    · simp only; rw [gn ch send kd ws o1 o2]
    · exact gn ch send kd ws _ _
theorem gq (ch : Int) (send : Bool) (kd : Int) : ∀ (ws : List Waiter) (o : List Done), Srt o → Srt (bf ch send kd ws o).2
  | [], _, h => h
  | w :: ws, o, h => by
    unfold bf
    split
    · exact gq ch send kd ws o h
    · exact gq ch send kd ws _ (fH h)
theorem eL (ch : Int) (send : Bool) (kd : Int) {t : Int} {r : Result} : ∀ (ws : List Waiter) (o : List Done), Srt o → (∀ w ∈ ws, w.thread ≠ t) → bV (bf ch send kd ws o).2 t r = (bf ch send kd ws (bV o t r)).2
  | [], _, h, _ => rfl
  | w :: ws, o, h, hw => by
    unfold bf
    split
    · exact eL ch send kd ws o h (fun u hu => hw u (List.mem_cons_of_mem _ hu))
    · rw [eL ch send kd ws _ (fH h) (fun u hu => hw u (List.mem_cons_of_mem _ hu)), qF h (hw w List.mem_cons_self)]
theorem gl {α : Type} {l : List α} {i : Int} {a : α} (h : getI l i = some a) : aG l i a = l := by
  have := (az h).2.1
  unfold aG
  obtain ⟨h1, h2⟩ := List.getElem?_eq_some_iff.1 this
  rw [← h2]; exact List.set_getElem_self h1
theorem ob (c : Chan) : Chan.mk c.capacity c.buffer c.closed = c := rfl
theorem gQ {α : Type} {l : List α} {x : α} (h : x ∈ l) : ∃ i : Int, getI l i = some x := by
  obtain ⟨i, hi, hx⟩ := List.mem_iff_getElem.1 h
  refine ⟨i, ?_⟩
  rw [aF (by omega) (by omega)]
  simp [hx]
theorem sG {α : Type} {l : List α} {i q : Int} {x y e : α} (hx : getI l i = some x) (hy : getI l q = some y) (he : e ∈ l) : e ∈ aG (aG l i y) q x := by
  obtain ⟨i0, i1⟩ := aQ hx
  obtain ⟨q0, q1⟩ := aQ hy
  obtain ⟨j, hj⟩ := gQ he
  have g : ∀ s, getI (aG (aG l i y) q x) s = if s = q then some x else if s = i then some y else getI l s := fun s => by
    rw [bn q0 (by rw [aJ]; exact q1), bn i0 i1]
  by_cases h1 : j = i
  · subst h1
    rw [hx] at hj; cases hj
    exact aH (i := q) (by rw [g, if_pos rfl])
  · by_cases h2 : j = q
    · subst h2
      rw [hy] at hj; cases hj
      exact aH (i := i) (by rw [g, if_neg (fun e => h1 e.symm), if_pos rfl])
    · exact aH (i := j) (by rw [g, if_neg h2, if_neg h1]; exact hj)
theorem order2_mem {n : Int} {l : List Int} (h0 : 1 ≤ n) (h1 : n ≤ 20) : Ok (jJ n l) fun o => (o.length : Int) = n ∧ ∀ e, 0 ≤ e → e < n → e ∈ o := by
  unfold jJ lq
  refine Ok.ite (fun h => by omega) fun h => ?_
  rw [if_neg (by rw [bP]; omega), eb (by omega) (by omega)]
  simp only [Option.bind_some]
  refine cq (fun _ i => (n - i).toNat) (fun o i => 0 ≤ i ∧ i ≤ n ∧ (o.length : Int) = n ∧ ∀ e, 0 ≤ e → e < i → getI o e = some e) (fun _ _ => _) ?_ BIG _ 0 ⟨by omega, by omega, by simp; omega, fun e _ _ => by omega⟩ (bv (by omega))
  intro o i k ⟨g0, g1, g2, g3⟩ hk
  unfold jj
  refine Ok.ite (fun h => ?_) fun h => ?_
  · rw [aF g0 (by omega)]
    simp only [Option.bind_some]
    rw [be (by omega) (by omega)]
    refine hk _ _ ⟨by omega, by omega, by rw [aJ]; exact g2, fun e e0 e1 => ?_⟩ (by omega)
    rw [bn g0 (by omega)]
    by_cases he : e = i
    · rw [if_pos he, he]
    · rw [if_neg he]; exact g3 e e0 (by omega)
  · unfold ji
    rw [be (by omega) (by omega)]
    refine cq (fun _ i => (i + 1).toNat) (fun o i => 0 ≤ i ∧ i < n ∧ (o.length : Int) = n ∧ ∀ e, 0 ≤ e → e < n → e ∈ o) (fun _ _ => _) ?_ BIG _ _ ⟨by omega, by omega, g2, fun e e0 e1 => aH (g3 e e0 (by omega))⟩ (bv (by omega))
    intro o i k ⟨g0, g1, g2, g3⟩ hk
    unfold jh
    refine Ok.ite (fun h => ?_) fun h => Ok.some ⟨g2, g3⟩
    refine Ok.bind (pZ g0 (by omega)) fun q ⟨q0, q1⟩ => ?_
    obtain ⟨x, hx⟩ : ∃ x, getI o i = some x := ⟨_, aF g0 (by omega)⟩
    obtain ⟨y, hy⟩ : ∃ x, getI o q = some x := ⟨_, aF q0 (by omega)⟩
    rw [hx, hy]
    simp only [Option.bind_some]
    obtain ⟨z, hz⟩ : ∃ z, getI (aG o i y) q = some z := ⟨_, aF q0 (by rw [aJ]; omega)⟩
    rw [hz]
    simp only [Option.bind_some]
    rw [be (by omega) (by omega)]
    exact hk _ _ ⟨by omega, by omega, by rw [aJ, aJ]; exact g2, fun e e0 e1 => sG hx hy (g3 e e0 e1)⟩ (by omega)
theorem pr {op : Op} (h : op.cases.length ≤ 20) {e : Int} (h0 : 0 ≤ e) (h1 : e < (op.cases.length : Int)) : e ∈ cz op := by
  obtain ⟨o, ho, _, hm⟩ := order2_mem (n := (op.cases.length : Int)) (l := op.draws) (by omega) (by omega)
  have e1 : fD op = some o := by unfold fD; rw [ho]; rfl
  have e2 : cz op = o := by unfold cz; rw [e1]; rfl
  rw [e2]; exact hm e h0 h1
theorem lG {d : Desk} {t : Int} {op : Op} (hc : op.cases.length ≤ 20) (h : getI op.cases (cy d t op) = none) : ∀ x ∈ op.cases, dx d t x = false := by
  have hneg : cI (cE d t op) (cz op) < 0 := by
    rcases Int.lt_or_le (cI (cE d t op) (cz op)) 0 with h0 | h0
    · exact h0
    · obtain ⟨x, hx, hp⟩ := fY h0
      unfold cy at h
      rw [hx] at h
      simp only [Option.getD_some] at h
      unfold cE at hp
      rw [h] at hp; cases hp
  intro x hx
  obtain ⟨i, hi⟩ := gQ hx
  obtain ⟨i0, i1⟩ := aQ hi
  have := ic hneg i (pr hc i0 i1)
  unfold cE at this
  rw [hi] at this; exact this
theorem oM {op : Op} {x : Case} (h : x ∈ aY op) : 0 ≤ bq op x.channel x.send := by
  rcases Int.lt_or_le (bq op x.channel x.send) 0 with h0 | h0
  · have := ic (p := fun c : Case => decide (c.channel = x.channel) && (c.send == x.send)) (l := aY op) h0 x h
    simp at this
  · exact h0
theorem fk {d : Desk} {t : Int} {x : Case} {c : Chan} (hc : getI d.chans x.channel = some c) (h : aN d t x < 0) (ht : ∀ w ∈ d.waiting, w.thread ≠ t) : ∀ w ∈ d.waiting, ∀ y ∈ aY w.op, y.channel = x.channel → y.send = !x.send → False := by
  intro w hw y hy h1 h2
  obtain ⟨c0, c1⟩ := aQ hc
  unfold aN at h
  rw [if_neg (by omega)] at h
  have := ic h w hw
  have h3 := oM hy
  rw [h1, h2] at h3
  simp only [Bool.and_eq_false_iff, decide_eq_false_iff_not] at this
  rcases this with h4 | h4
  · exact h4 (ht w hw)
  · exact h4 h3
structure Rest (d : Desk) : Prop where
  r1 : ∀ w ∈ d.waiting, ∀ x ∈ aY w.op, dp d.chans x = false
  r2 : ∀ a ∈ d.waiting, ∀ b ∈ d.waiting, a.thread ≠ b.thread → ∀ x ∈ aY a.op, ∀ y ∈ aY b.op, y.channel = x.channel → x.send = true → y.send = false → getI d.chans x.channel = none
theorem tM {l : List Chan} {i : Int} {c c' : Chan} {x : Case} (hc : getI l i = some c) (h : x.channel ≠ i) : dp (aG l i c') x = dp l x := by
  obtain ⟨c0, c1⟩ := aQ hc
  unfold dp
  rw [bn c0 c1, if_neg h]
theorem Rest.sub {d : Desk} (h : Rest d) {ws : List Waiter} {ch : List Chan} {tk : Int} (hs : ws.Sublist d.waiting) (hch : ch = d.chans) : Rest (Desk.mk ch ws tk) := by
  subst hch
  exact ⟨fun w hw => h.r1 w (hs.subset hw), fun a ha b hb => h.r2 a (hs.subset ha) b (hs.subset hb)⟩
theorem Rest.set {d : Desk} (h : Rest d) {ws : List Waiter} {i : Int} {c c' : Chan} {tk : Int} (hs : ws.Sublist d.waiting) (hc : getI d.chans i = some c)
    (hn : ∀ w ∈ ws, ∀ x ∈ aY w.op, x.channel = i → (if x.send then c'.closed || decide ((c'.buffer.length : Int) < c'.capacity) else c'.closed || decide ((c'.buffer.length : Int) > 0)) = false) : Rest (Desk.mk (aG d.chans i c') ws tk) := by
  obtain ⟨c0, c1⟩ := aQ hc
  refine ⟨fun w hw x hx => ?_, fun a ha b hb hab x hx y hy hxy sx sy => ?_⟩
  · by_cases hi : x.channel = i
    · have := hn w hw x hx hi
      show dp (aG d.chans i c') x = false
      unfold dp
      rw [bn c0 c1, if_pos hi]; exact this
    · show dp (aG d.chans i c') x = false
      rw [tM hc hi]; exact h.r1 w (hs.subset hw) x hx
  · have := h.r2 a (hs.subset ha) b (hs.subset hb) hab x hx y hy hxy sx sy
    show getI (aG d.chans i c') x.channel = none
    rw [bn c0 c1]
    by_cases hi : x.channel = i
    · rw [hi, hc] at this; cases this
    · rw [if_neg hi]; exact this
theorem qU (ws : List Waiter) (i : Nat) : (ws.take i ++ ws.drop (i + 1)).Sublist ws := by
  conv => rhs; rw [← List.take_append_drop i ws]
  refine List.Sublist.append (List.Sublist.refl _) ?_
  rw [← List.drop_drop]
  exact List.drop_sublist _ _
theorem ee (ch : Int) (send : Bool) (kd : Int) : ∀ (ws : List Waiter) (out : List Done), ∀ w ∈ (bf ch send kd ws out).1, bq w.op ch send < 0
  | [], out => by simp [bf]
  | w :: ws, out => by
    unfold bf
    split
    · intro u hu
      rcases List.mem_cons.1 hu with rfl | hu
      · assumption
      · exact ee ch send kd ws out u hu
    · exact ee ch send kd ws _
theorem pv {d : Desk} {t : Int} {x : Case} (h : dx d t x = true) (hp : aN d t x < 0) : dp d.chans x = true := by
  unfold dx at h
  rw [Bool.or_eq_true] at h
  rcases h with h | h
  · exact h
  · simp at h; omega
theorem ii {d : Desk} {t : Int} {x : Case} (h : dx d t x = false) : dp d.chans x = false ∧ aN d t x < 0 := by
  unfold dx at h
  rw [Bool.or_eq_false_iff] at h
  exact ⟨h.1, by simpa using h.2⟩
theorem Rest.doD {d : Desk} {t : Int} {op : Op} {i : Int} {x : Case} (h : Rest d) (hr : dx d t x = true) (ht : ∀ w ∈ d.waiting, w.thread ≠ t) : Rest (doD d t op i x).1 := by
  obtain ⟨c, hc⟩ := eC hr
  unfold Hx.doD
  rw [hc]
  simp only
  cases hw : getI d.waiting (aN d t x) with
  | none =>
    have hp := dc hw
    have hno := fk hc hp ht
    have hrc := pv hr hp
    unfold dp at hrc
    rw [hc] at hrc
    simp only at hrc
    by_cases hs : x.send = true
    · simp only [hs, if_true] at hrc ⊢
      by_cases hcl : c.closed = true
      · rw [if_pos hcl]; exact h
      · rw [if_neg hcl]
        have hlt : (c.buffer.length : Int) < c.capacity := by simpa [hcl] using hrc
        refine h.set (List.Sublist.refl _) hc fun w hw y hy hyi => ?_
        by_cases hys : y.send = true
        · have := h.r1 w hw y hy
          unfold dp at this
          rw [hyi, hc] at this
          simp only [hys, if_true] at this
          simp [hlt] at this
        · exact absurd (hno w hw y hy hyi (by rw [hs]; simpa using hys)) id
    · have hs' : x.send = false := by simpa using hs
      simp only [hs', if_neg (show ¬ (false = true) by decide)] at hrc ⊢
      cases hbf : c.buffer with
      | nil => exact h
      | cons v b =>
        refine h.set (List.Sublist.refl _) hc fun w hw y hy hyi => ?_
        by_cases hys : y.send = true
        · exact absurd (hno w hw y hy hyi (by rw [hs']; simpa using hys)) id
        · have := h.r1 w hw y hy
          unfold dp at this
          rw [hyi, hc] at this
          simp only [if_neg hys, hbf] at this
          simp at this
  | some w0 =>
    obtain ⟨q1, q2, q3, q4, q5, q6⟩ := ed hw
    have hsub := qU d.waiting (aN d t x).toNat
    by_cases hs : x.send = true
    · simp only [hs, if_true]
      by_cases hcl : c.closed = true
      · rw [if_pos hcl]; exact h
      · rw [if_neg hcl]; exact h.sub hsub rfl
    · have hs' : x.send = false := by simpa using hs
      simp only [hs', if_neg (show ¬ (false = true) by decide)]
      have hsetself : ∀ (c' : Chan), c' = c → Rest (hE (leaveD d (aN d t x)) x.channel c') := fun c' e => by
        subst e
        refine h.sub (ws := d.waiting.take (aN d t x).toNat ++ d.waiting.drop ((aN d t x).toNat + 1)) (ch := aG d.chans x.channel c') (tk := d.tick) hsub (gl hc)
      cases hbf : c.buffer with
      | nil => exact hsetself _ (by rw [← hbf])
      | cons v b =>
        refine h.set (ws := d.waiting.take (aN d t x).toNat ++ d.waiting.drop ((aN d t x).toNat + 1)) hsub hc fun w hw y hy hyi => ?_
        have h1 := h.r1 w (hsub.subset hw) y hy
        unfold dp at h1
        rw [hyi, hc] at h1
        simp only [hbf] at h1
        by_cases hys : y.send = true
        · simp only [hys, if_true] at h1 ⊢
          simp at h1 ⊢; exact h1
        · simp only [if_neg hys] at h1
          simp at h1
theorem Rest.thr {d : Desk} (h : Rest d) (hd : ∀ w ∈ d.waiting, WOk w) {t : Int} {op : Op} (ho : OpOk op) (ht : ∀ w ∈ d.waiting, w.thread ≠ t) : Rest (DoD d t op).1 := by
  unfold DoD
  by_cases h3 : op.kind = 3
  · rw [if_pos h3]
    unfold eD
    cases hc : getI d.chans op.channel with
    | none => exact h
    | some c =>
      simp only
      by_cases hcl : c.closed = true
      · rw [if_pos hcl]; exact h
      · rw [if_neg hcl]
        have s1 := dh op.channel false 2 d.waiting [Done.mk t (resD 6 (-1) 0 false)]
        have s2 := dh op.channel true 5 (bf op.channel false 2 d.waiting [Done.mk t (resD 6 (-1) 0 false)]).1 (bf op.channel false 2 d.waiting [Done.mk t (resD 6 (-1) 0 false)]).2
        refine h.set (s2.trans s1) hc fun w hw y hy hyi => ?_
        have g1 := ee _ _ _ _ _ w hw
        have g2 := ee _ _ _ _ _ w (s2.subset hw)
        have := oM hy
        rw [hyi] at this
        by_cases hys : y.send = true
        · rw [hys] at this; omega
        · rw [show y.send = false by simpa using hys] at this; omega
  rw [if_neg h3]
  by_cases h56 : op.kind = 5 ∨ op.kind = 6
  · rw [if_pos h56]; exact h
  rw [if_neg h56]
  have hk := ho.kind
  cases hx : getI (aY op) (bZ d t op) with
  | some x => exact h.doD (eA ho.len hx (by omega)).1 ht
  | none =>
    simp only
    by_cases hm : op.mode = 1
    · rw [if_pos hm]; exact h
    rw [if_neg hm]
    by_cases hm2 : op.mode = 2 ∧ op.deadline ≤ d.tick
    · rw [if_pos hm2]; exact h
    rw [if_neg hm2]
    have hall : ∀ x ∈ aY op, dx d t x = false := by
      by_cases h4 : op.kind = 4
      · have e1 : aY op = op.cases := by unfold aY; rw [if_pos h4]
        have e2 : bZ d t op = cy d t op := by unfold bZ; rw [if_pos h4]
        rw [e1, e2] at hx
        rw [e1]
        exact lG ho.len hx
      · have e1 : aY op = [Case.mk (dcd (op.kind = 1)) op.channel op.value] := by unfold aY; rw [if_neg h4, if_pos (by omega)]
        have e2 : bZ d t op = if dx d t (Case.mk (dcd (op.kind = 1)) op.channel op.value) then 0 else -1 := by unfold bZ; rw [if_neg h4]
        rw [e1, e2] at hx
        rw [e1]
        intro x hxm
        simp at hxm; subst hxm
        by_cases hr : dx d t (Case.mk (dcd (op.kind = 1)) op.channel op.value) = true
        · rw [if_pos hr] at hx; cases hx
        · simpa using hr
    refine ⟨fun w hw x hx => ?_, fun a ha b hb hab x hx y hy hxy sx sy => ?_⟩
    · rcases List.mem_append.1 hw with hw | hw
      · exact h.r1 w hw x hx
      · simp at hw; subst hw
        exact (ii (hall x hx)).1
    · show getI d.chans x.channel = none
      cases hg : getI d.chans x.channel with
      | none => rfl
      | some c =>
        exfalso
        rcases List.mem_append.1 ha with ha | ha
        · rcases List.mem_append.1 hb with hb | hb
          · have := h.r2 a ha b hb hab x hx y hy hxy sx sy
            rw [hg] at this; cases this
          · simp at hb; subst hb
            have hp := (ii (hall y hy)).2
            exact fk (x := y) (by rw [hxy]; exact hg) hp ht a ha x hx hxy.symm (by rw [sx, sy]; rfl)
        · rcases List.mem_append.1 hb with hb | hb
          · simp at ha; subst ha
            have hp := (ii (hall x hx)).2
            exact fk (x := x) hg hp ht b hb y hy hxy (by rw [sx, sy]; rfl)
          · simp at ha hb; subst ha hb
            exact hab rfl
theorem qY (x : Config) : Rest (f5 x) := ⟨by simp [f5], by simp [f5]⟩
structure Cp (caps : List Int) (d : Desk) : Prop where
  len : d.chans.length = caps.length
  cap : ∀ (k : Int) c, getI d.chans k = some c → getI caps k = some c.capacity ∧ (c.buffer.length : Int) ≤ c.capacity
theorem Cp.set {caps : List Int} {d : Desk} (h : Cp caps d) {i : Int} {c c' : Chan} {ws : List Waiter} {tk : Int} (hc : getI d.chans i = some c) (h1 : c'.capacity = c.capacity) (h2 : (c'.buffer.length : Int) ≤ c.capacity) : Cp caps (Desk.mk (aG d.chans i c') ws tk) := by
  obtain ⟨c0, c1⟩ := aQ hc
  refine ⟨by show (aG d.chans i c').length = _; rw [aJ]; exact h.len, fun k u hu => ?_⟩
  have hu : getI (aG d.chans i c') k = some u := hu
  rw [bn c0 c1] at hu
  split at hu
  · rename_i hk
    cases hu
    subst hk
    rw [h1]
    exact ⟨(h.cap _ _ hc).1, h2⟩
  · exact h.cap k u hu
theorem Cp.same {caps : List Int} {d : Desk} (h : Cp caps d) {ws : List Waiter} {tk : Int} : Cp caps (Desk.mk d.chans ws tk) := ⟨h.len, h.cap⟩
theorem Cp.thr {caps : List Int} {d : Desk} (h : Cp caps d) {t : Int} {op : Op} (ho : OpOk op) : Cp caps (DoD d t op).1 := by
  unfold DoD
  by_cases h3 : op.kind = 3
  · rw [if_pos h3]
    unfold eD
    cases hc : getI d.chans op.channel with
    | none => exact h
    | some c =>
      simp only
      by_cases hcl : c.closed = true
      · rw [if_pos hcl]; exact h
      · rw [if_neg hcl]; exact h.set hc rfl (h.cap _ _ hc).2
  rw [if_neg h3]
  by_cases h56 : op.kind = 5 ∨ op.kind = 6
  · rw [if_pos h56]; exact h
  rw [if_neg h56]
  have hk := ho.kind
  cases hx : getI (aY op) (bZ d t op) with
  | none =>
    simp only
    by_cases hm : op.mode = 1
    · rw [if_pos hm]; exact h
    rw [if_neg hm]
    by_cases hm2 : op.mode = 2 ∧ op.deadline ≤ d.tick
    · rw [if_pos hm2]; exact h
    rw [if_neg hm2]; exact h.same
  | some x =>
    have hr := (eA ho.len hx (by omega)).1
    obtain ⟨c, hc⟩ := eC hr
    have hcc := (h.cap _ _ hc).2
    show Cp caps (doD d t op (bZ d t op) x).1
    unfold doD
    rw [hc]
    simp only
    cases hw : getI d.waiting (aN d t x) with
    | none =>
      have hrc := pv hr (dc hw)
      unfold dp at hrc
      rw [hc] at hrc
      simp only at hrc
      by_cases hs : x.send = true
      · simp only [hs, if_true] at hrc ⊢
        by_cases hcl : c.closed = true
        · rw [if_pos hcl]; exact h
        · rw [if_neg hcl]
          have hlt : (c.buffer.length : Int) < c.capacity := by simpa [hcl] using hrc
          exact h.set hc rfl (by simp; omega)
      · simp only [if_neg hs]
        cases hbf : c.buffer with
        | nil => exact h
        | cons v b => rw [hbf] at hcc; exact h.set hc rfl (by simp at hcc ⊢; omega)
    | some w =>
      by_cases hs : x.send = true
      · simp only [hs, if_true]
        by_cases hcl : c.closed = true
        · rw [if_pos hcl]; exact h
        · rw [if_neg hcl]; exact h.same
      · simp only [if_neg hs]
        cases hbf : c.buffer with
        | nil => rw [hbf] at hcc; exact h.set hc rfl hcc
        | cons v b => rw [hbf] at hcc; exact h.set hc rfl (by simp at hcc ⊢; omega)
theorem tJ {x : Config} (hx : fx x) : Cp x.capacities (f5 x) := by
  refine ⟨by simp [f5], fun k c hc => ?_⟩
  have hc : getI (x.capacities.map fun k => Chan.mk k [] false) k = some c := hc
  obtain ⟨h0, h1⟩ := aQ hc
  have h1 : k < (x.capacities.length : Int) := by simpa using h1
  have hg := aF h0 h1
  have hn := (az hc).2.1
  have hn2 := (az hg).2.1
  rw [List.getElem?_map, hn2] at hn
  simp at hn
  rw [hg]
  have := hx.cap _ (aH hg)
  subst hn
  exact ⟨rfl, by simp; omega⟩
theorem lE (op : Op) : casesS op = aY op := by
  unfold casesS aY dm cQ
  by_cases h4 : op.kind = 4
  · rw [if_pos h4, if_pos h4]
  · rw [if_neg h4, if_neg h4]
    by_cases h12 : op.kind = 1 ∨ op.kind = 2
    · rw [if_pos h12, if_pos (by simpa using h12)]
    · rw [if_neg h12, if_neg (by simpa using h12)]
theorem tC {op : Op} (h : op.kind = 3) : casesS op = [] := by unfold casesS dm; simp [h]
theorem dcases_num' {op : Op} {i : Nat} {x : Case} (h : (casesS op)[i]? = some x) : bc op (numOf op i) = some x := by
  by_cases h3 : op.kind = 3
  · rw [tC h3] at h; simp at h
  · exact lF h3 h
theorem oe {op : Op} {i : Int} {x : Case} (h : getI (casesS op) i = some x) : bc op (numOf op i) = some x := by
  obtain ⟨h0, h1, h2⟩ := az h
  rw [h2]; exact dcases_num' h1
inductive DWay (ops : List Op) (to : List Chan) : List Chan → List Done → Prop
  | nil : DWay ops to to []
  | one {a : List Chan} {l rest : List Done} {y : Done} {op : Op} (h : l.Perm (y :: rest)) (ho : getI ops y.thread = some op) (ha : (aO a op y.result).2 = true) (hr : DWay ops to (aO a op y.result).1 rest) : DWay ops to a l
  | two {a : List Chan} {l rest : List Done} {y z : Done} {p q : Op} (h : l.Perm (y :: z :: rest)) (hy : getI ops y.thread = some p) (hz : getI ops z.thread = some q) (hp : (ca a p y.result q z.result || ca a q z.result p y.result) = true) (hr : DWay ops to a rest) : DWay ops to a l
theorem DWay.perm {ops : List Op} {to a : List Chan} {l l' : List Done} (h : DWay ops to a l) (hp : l.Perm l') : DWay ops to a l' := by
  cases h with
  | nil => rw [List.nil_perm.1 hp]; exact DWay.nil
  | one h ho ha hr => exact DWay.one (hp.symm.trans h) ho ha hr
  | two h hy hz hq hr => exact DWay.two (hp.symm.trans h) hy hz hq hr
theorem DWay.all {ops : List Op} {to : List Chan} : ∀ l : List Done, (∀ y ∈ l, ∃ op, getI ops y.thread = some op ∧ aO to op y.result = (to, true)) → DWay ops to to l
  | [], _ => DWay.nil
  | y :: l, h => by
    obtain ⟨op, ho, ha⟩ := h y List.mem_cons_self
    refine DWay.one (List.Perm.refl _) ho (by rw [ha]) ?_
    rw [ha]
    exact DWay.all l fun z hz => h z (List.mem_cons_of_mem _ hz)
theorem c9 {op : Op} {i : Int} {x : Case} (h : getI (aY op) i = some x) : bc op (bj op i) = some x :=
  oe (op := op) (i := i) (by rw [lE]; exact h)
section
variable {l : List Chan} {x : Case} {c : Chan} {n v : Int} {b : List Int} {op : Op}
theorem lH (hc : getI l x.channel = some c) (hs : x.send = true) (hcl : c.closed = true) : cF l x (resD 5 n 0 false) = (l, true) := by
  unfold cF; rw [hc]; simp [resD, bh, hs, hcl]
theorem ke (hc : getI l x.channel = some c) (hs : x.send = true) (hcl : c.closed = false) (hlt : (c.buffer.length : Int) < c.capacity) : cF l x (resD 1 n 0 false) = (aG l x.channel (Chan.mk c.capacity (c.buffer ++ [x.value]) c.closed), true) := by
  unfold cF; rw [hc]; simp [resD, bh, hs, hcl, hlt]
theorem kb (hc : getI l x.channel = some c) (hs : x.send = false) (hb : c.buffer = v :: b) : cF l x (resD 2 n v true) = (aG l x.channel (Chan.mk c.capacity b c.closed), true) := by
  unfold cF; rw [hc]; simp [resD, hs, hb, show getI (v :: b) 0 = some v from rfl]
theorem oj (hc : getI l x.channel = some c) (hs : x.send = false) (hcl : c.closed = true) (hb : c.buffer = []) : cF l x (resD 2 n 0 false) = (l, true) := by
  unfold cF; rw [hc]; simp [resD, hs, hcl, hb]
theorem dX {k : Int} {r : Result} (hk : r.kind = 1 ∨ r.kind = 2 ∨ (r.kind = 5 ∧ op.kind ≠ 3)) {i : Int} (hr : r.case_ = bj op i) (h : getI (aY op) i = some x) : aO l op r = cF l x r := by
  rw [dM hk, hr, c9 h]
end
theorem db {ops : List Op} {a to : List Chan} {t : Int} {op : Op} {r : Result} (ho : getI ops t = some op) (h : aO a op r = (to, true)) : DWay ops to a [Done.mk t r] := by
  refine DWay.one (List.Perm.refl _) ho (by show (aO a op r).2 = true; rw [h]) ?_
  show DWay ops to (aO a op r).1 []
  rw [h]; exact DWay.nil
theorem qt {ops : List Op} {a m to : List Chan} {t u : Int} {op q : Op} {r s : Result} (ho : getI ops t = some op) (hq : getI ops u = some q) (h : aO a op r = (m, true)) (h2 : aO m q s = (to, true)) : DWay ops to a (bV [Done.mk t r] u s) := by
  have hp : (bV [Done.mk t r] u s).Perm (Done.mk t r :: [Done.mk u s]) := (dK _ _ _).trans (List.Perm.swap _ _ _)
  refine DWay.one hp ho (by show (aO a op r).2 = true; rw [h]) ?_
  show DWay ops to (aO a op r).1 _
  rw [h]; exact db hq h2
theorem oC {ops : List Op} {a : List Chan} {t u : Int} {op q : Op} {r s : Result} (ho : getI ops t = some op) (hq : getI ops u = some q) (h : (ca a op r q s || ca a q s op r) = true) : DWay ops a a (bV [Done.mk t r] u s) := by
  have hp : (bV [Done.mk t r] u s).Perm (Done.mk t r :: Done.mk u s :: []) := (dK _ _ _).trans (List.Perm.swap _ _ _)
  exact DWay.two hp ho hq h DWay.nil
theorem eM (ch : Int) (send : Bool) (kd : Int) : ∀ (ws : List Waiter) (out : List Done), ∀ y ∈ (bf ch send kd ws out).2, y ∈ out ∨ ∃ w ∈ ws, 0 ≤ bq w.op ch send ∧ y = Done.mk w.thread (resD kd (bj w.op (bq w.op ch send)) 0 false)
  | [], out, y, h => .inl h
  | w :: ws, out, y, h => by
    unfold bf at h
    split at h
    · rcases eM ch send kd ws out y h with h | ⟨u, hu, h⟩
      · exact .inl h
      · exact .inr ⟨u, List.mem_cons_of_mem _ hu, h⟩
    · rename_i hs
      rcases eM ch send kd ws _ y h with h | ⟨u, hu, h⟩
      · rcases sF.1 h with h | h
        · exact .inr ⟨w, List.mem_cons_self, by omega, h⟩
        · exact .inl h
      · exact .inr ⟨u, List.mem_cons_of_mem _ hu, h⟩
theorem nS {l : List Chan} {cs : List Case} (h : ∀ x ∈ cs, dp l x = false) : bW l cs = false := by
  unfold bW
  rw [List.any_eq_false]
  intro x hx hr
  have : nt l x = dp l x := rfl
  rw [this, h x hx] at hr; cases hr
theorem gV {d : Desk} (hr : Rest d) {w : Waiter} (hw : w ∈ d.waiting) {y : Case} (hy : y ∈ aY w.op) {c : Chan} (hc : getI d.chans y.channel = some c) : c.closed = false ∧ (y.send = true → c.capacity ≤ (c.buffer.length : Int)) ∧ (y.send = false → c.buffer = []) := by
  have h := hr.r1 w hw y hy
  unfold dp at h
  rw [hc] at h
  simp only at h
  by_cases hs : y.send = true
  · rw [if_pos hs] at h
    simp at h
    exact ⟨h.1, fun _ => h.2, fun e => by rw [hs] at e; cases e⟩
  · rw [if_neg hs] at h
    simp at h
    exact ⟨h.1, fun e => absurd e hs, fun _ => h.2⟩
theorem np {d : Desk} {t : Int} {op : Op} (ho : OpOk op) (hk : op.kind = 1 ∨ op.kind = 2 ∨ op.kind = 4) (hx : getI (aY op) (bZ d t op) = none) : ∀ x ∈ aY op, dx d t x = false := by
  by_cases h4 : op.kind = 4
  · have e1 : aY op = op.cases := by unfold aY; rw [if_pos h4]
    have e2 : bZ d t op = cy d t op := by unfold bZ; rw [if_pos h4]
    rw [e1, e2] at hx
    rw [e1]
    exact lG ho.len hx
  · have e1 : aY op = [Case.mk (dcd (op.kind = 1)) op.channel op.value] := by unfold aY; rw [if_neg h4, if_pos (by omega)]
    have e2 : bZ d t op = if dx d t (Case.mk (dcd (op.kind = 1)) op.channel op.value) then 0 else -1 := by unfold bZ; rw [if_neg h4]
    rw [e1, e2] at hx
    rw [e1]
    intro x hxm
    simp at hxm; subst hxm
    by_cases hr : dx d t (Case.mk (dcd (op.kind = 1)) op.channel op.value) = true
    · rw [if_pos hr] at hx; cases hx
    · simpa using hr
theorem uh {d : Desk} {t : Int} {op : Op} {caps : List Int} {ops : List Op} (hd : ∀ w ∈ d.waiting, WOk w) (hr : Rest d) (hcp : Cp caps d) (ho : OpOk op) (ht : ∀ w ∈ d.waiting, w.thread ≠ t)
    (h1 : getI ops t = some op) (h2 : ∀ w ∈ d.waiting, getI ops w.thread = some w.op) (hw : (DoD d t op).2.2 = false) : DWay ops (DoD d t op).1.chans d.chans (DoD d t op).2.1 := by
  have hk := ho.kind
  unfold DoD at hw ⊢
  by_cases h3 : op.kind = 3
  · rw [if_pos h3]
    show DWay ops (eD d t op).1.chans d.chans (eD d t op).2
    have hpan : (∀ c, getI d.chans op.channel = some c → c.closed = true) → DWay ops d.chans d.chans [Done.mk t (resD 5 (-1) 0 false)] := fun hcl => by
      refine db h1 ?_
      rw [nW rfl h3, if_pos]
      have : cM d.chans op (resD 5 (-1) 0 false) = true := by
        unfold cM
        cases hc : getI d.chans op.channel with
        | none => rfl
        | some c => exact hcl c hc
      rw [this]; simp [resD, bh]
    unfold eD
    cases hc : getI d.chans op.channel with
    | none => exact hpan fun c hc' => by rw [hc] at hc'; cases hc'
    | some c =>
      simp only
      by_cases hcl : c.closed = true
      · rw [if_pos hcl]; exact hpan fun c' hc' => by rw [hc] at hc'; cases hc'; exact hcl
      · rw [if_neg hcl]
        have hcl' : c.closed = false := by simpa using hcl
        obtain ⟨c0, c1⟩ := aQ hc
        have s1 := dh op.channel false 2 d.waiting []
        have ef : (bf op.channel false 2 d.waiting [Done.mk t (resD 6 (-1) 0 false)]).1 = (bf op.channel false 2 d.waiting []).1 := gn _ _ _ _ _ _
        have eo : (bf op.channel true 5 (bf op.channel false 2 d.waiting [Done.mk t (resD 6 (-1) 0 false)]).1 (bf op.channel false 2 d.waiting [Done.mk t (resD 6 (-1) 0 false)]).2).2 = bV (bf op.channel true 5 (bf op.channel false 2 d.waiting []).1 (bf op.channel false 2 d.waiting []).2).2 t (resD 6 (-1) 0 false) := by
          rw [eL op.channel true 5 _ _ (gq _ _ _ _ _ qq) (fun w hw' => ht w (s1.subset hw')), eL op.channel false 2 _ _ qq ht, rF, ef]
        show DWay ops (aG d.chans op.channel (Chan.mk c.capacity c.buffer true)) d.chans _
        rw [eo]
        have hap : aO d.chans op (resD 6 (-1) 0 false) = (aG d.chans op.channel (Chan.mk c.capacity c.buffer true), true) := by
          rw [nX rfl, if_pos, hc]
          have : cM d.chans op (resD 6 (-1) 0 false) = c.closed := oc hc
          rw [this, hcl']; simp [resD, bh, h3]
        refine DWay.one (dK _ _ _) h1 (by show (aO d.chans op (resD 6 (-1) 0 false)).2 = true; rw [hap]) ?_
        show DWay ops _ (aO d.chans op (resD 6 (-1) 0 false)).1 _
        rw [hap]
        refine DWay.all _ fun y hy => ?_
        have hgc : getI (aG d.chans op.channel (Chan.mk c.capacity c.buffer true)) op.channel = some (Chan.mk c.capacity c.buffer true) := by rw [bn c0 c1, if_pos rfl]
        have hone : ∀ (w : Waiter) (s : Bool) (kd : Int), w ∈ d.waiting → 0 ≤ bq w.op op.channel s → (s = true → kd = 5) → (s = false → kd = 2) → ∃ o, getI ops w.thread = some o ∧ aO (aG d.chans op.channel (Chan.mk c.capacity c.buffer true)) o (resD kd (bj w.op (bq w.op op.channel s)) 0 false) = (aG d.chans op.channel (Chan.mk c.capacity c.buffer true), true) := by
          intro w s kd hw hs k1 k2
          obtain ⟨x, hx, hxc, hxs⟩ := nz hs
          have hwk := (hd w hw).kind
          refine ⟨w.op, h2 w hw, ?_⟩
          rw [dX (k := 0) (x := x) (i := bq w.op op.channel s) (by cases s with | true => rw [k1 rfl]; exact .inr (.inr ⟨rfl, by omega⟩) | false => rw [k2 rfl]; exact .inr (.inl rfl)) rfl hx]
          cases s with
          | true => rw [k1 rfl]; exact lH (c := Chan.mk c.capacity c.buffer true) (by rw [hxc]; exact hgc) hxs rfl
          | false =>
            rw [k2 rfl]
            have := (gV hr hw (aH hx) (by rw [hxc]; exact hc)).2.2 hxs
            exact oj (c := Chan.mk c.capacity c.buffer true) (by rw [hxc]; exact hgc) hxs rfl this
        rcases eM _ _ _ _ _ y hy with hy | ⟨w, hw, hs, rfl⟩
        · rcases eM _ _ _ _ _ y hy with hy | ⟨w, hw, hs, rfl⟩
          · cases hy
          · exact hone w false 2 hw hs (fun e => by cases e) fun _ => rfl
        · exact hone w true 5 (s1.subset hw) hs (fun _ => rfl) fun e => by cases e
  rw [if_neg h3] at hw ⊢
  by_cases h56 : op.kind = 5 ∨ op.kind = 6
  · rw [if_pos h56]
    refine db h1 ?_
    rw [nY rfl, if_pos]
    have e : ff d.chans op = tA d op := rfl
    rw [e]
    rcases h56 with h | h <;> simp [h, bh]
  rw [if_neg h56] at hw ⊢
  have hk2 : op.kind = 1 ∨ op.kind = 2 ∨ op.kind = 4 := by omega
  cases hx : getI (aY op) (bZ d t op) with
  | none =>
    rw [hx] at hw
    simp only at hw ⊢
    by_cases hm : op.mode = 1
    · rw [if_pos hm]
      refine db h1 ?_
      rw [nU rfl, if_pos]
      have := nS (l := d.chans) (cs := casesS op) fun x hxm => (ii (np ho hk2 hx x (by rw [← lE]; exact hxm))).1
      rw [this]; simp [resD, bh, hm]
    rw [if_neg hm] at hw ⊢
    by_cases hm2 : op.mode = 2 ∧ op.deadline ≤ d.tick
    · rw [if_pos hm2]
      refine db h1 ?_
      rw [nV rfl, if_pos]
      simp [resD, bh, hm2.1]
    rw [if_neg hm2] at hw; cases hw
  | some x =>
    have hrd := (eA ho.len hx hk2).1
    obtain ⟨c, hc⟩ := eC hrd
    obtain ⟨c0, c1⟩ := aQ hc
    have hcc := (hcp.cap _ _ hc).2
    have hap : ∀ (l : List Chan) (r : Result), (r.kind = 1 ∨ r.kind = 2 ∨ r.kind = 5) → r.case_ = bj op (bZ d t op) → aO l op r = cF l x r := fun l r h4 h5 => dX (k := 0) (by omega) h5 hx
    show DWay ops (doD d t op (bZ d t op) x).1.chans d.chans (doD d t op (bZ d t op) x).2
    unfold doD
    rw [hc]
    simp only
    cases hwt : getI d.waiting (aN d t x) with
    | none =>
      have hrc := pv hrd (dc hwt)
      unfold dp at hrc
      rw [hc] at hrc
      simp only at hrc
      by_cases hs : x.send = true
      · simp only [hs, if_true] at hrc ⊢
        by_cases hcl : c.closed = true
        · rw [if_pos hcl]
          exact db h1 (by rw [hap _ _ (.inr (.inr rfl)) rfl]; exact lH hc hs hcl)
        · rw [if_neg hcl]
          exact db h1 (by rw [hap _ _ (.inl rfl) rfl]; exact ke hc hs (by simpa using hcl) (by simpa [hcl] using hrc))
      · have hs' : x.send = false := by simpa using hs
        simp only [hs', if_neg (show ¬ (false = true) by decide)] at hrc ⊢
        cases hbf : c.buffer with
        | nil => exact db h1 (by rw [hap _ _ (.inr (.inl rfl)) rfl]; exact oj hc hs' (by rw [hbf] at hrc; simpa using hrc) hbf)
        | cons v b => exact db h1 (by rw [hap _ _ (.inr (.inl rfl)) rfl]; exact kb hc hs' hbf)
    | some w =>
      obtain ⟨q1, q2, q3, q4, q5, q6⟩ := ed hwt
      have hwm := aH hwt
      have hwk := (hd w hwm).kind
      obtain ⟨y, hy, hyc, hys⟩ := nz q2
      obtain ⟨w1, w2, w3⟩ := gV hr hwm (aH hy) (by rw [hyc]; exact hc)
      have hopen : qf d.chans x.channel = decide (c.capacity ≤ 0) := by unfold qf; rw [hc]; simp [w1]
      have hco := c9 hx
      by_cases hs : x.send = true
      · simp only [hs, if_true]
        rw [if_neg (by rw [w1]; decide)]
        rw [hs] at q2 hy hys
        have hcow := c9 hy
        have hbe := w3 hys
        by_cases hz : c.capacity ≤ 0
        · refine oC h1 (h2 w hwm) ?_
          rw [Bool.or_eq_true]; left
          unfold ca
          show (match bc op (bj op (bZ d t op)), bc w.op (bj w.op (bq w.op x.channel false)) with | some s, some r => gR d.chans s r _ _ | _, _ => false) = true
          rw [hco, show bc w.op (bj w.op (bq w.op x.channel false)) = some y from hcow]
          unfold gR
          simp only
          rw [hopen]
          simp [hs, hys, hyc, hz, resD, bh]
        · have e1 := ke (n := bj op (bZ d t op)) hc hs w1 (by rw [hbe]; simp; omega)
          have hg2 : getI (aG d.chans x.channel (Chan.mk c.capacity (c.buffer ++ [x.value]) c.closed)) y.channel = some (Chan.mk c.capacity (c.buffer ++ [x.value]) c.closed) := by rw [hyc, bn c0 c1, if_pos rfl]
          have e2 := kb (n := bj w.op (bq w.op x.channel false)) (v := x.value) (b := []) hg2 hys (by simp [hbe])
          refine qt (m := aG d.chans x.channel (Chan.mk c.capacity (c.buffer ++ [x.value]) c.closed)) h1 (h2 w hwm) (by rw [hap _ _ (.inl rfl) rfl]; exact e1) ?_
          rw [dX (k := 0) (x := y) (i := bq w.op x.channel false) (.inr (.inl rfl)) rfl hy]
          refine e2.trans ?_
          rw [hyc, gm]
          show (aG d.chans x.channel (Chan.mk c.capacity [] c.closed), true) = (d.chans, true)
          rw [← hbe, ob, gl hc]
      · have hs' : x.send = false := by simpa using hs
        simp only [hs', if_neg (show ¬ (false = true) by decide)]
        rw [hs'] at q2 hy hys
        have hcow := c9 hy
        have hfull := w2 hys
        have hval : oR w.op (bq w.op x.channel true) = y.value := by
          unfold oR
          rw [show bq w.op x.channel true = bq w.op x.channel (!false) from rfl, hy]
        cases hbf : c.buffer with
        | nil =>
          have hz : c.capacity ≤ 0 := by rw [hbf] at hfull; simpa using hfull
          have hch : (hE (leaveD d (aN d t x)) x.channel (Chan.mk c.capacity [] c.closed)).chans = d.chans := by
            show aG d.chans x.channel (Chan.mk c.capacity [] c.closed) = d.chans
            rw [← hbf, ob, gl hc]
          rw [hch]
          refine oC h1 (h2 w hwm) ?_
          rw [Bool.or_eq_true]; right
          unfold ca
          show (match bc w.op (bj w.op (bq w.op x.channel true)), bc op (bj op (bZ d t op)) with | some s, some r => gR d.chans s r _ _ | _, _ => false) = true
          rw [hco, show bc w.op (bj w.op (bq w.op x.channel true)) = some y from hcow]
          unfold gR
          simp only
          rw [hyc, hopen]
          simp [hs', hys, hz, resD, bh, hval]
        | cons v b =>
          rw [hbf] at hcc hfull
          have e1 := kb (n := bj op (bZ d t op)) hc hs' hbf
          have hg2 : getI (aG d.chans x.channel (Chan.mk c.capacity b c.closed)) y.channel = some (Chan.mk c.capacity b c.closed) := by rw [hyc, bn c0 c1, if_pos rfl]
          have e2 := ke (n := bj w.op (bq w.op x.channel true)) hg2 hys w1 (by simp at hcc ⊢; omega)
          refine qt (m := aG d.chans x.channel (Chan.mk c.capacity b c.closed)) h1 (h2 w hwm) (by rw [hap _ _ (.inr (.inl rfl)) rfl]; exact e1) ?_
          rw [dX (k := 0) (x := y) (i := bq w.op x.channel true) (.inl rfl) rfl hy]
          refine e2.trans ?_
          rw [hyc, gm, hval]
          rfl
end Go.Hx

namespace Go.Hx
open Go
set_option linter.unusedVariables false
set_option linter.unusedSimpArgs false
def pOf (f : Int → Int) (m : Nat) : List Int := (List.range m).map fun (i : Nat) => f (i : Int)
theorem qg (f : Int → Int) (m : Nat) : (pOf f m).length = m := by simp [pOf]
theorem dR {f : Int → Int} {m : Nat} {t : Int} (h0 : 0 ≤ t) (h1 : t < (m : Int)) : getI (pOf f m) t = some (f t) := by
  obtain ⟨k, rfl⟩ : ∃ k : Nat, t = (k : Int) := ⟨t.toNat, by omega⟩
  rw [bS]
  unfold pOf
  rw [List.getElem?_map, List.getElem?_range (by omega)]; rfl
theorem df {f g : Int → Int} {m : Nat} (h : ∀ t, 0 ≤ t → t < (m : Int) → f t = g t) : pOf f m = pOf g m := by
  unfold pOf
  refine List.map_congr_left fun i hi => ?_
  have := List.mem_range.1 hi
  exact h _ (by omega) (by omega)
theorem om {α : Type} {a b : List α} (h : ∀ t, 0 ≤ t → getI a t = getI b t) : a = b := by
  refine List.ext_getElem? fun n => ?_
  have := h (n : Int) (by omega)
  rw [bS, bS] at this; exact this
theorem dH {f : Int → Int} {m : Nat} {t : Int} (h1 : (m : Int) ≤ t) : getI (pOf f m) t = none := bz (.inr (by rw [qg]; exact h1))
theorem nq {f : Int → Int} {m : Nat} {t : Int} (h0 : 0 ≤ t) (h1 : t < (m : Int)) : cC (pOf f m) t = pOf (fun u => if u = t then f t + 1 else f u) m := by
  refine om fun s hs => ?_
  rw [gf (dR h0 h1)]
  by_cases h : s < (m : Int)
  · rw [dR (f := fun u => if u = t then f t + 1 else f u) hs h]
    by_cases e : s = t
    · rw [if_pos e, if_pos e]
    · rw [if_neg e, if_neg e, dR hs h]
  · rw [if_neg (by omega), dH (by omega), dH (by omega)]
theorem fV (p : Event → Bool) : ∀ (a b : List Event) (i : Int), 0 ≤ i → cH p (a ++ b) i = if 0 ≤ cH p a i then cH p a i else cH p b (i + a.length)
  | [], b, i, h => by simp [cH]
  | e :: a, b, i, h => by
    by_cases he : p e = true
    · have h1 : ∀ l, cH p (e :: l) i = i := fun l => by unfold cH; rw [if_pos he]
      rw [List.cons_append, h1, h1, if_pos h]
    · have h1 : ∀ l, cH p (e :: l) i = cH p l (i + 1) := fun l => by
        conv => lhs; unfold cH
        rw [if_neg he]
      rw [List.cons_append, h1, h1, fV p a b (i + 1) (by omega)]
      simp only [List.length_cons]
      rw [show i + 1 + (a.length : Int) = i + ((a.length + 1 : Nat) : Int) by omega]
section
variable {a b l : List Event} {t o : Int} {c : Bool}
theorem ol (h : 0 ≤ bb a t o c) : bb (a ++ b) t o c = bb a t o c := by
  unfold bb at h ⊢
  rw [fV _ _ _ _ (by omega), if_pos h]
theorem qR (h : bb a t o c < 0) (h2 : 0 ≤ bb (a ++ b) t o c) : (a.length : Int) ≤ bb (a ++ b) t o c := by
  unfold bb at h h2 ⊢
  rw [fV _ _ _ _ (by omega), if_neg (by omega)] at h2 ⊢
  rcases dQ (isE t o c) b (0 + a.length) (by omega) with ⟨h3, _⟩ | ⟨h3, _⟩ <;> omega
theorem nh : 0 ≤ bb l t o c ↔ ∃ e ∈ l, isE t o c e = true := by
  constructor
  · intro h
    unfold bb at h
    rcases dQ (isE t o c) l 0 (by omega) with ⟨h1, _⟩ | ⟨_, _, e, h3, h4⟩
    · omega
    · exact ⟨e, List.mem_of_getElem? h3, h4⟩
  · rintro ⟨e, h1, h2⟩
    refine Int.not_lt.1 fun h => ?_
    have := nT.1 h e h1
    rw [h2] at this; cases this
theorem qc {e : Event} : isE t o c e = true ↔ e.thread = t ∧ e.op = o ∧ e.ret = c := by simp [isE]
theorem so {e : Event} (h : bb a t o c < 0) (he : isE t o c e = true) : bb (a ++ e :: b) t o c = (a.length : Int) := by
  unfold bb at h ⊢
  rw [fV _ _ _ _ (by omega), if_neg (by omega)]
  simp only [cH]
  rw [if_pos he]; omega
end
section
variable {ops : List (List Op)} {l : List Event} {N : Int → Int} {B : Int → Bool}
theorem Hs.call_ex (h : Hs ops l N B) {t o : Int} (h0 : 0 ≤ o) (h1 : o < N t ∨ o = N t ∧ B t = true) : 0 ≤ bb l t o false := by
  rcases h1 with h1 | ⟨rfl, h1⟩
  · have := nh.2 (h.returned t o h0 h1)
    have := h.call_lt this
    rcases Int.lt_or_le (bb l t o false) 0 with h2 | h2
    · obtain ⟨e, he, h3⟩ := h.returned t o h0 h1
      obtain ⟨j, hj⟩ := List.mem_iff_getElem?.1 he
      obtain ⟨g1, g2, g3⟩ := qc.1 h3
      obtain ⟨i, e', _, h4, h5⟩ := h.after j e hj g3
      rw [g1, g2] at h5
      exact nh.2 ⟨e', List.mem_of_getElem? h4, h5⟩
    · exact h2
  · exact nh.2 (h.called t h1)
theorem Hs.ret_no (h : Hs ops l N B) {t o : Int} (h1 : N t ≤ o) : bb l t o true < 0 := by
  refine nT.2 fun e he => ?_
  by_cases hb : isE t o true e = true
  · obtain ⟨g1, g2, g3⟩ := qc.1 hb
    obtain ⟨_, _, h3⟩ := h.mem e he
    rw [g1, g2] at h3
    rcases h3 with h3 | ⟨_, h3, _⟩
    · omega
    · rw [g3] at h3; cases h3
  · simpa using hb
end
theorem nA {ops : List (List Op)} {L : List Event} {t : Int} {r : List Linear_call} (h : getI (bw ops L) t = some r) : ∃ row, getI ops t = some row ∧ r = cX L t row 0 := by
  obtain ⟨h0, h1, _⟩ := az h
  obtain ⟨k, rfl⟩ : ∃ k : Nat, t = (k : Int) := ⟨t.toNat, by omega⟩
  rw [bS, de] at h
  cases ho : ops[k]? with
  | none => rw [ho] at h; cases h
  | some row => rw [ho] at h; cases h; exact ⟨row, by rw [bS]; exact ho, rfl⟩
theorem oQ {ops : List (List Op)} {L : List Event} {p : Int → Int} {m : Nat} {c : Linear_call} (h : kE (bw ops L) (pOf p m) c) (hp : ∀ u, 0 ≤ p u) : ∃ t o j, p t ≤ j ∧ c = eT o L t j := by
  obtain ⟨t, r, n, h1, h2, h3⟩ := h
  obtain ⟨t0, t1⟩ := aQ h2
  rw [qg] at t1
  rw [dR t0 t1] at h2
  cases h2
  obtain ⟨row, h4, rfl⟩ := nA h1
  obtain ⟨i, hi⟩ := List.mem_iff_getElem?.1 h3
  rw [List.getElem?_drop] at hi
  obtain ⟨o, _, h6, _⟩ := (ky _ _ _ _ _ _).1 hi
  have := hp t
  exact ⟨t, o, _, by omega, h6⟩
def cZ (r : Result) : Prop := r.kind = 1 ∨ r.kind = 2 ∨ r.kind = 5 ∨ r.kind = 6
instance : DecidablePred cZ := fun r => by unfold cZ; infer_instance
theorem sJ {C : List Chan} {op : Op} {r : Result} (h : ¬ cZ r) (ha : (aO C op r).2 = true) : (aO C op r).1 = C := by
  unfold cZ at h
  unfold aO at ha ⊢
  rw [if_neg (by omega), if_neg (by omega), if_neg (by omega)] at ha ⊢
  by_cases h3 : r.kind = 3
  · rw [if_pos h3] at ha ⊢
    split at ha
    · rename_i hh; rw [if_pos hh]
    · cases ha
  rw [if_neg h3] at ha ⊢
  by_cases h4 : r.kind = 4
  · rw [if_pos h4] at ha ⊢
    split at ha
    · rename_i hh; rw [if_pos hh]
    · cases ha
  rw [if_neg h4] at ha ⊢
  by_cases h7 : r.kind = 7
  · rw [if_pos h7] at ha ⊢
    split at ha
    · rename_i hh; rw [if_pos hh]
    · cases ha
  rw [if_neg h7] at ha; cases ha
theorem j5 {f : Case → Int → List Result} {op : Op} {r : Result} : ∀ {cs : List Case} {i : Int} {j : Nat} {x : Case}, cs[j]? = some x → r ∈ f x (numOf op (i + j)) → r ∈ bR f op cs i
  | [], _, _, _, h, _ => by simp at h
  | c :: cs, i, 0, x, h, hr => by
    simp at h; subst h
    unfold bR
    exact List.mem_append_left _ (by simpa using hr)
  | c :: cs, i, j + 1, x, h, hr => by
    unfold bR
    refine List.mem_append_right _ (j5 (j := j) (by simpa using h) ?_)
    rw [show i + 1 + (j : Int) = i + ((j + 1 : Nat) : Int) by omega]; exact hr
theorem qO {C : List Chan} {op : Op} {r : Result} (h : cZ r) (ha : (aO C op r).2 = true) : r ∈ fe C op := by
  obtain ⟨k, n, v, ok, num⟩ := r
  have hok : okR C op ⟨k, n, v, ok, num⟩ = true := ha
  unfold fe
  by_cases h3 : op.kind = 3
  · rw [if_pos h3, List.mem_filter]
    refine ⟨?_, hok⟩
    unfold aO at ha
    have hno : bc op n = none := by unfold bc dm; simp [h3]
    simp only at ha
    by_cases h1 : k = 1 ∨ k = 2 ∨ (k = 5 ∧ op.kind ≠ 3)
    · rw [if_pos h1, hno] at ha; cases ha
    rw [if_neg h1] at ha
    by_cases h5 : k = 5
    · subst h5
      rw [if_pos rfl] at ha
      split at ha
      · rename_i hh
        simp [bh] at hh
        obtain ⟨g1, ⟨⟨g2, g3⟩, g4⟩, _⟩ := hh
        subst g1 g2 g3 g4; simp [rP]
      · cases ha
    rw [if_neg h5] at ha
    have h6 : k = 6 := by unfold cZ at h; simp only at h; omega
    subst h6
    rw [if_pos rfl] at ha
    split at ha
    · rename_i hh
      simp [bh] at hh
      obtain ⟨_, g1, ⟨⟨g2, g3⟩, g4⟩, _⟩ := hh
      subst g1 g2 g3 g4; simp
    · cases ha
  · rw [if_neg h3, List.mem_filter]
    refine ⟨?_, hok⟩
    unfold aO at ha
    simp only at ha
    by_cases h1 : k = 1 ∨ k = 2 ∨ (k = 5 ∧ op.kind ≠ 3)
    · rw [if_pos h1] at ha
      cases hc : bc op n with
      | none => rw [hc] at ha; cases ha
      | some x =>
        rw [hc] at ha
        simp only at ha
        have hx : ∃ j : Nat, (casesS op)[j]? = some x ∧ n = numOf op (0 + (j : Int)) := by
          unfold bc at hc
          unfold casesS numOf
          by_cases h4 : op.kind = 4
          · rw [if_neg (by rw [gk h4]; decide), if_pos h4] at hc
            obtain ⟨n0, n1, _⟩ := az hc
            exact ⟨n.toNat, by rw [if_pos h4]; exact n1, by rw [if_pos h4]; omega⟩
          · rw [if_neg h4] at hc ⊢
            split at hc
            · rename_i hs
              split at hc
              · rename_i hn; cases hc
                exact ⟨0, by rw [if_pos hs]; rfl, by rw [if_neg h4]; exact hn⟩
              · cases hc
            · cases hc
        obtain ⟨j, hj, hn⟩ := hx
        refine j5 hj ?_
        rw [← hn]
        unfold cF at ha
        cases hg : getI C x.channel with
        | none => rw [hg] at ha; cases ha
        | some c =>
          rw [hg] at ha
          simp only at ha
          unfold fP
          by_cases k1 : k = 1
          · subst k1
            rw [if_pos rfl] at ha
            split at ha
            · rename_i hh
              simp [bh] at hh
              obtain ⟨g0, ⟨⟨g2, g3⟩, g4⟩, _⟩ := hh
              subst g2 g3 g4
              rw [if_pos g0]; simp [rS]
            · cases ha
          rw [if_neg k1] at ha
          by_cases k5 : k = 5
          · subst k5
            rw [if_pos rfl] at ha
            split at ha
            · rename_i hh
              simp [bh] at hh
              obtain ⟨g0, ⟨⟨g2, g3⟩, g4⟩, _⟩ := hh
              subst g2 g3 g4
              rw [if_pos g0]; simp [rP]
            · cases ha
          rw [if_neg k5] at ha
          have k2 : k = 2 := by omega
          subst k2
          rw [if_pos rfl] at ha
          split at ha
          · cases ha
          · rename_i hs
            rw [if_neg hs]
            have hf : bX C x.channel = c := by unfold bX; rw [hg]; rfl
            split at ha
            · rename_i hokk
              split at ha
              · rename_i hh
                simp at hh
                obtain ⟨g1, g2⟩ := hh
                subst g1
                have hokk : ok = true := hokk
                subst hokk
                refine List.mem_append_left _ ?_
                rw [hf]
                obtain ⟨w, b, hb⟩ : ∃ w b, c.buffer = w :: b := by
                  cases hb : c.buffer with
                  | nil => rw [hb] at g2; cases g2
                  | cons w b => exact ⟨w, b, rfl⟩
                rw [if_pos (by rw [hb]; simp)]
                have hw : v = w := by rw [hb] at g2; exact (Option.some.inj g2).symm
                have hh : eW C x = w := by unfold eW; rw [hf, hb]; rfl
                rw [hh, hw]; simp [rV]
              · cases ha
            · rename_i hokk
              split at ha
              · rename_i hh
                simp at hh
                obtain ⟨g1, g2, _⟩ := hh
                have hokk : ok = false := by simpa using hokk
                subst g1 g2 hokk
                refine List.mem_append_right _ ?_
                simp [rN]
              · cases ha
    · unfold cZ at h
      simp only at h
      have h6 : k = 6 := by omega
      subst h6
      rw [if_neg h1, if_neg (by decide), if_pos rfl] at ha
      split at ha
      · rename_i hh
        simp [h3] at hh
      · cases ha
end Go.Hx

namespace Go.Hx
open Go
set_option linter.unusedVariables false
set_option linter.unusedSimpArgs false
def nN (s : MS) (u : Int) : Int := (getI s.nx u).getD 0
def sN (s : MS) (u : Int) : Int := (getI s.st u).getD 0
def rD (s : MS) (u : Int) : Result := (getI s.rs u).getD qe
def bN (s : MS) (u : Int) : Bool := !decide (sN s u = 0)
structure DV (caps : List Int) (d : Desk) : Prop where
  ws : ∀ w ∈ d.waiting, WOk w
  rest : Rest d
  cp : Cp caps d
theorem rn {d : Desk} {t : Int} {op : Op} (h : (DoD d t op).2.2 = true) (hk : 1 ≤ op.kind ∧ op.kind ≤ 6) : op.kind = 1 ∨ op.kind = 2 ∨ op.kind = 4 := by
  unfold DoD at h
  by_cases h3 : op.kind = 3
  · rw [if_pos h3] at h; cases h
  rw [if_neg h3] at h
  by_cases h5 : op.kind = 5 ∨ op.kind = 6
  · rw [if_pos h5] at h; cases h
  omega
theorem qz {d : Desk} {t : Int} {op : Op} (h : (DoD d t op).2.2 = true) : (DoD d t op).1.chans = d.chans ∧ (DoD d t op).2.1 = [] := by
  unfold DoD at h ⊢
  by_cases h3 : op.kind = 3
  · rw [if_pos h3] at h; cases h
  rw [if_neg h3] at h ⊢
  by_cases h56 : op.kind = 5 ∨ op.kind = 6
  · rw [if_pos h56] at h; cases h
  rw [if_neg h56] at h ⊢
  cases hx : getI (aY op) (bZ d t op) with
  | some x => rw [hx] at h; cases h
  | none =>
    rw [hx] at h
    simp only at h ⊢
    by_cases hm : op.mode = 1
    · rw [if_pos hm] at h; cases h
    rw [if_neg hm] at h ⊢
    by_cases hm2 : op.mode = 2 ∧ op.deadline ≤ d.tick
    · rw [if_pos hm2] at h; cases h
    rw [if_neg hm2]
    exact ⟨rfl, rfl⟩
theorem DV.doo {caps : List Int} {d : Desk} {t : Int} {op : Op} (h : DV caps d) (ho : OpOk op) (ht : ∀ w ∈ d.waiting, w.thread ≠ t) : DV caps (DoD d t op).1 := by
  refine ⟨fun w hw => ?_, h.rest.thr h.ws ho ht, h.cp.thr ho⟩
  rcases fy (d := d) (t := t) ho.len ho.kind with ⟨h1, h2, _⟩ | ⟨_, rem, h2, _⟩
  · rw [h2] at hw
    rcases List.mem_append.1 hw with hw | hw
    · exact h.ws w hw
    · rw [List.mem_singleton] at hw; subst hw; exact ⟨ho, rn h1 ho.kind⟩
  · exact h.ws w (h2.mem_iff.2 (List.mem_append_left _ hw))
section
variable {x : Config} {ops : List (List Op)} {n : Nat} {s : MS} {t : Int} {o : Op}
theorem nf (h : dG ops s t = some o) : getI s.nx t = some (nN s t) ∧ ∃ r, getI ops t = some r ∧ getI r (nN s t) = some o := by
  obtain ⟨k, r, c1, c2, c3⟩ := dO h
  have : nN s t = k := by simp [nN, c1]
  rw [this]; exact ⟨c1, r, c2, c3⟩
theorem er {v : Int} (h : getI s.st t = some v) : sN s t = v := by simp [sN, h]
theorem Run.base (hx : fx x) (hf : OpsFine ops) (hl : (ops.length : Int) = x.threads) (h : Run ops (bD x) n s) : n ≤ 800 → Base ops n s := by
  induction h with
  | nil => exact fun _ => lC hx hl
  | call h h0 hk hr ho ih => exact fun hn => (ih (by omega)).call (by omega) h0 hk hr ho
  | doo h h1 ho ih => exact fun hn => (ih (by omega)).doo hf (by omega) h1 ho
  | ret h h3 hk hr ho ih =>
    intro hn
    obtain ⟨k', row, c1, c2, c3⟩ := dO ho
    rw [hk] at c1; cases c1
    have h4 := hf.2.1 row (aH c2)
    have h5 := (aQ c3).2
    exact (ih (by omega)).ret (by omega) h3 hk (by omega) c2 c3
theorem Run.dv (hx : fx x) (hf : OpsFine ops) (hl : (ops.length : Int) = x.threads) (h : Run ops (bD x) n s) : n ≤ 800 → DV x.capacities s.d := by
  induction h with
  | nil => exact fun _ => ⟨fun w hw => (by simp [bD, f5] at hw), qY x, tJ hx⟩
  | call h h0 hk hr ho ih => exact fun hn => ih (by omega)
  | doo h h1 ho ih =>
    intro hn
    have hB := h.base hx hf hl (by omega)
    obtain ⟨_, r, c2, c3⟩ := nf ho
    refine (ih (by omega)).doo (hf.op c2 c3) fun w hw e => ?_
    have := (hB.wt w hw).1
    rw [e, h1] at this; cases this
  | ret h h3 hk hr ho ih => exact fun hn => ih (by omega)
theorem qm {k : Int} (hB : t < (s.st.length : Int)) (h0 : 0 ≤ t) (u : Int) : sN (cD s t k) u = if u = t then 1 else sN s u := by
  unfold sN cD
  simp only
  rw [bn h0 hB]
  by_cases e : u = t
  · rw [if_pos e, if_pos e]; rfl
  · rw [if_neg e, if_neg e]
theorem sR {k : Int} {r : Result} (hB : t < (s.st.length : Int)) (h0 : 0 ≤ t) (u : Int) : sN (cG s t k r) u = if u = t then 0 else sN s u := by
  unfold sN cG
  simp only
  rw [bn h0 hB]
  by_cases e : u = t
  · rw [if_pos e, if_pos e]; rfl
  · rw [if_neg e, if_neg e]
theorem sH {k : Int} {r : Result} (hB : t < (s.nx.length : Int)) (h0 : 0 ≤ t) (u : Int) : nN (cG s t k r) u = if u = t then k + 1 else nN s u := by
  unfold nN cG
  simp only
  rw [bn h0 hB]
  by_cases e : u = t
  · rw [if_pos e, if_pos e]; rfl
  · rw [if_neg e, if_neg e]
theorem tR (hB : Base ops n s) (hf : OpsFine ops) (h1 : getI s.st t = some 1) (ho : dG ops s t = some o) (u : Int) : sN (doS s t o) u = if u ∈ bm (DoD s.d t o).2.1 then 3 else if u = t then 2 else sN s u := by
  obtain ⟨_, d2, _⟩ := dP hB hf h1 ho
  obtain ⟨t0, t1⟩ := aQ h1
  have hsl := hB.sl
  unfold sN doS
  simp only
  rw [fp _ _ _ u fun y hy => by rw [aJ]; have := d2 y hy; omega, bn t0 t1]
  split
  · rfl
  · split <;> rfl
theorem do_rs (hB : Base ops n s) (hf : OpsFine ops) (h1 : getI s.st t = some 1) (ho : dG ops s t = some o) : (∀ y ∈ (DoD s.d t o).2.1, rD (doS s t o) y.thread = y.result) ∧ ∀ u, u ∉ bm (DoD s.d t o).2.1 → rD (doS s t o) u = rD s u := by
  obtain ⟨d1, d2, _⟩ := dP hB hf h1 ho
  have hrl := hB.rl
  obtain ⟨h2, h3⟩ := kC (DoD s.d t o).2.1 (aG s.st t 2) s.rs (fun y hy => by have := d2 y hy; omega) d1
  refine ⟨fun y hy => ?_, fun u hu => ?_⟩
  · unfold rD doS; simp only; rw [h2 y hy]; rfl
  · unfold rD doS; simp only; rw [h3 u hu]
theorem pY (hB : Base ops n s) (hf : OpsFine ops) (h1 : getI s.st t = some 1) (ho : dG ops s t = some o) {y : Done} (hy : y ∈ (DoD s.d t o).2.1) : (sN s y.thread = 1 ∨ sN s y.thread = 2) ∧ 0 ≤ y.thread ∧ y.thread < (ops.length : Int) := by
  obtain ⟨_, d2, _⟩ := dP hB hf h1 ho
  obtain ⟨y0, y1, h2⟩ := d2 y hy
  refine ⟨?_, y0, y1⟩
  rcases h2 with h2 | ⟨w, hw, h2⟩
  · rw [h2]; exact .inl (er h1)
  · rw [← h2]; exact .inr (er (hB.wt w hw).1)
theorem Run.hs (hx : fx x) (hf : OpsFine ops) (hl : (ops.length : Int) = x.threads) (h : Run ops (bD x) n s) : n ≤ 800 → Hs ops s.l (nN s) (bN s) := by
  induction h with
  | nil =>
    intro _
    have e1 : nN (bD x) = fun _ => 0 := funext fun u => by
      unfold nN
      cases h : getI (bD x).nx u with
      | none => rfl
      | some v => exact dS (n := x.threads.toNat) h
    have e2 : bN (bD x) = fun _ => false := funext fun u => by
      unfold bN sN
      cases h : getI (bD x).st u with
      | none => rfl
      | some v => have h3 : v = 0 := dS (n := x.threads.toNat) h
                  subst h3; rfl
    rw [e1, e2]; exact .nil
  | @call n s t k r o h h0 hk hr ho ih =>
    intro hn
    have hB := h.base hx hf hl (by omega)
    obtain ⟨t0, t1⟩ := aQ h0
    have hN : nN s t = k := by simp [nN, hk]
    have h2 := Hs.call t r (ih (by omega)) hr (by unfold bN; rw [er h0]; rfl) (by rw [hN]; exact (aQ ho).2)
    have e1 : nN (cD s t k) = nN s := rfl
    have e2 : bN (cD s t k) = up (bN s) t true := funext fun u => by
      unfold bN up
      rw [qm t1 t0]
      by_cases e : u = t
      · rw [if_pos e, if_pos e]; rfl
      · rw [if_neg e, if_neg e]
    rw [e1, e2]
    rw [hN] at h2; exact h2
  | @doo n s t o h h1 ho ih =>
    intro hn
    have hB := h.base hx hf hl (by omega)
    have e1 : nN (doS s t o) = nN s := rfl
    have e2 : bN (doS s t o) = bN s := funext fun u => by
      unfold bN
      rw [tR hB hf h1 ho]
      by_cases e : u ∈ bm (DoD s.d t o).2.1
      · rw [if_pos e]
        obtain ⟨y, hy, rfl⟩ := List.mem_map.1 e
        rcases (pY hB hf h1 ho hy).1 with h2 | h2 <;> rw [h2] <;> rfl
      · rw [if_neg e]
        by_cases e3 : u = t
        · rw [if_pos e3, e3, er h1]; rfl
        · rw [if_neg e3]
    rw [e1, e2]; exact ih (by omega)
  | @ret n s t k r o h h3 hk hr ho ih =>
    intro hn
    have hB := h.base hx hf hl (by omega)
    obtain ⟨t0, t1⟩ := aQ h3
    obtain ⟨_, row, c2, c3⟩ := nf ho
    have hN : nN s t = k := by simp [nN, hk]
    have h2 := Hs.ret t row r (ih (by omega)) c2 (by unfold bN; rw [er h3]; rfl)
    have e1 : nN (cG s t k r) = up (nN s) t (nN s t + 1) := funext fun u => by
      unfold up
      rw [sH (aQ hk).2 t0, hN]
    have e2 : bN (cG s t k r) = up (bN s) t false := funext fun u => by
      unfold bN up
      rw [sR t1 t0]
      by_cases e : u = t
      · rw [if_pos e, if_pos e]; rfl
      · rw [if_neg e, if_neg e]
    rw [e1, e2]
    rw [hN] at h2 ⊢; exact h2
theorem Run.take (h : Run ops (bD x) n s) : ∀ k, k ≤ s.l.length → ∃ m s', m ≤ n ∧ Run ops (bD x) m s' ∧ s'.l = s.l.take k := by
  induction h with
  | nil => exact fun k hk => ⟨0, _, Nat.le_refl _, .nil, by simp [bD]⟩
  | @call n s t k r o h h0 hk hr ho ih =>
    intro j hj
    by_cases e : j ≤ s.l.length
    · obtain ⟨m, s', h2, h3, h4⟩ := ih j e
      exact ⟨m, s', by omega, h3, by rw [h4]; simp only [cD]; rw [List.take_append_of_le_length e]⟩
    · refine ⟨n + 1, _, Nat.le_refl _, .call h h0 hk hr ho, ?_⟩
      rw [List.take_of_length_le (by simp only [cD, List.length_append, List.length_singleton] at hj ⊢; omega)]
  | doo h h1 ho ih =>
    intro j hj
    obtain ⟨m, s', h2, h3, h4⟩ := ih j hj
    exact ⟨m, s', by omega, h3, h4⟩
  | @ret n s t k r o h h3 hk hr ho ih =>
    intro j hj
    by_cases e : j ≤ s.l.length
    · obtain ⟨m, s', h2, h3, h4⟩ := ih j e
      exact ⟨m, s', by omega, h3, by rw [h4]; simp only [cG]; rw [List.take_append_of_le_length e]⟩
    · refine ⟨n + 1, _, Nat.le_refl _, .ret h h3 hk hr ho, ?_⟩
      rw [List.take_of_length_le (by simp only [cG, List.length_append, List.length_singleton] at hj ⊢; omega)]
end
def qS (L : List Event) (s : MS) (u : Int) : Int := nN s u + if sN s u = 3 ∧ (0 ≤ bb L u (nN s u) true ∨ cZ (rD s u)) then 1 else 0
structure Wy (ops : List (List Op)) (L : List Event) (s : MS) : Prop where
  way : ∃ ds, Way (bw ops L) true (fun _ => True) (pOf (qS L s) ops.length) s.d.chans ds
  fit : ∀ u, sN s u = 3 → bb L u (nN s u) true < 0 ∨ (gj L u (nN s u)).1 = rD s u
theorem sL (L : List Event) (s : MS) (u : Int) : nN s u ≤ qS L s u := by unfold qS; split <;> omega
section
variable {ops : List (List Op)} {L tail : List Event} {s : MS} {t : Int} {o : Op}
theorem gb {N : Int → Int} {B : Int → Bool} {l : List Event} {p : Int → Int} {y : Int} {row : List Op} (hH : Hs ops l N B) (hL : L = l ++ tail) (hp : ∀ u, N u ≤ p u) (hb : B y = true) (hy0 : 0 ≤ y) (hy1 : y < (ops.length : Int)) (hr : getI ops y = some row) (ho : getI row (N y) = some o) (hpy : p y = N y) :
    Cand (bw ops L) true (pOf p ops.length) y (eT o L y (N y)) := by
  have hN := hH.nonneg
  have hcall : ∀ j, 0 ≤ j → j ≤ N y → 0 ≤ bb l y j false := fun j j0 j1 => by
    by_cases e : j = N y
    · exact hH.call_ex j0 (.inr ⟨e, hb⟩)
    · exact hH.call_ex j0 (.inl (by omega))
  refine ⟨⟨cX L y row 0, N y, nB hr, by rw [dR hy0 hy1, hpy], ?_⟩, fun c hc h0 => ?_, .inl rfl⟩
  · obtain ⟨k, hk⟩ : ∃ k : Nat, N y = (k : Int) := ⟨(N y).toNat, by have := hN y; omega⟩
    rw [hk] at ho hcall ⊢
    rw [bS] at ho ⊢
    refine (ky _ _ _ _ _ _).2 ⟨o, ho, by rw [Int.zero_add], fun j hj => ?_⟩
    have := hcall (j : Int) (by omega) (by omega)
    rw [Int.zero_add, hL, ol this]; exact this
  · obtain ⟨u, o', j, h1, rfl⟩ := oQ hc fun u => Int.le_trans (hN u) (hp u)
    have h0 : 0 ≤ bb L u j true := h0
    show bb L y (N y) false < bb L u j true
    have h2 := hH.ret_no (t := u) (o := j) (Int.le_trans (hp u) h1)
    have h3 := hcall (N y) (hN y) (Int.le_refl _)
    rw [hL] at h0 ⊢
    have h4 := qR h2 h0
    have h5 := (ge l y (N y) false).2
    rw [ol h3]; omega
theorem tI {C : List Chan} {y : Int} {k : Int} {r : Result} (hf : bb L y k true < 0 ∨ (gj L y k).1 = r) (hc : 0 ≤ bb L y k true ∨ cZ r) (ha : (aO C o r).2 = true) : r ∈ gi (eT o L y k) C := by
  unfold gi
  by_cases h : 0 ≤ (eT o L y k).coming
  · rw [if_pos h, List.mem_singleton]
    have h : 0 ≤ bb L y k true := h
    rcases hf with hf | hf
    · omega
    · exact hf.symm
  · rw [if_neg h]
    have h : ¬ 0 ≤ bb L y k true := h
    exact qO (hc.resolve_left h) ha
theorem fX {y : Int} {k : Int} {r : Result} (hf : bb L y k true < 0 ∨ (gj L y k).1 = r) : cn (eT o L y k) r := hf
theorem sZ {opsV : List Op} {to : List Chan} {q N : Int → Int} {B : Int → Bool} {l : List Event} {rs : Int → Result} (hH : Hs ops l N B) (hL : L = l ++ tail) (hV : ∀ u o, getI opsV u = some o → 0 ≤ u → u < (ops.length : Int) → B u = true → ∃ row, getI ops u = some row ∧ getI row (N u) = some o)
    (hend : ∃ ds, Way (bw ops L) true (fun _ => True) (pOf q ops.length) to ds) : ∀ {a : List Chan} {l' : List Done}, DWay opsV to a l' → (bm l').Nodup →
    (∀ y ∈ l', 0 ≤ y.thread ∧ y.thread < (ops.length : Int) ∧ B y.thread = true ∧ (bb L y.thread (N y.thread) true < 0 ∨ (gj L y.thread (N y.thread)).1 = y.result) ∧ q y.thread = N y.thread + if 0 ≤ bb L y.thread (N y.thread) true ∨ cZ y.result then 1 else 0) → (∀ u, N u ≤ q u) →
    ∃ ds, Way (bw ops L) true (fun _ => True) (pOf (fun u => if u ∈ bm l' then N u else q u) ops.length) a ds := by
  intro a l' hw
  induction hw with
  | nil => intro _ _ _; simpa [bm] using hend
  | @one a l' rest y op hp ho ha hr ih =>
    intro hnd hy hq
    have hnd2 : (bm (y :: rest)).Nodup := (hp.map _).nodup_iff.1 hnd
    have hmem : ∀ z, z ∈ l' ↔ z = y ∨ z ∈ rest := fun z => by rw [hp.mem_iff, List.mem_cons]
    have hth : ∀ u, u ∈ bm l' ↔ u = y.thread ∨ u ∈ bm rest := fun u => by
      rw [show bm l' = l'.map (·.thread) from rfl, (hp.map _).mem_iff]; simp [bm]
    rw [show bm (y :: rest) = y.thread :: bm rest from rfl, List.nodup_cons] at hnd2
    obtain ⟨hny, hnr⟩ := hnd2
    have hny : y.thread ∉ bm rest := hny
    obtain ⟨ds, hds⟩ := ih hnr (fun z hz => hy z ((hmem z).2 (.inr hz))) hq
    obtain ⟨y0, y1, hB, hfit, hqy⟩ := hy y ((hmem y).2 (.inl rfl))
    obtain ⟨row, hr1, hr2⟩ := hV _ _ ho y0 y1 hB
    have hpl : (fun u => if u ∈ bm l' then N u else q u) y.thread = N y.thread := by simp only; rw [if_pos ((hth _).2 (.inl rfl))]
    by_cases hc : 0 ≤ bb L y.thread (N y.thread) true ∨ cZ y.result
    · rw [if_pos hc] at hqy
      refine ⟨_, .one (ds := ds) (gb hH hL (fun u => ?_) hB y0 y1 hr1 hr2 hpl) (tI hfit hc ha) ha ?_⟩
      · by_cases e : u ∈ bm l'
        · rw [if_pos e]; exact Int.le_refl _
        · rw [if_neg e]; exact hq u
      · rw [nq y0 y1]
        rw [df (g := fun u => if u ∈ bm rest then N u else q u)]
        · exact hds
        · intro u _ _
          by_cases e : u = y.thread
          · subst e
            have hpl2 : (if y.thread ∈ bm l' then N y.thread else q y.thread) = N y.thread := hpl
            rw [if_pos rfl, hpl2, if_neg hny, hqy]
          · rw [if_neg e]
            by_cases e2 : u ∈ bm rest
            · rw [if_pos e2, if_pos ((hth u).2 (.inr e2))]
            · rw [if_neg e2, if_neg fun h => ((hth u).1 h).elim e e2]
    · rw [if_neg hc] at hqy
      have hcr : ¬ cZ y.result := fun h => hc (.inr h)
      rw [sJ hcr ha] at hds
      refine ⟨ds, ?_⟩
      rw [df (g := fun u => if u ∈ bm rest then N u else q u)]
      · exact hds
      · intro u _ _
        by_cases e : u = y.thread
        · subst e
          rw [if_pos ((hth _).2 (.inl rfl)), if_neg hny, hqy]; omega
        · by_cases e2 : u ∈ bm rest
          · rw [if_pos e2, if_pos ((hth u).2 (.inr e2))]
          · rw [if_neg e2, if_neg fun h => ((hth u).1 h).elim e e2]
  | @two a l' rest y z p p' hp ho ho' hpair hr ih =>
    intro hnd hy hq
    have hnd2 : (bm (y :: z :: rest)).Nodup := (hp.map _).nodup_iff.1 hnd
    have hmem : ∀ w, w ∈ l' ↔ w = y ∨ w = z ∨ w ∈ rest := fun w => by rw [hp.mem_iff, List.mem_cons, List.mem_cons]
    have hth : ∀ u, u ∈ bm l' ↔ u = y.thread ∨ u = z.thread ∨ u ∈ bm rest := fun u => by
      rw [show bm l' = l'.map (·.thread) from rfl, (hp.map _).mem_iff]; simp [bm]
    rw [show bm (y :: z :: rest) = y.thread :: z.thread :: bm rest from rfl, List.nodup_cons, List.nodup_cons, List.mem_cons, not_or] at hnd2
    obtain ⟨⟨hyz, hny⟩, hnz, hnr⟩ := hnd2
    have hny : y.thread ∉ bm rest := hny
    have hnz : z.thread ∉ bm rest := hnz
    obtain ⟨ds, hds⟩ := ih hnr (fun w hw => hy w ((hmem w).2 (.inr (.inr hw)))) hq
    obtain ⟨y0, y1, hB, hfit, hqy⟩ := hy y ((hmem y).2 (.inl rfl))
    obtain ⟨z0, z1, hB', hfit', hqz⟩ := hy z ((hmem z).2 (.inr (.inl rfl)))
    obtain ⟨row, hr1, hr2⟩ := hV _ _ ho y0 y1 hB
    obtain ⟨row', hr1', hr2'⟩ := hV _ _ ho' z0 z1 hB'
    have hreal : cZ y.result ∧ cZ z.result := by
      rw [Bool.or_eq_true] at hpair
      rcases hpair with h | h
      · obtain ⟨_, _, _, _, _, _, _, h1, h2⟩ := dB h
        rw [h1, h2]; exact ⟨.inl rfl, .inr (.inl rfl)⟩
      · obtain ⟨_, _, _, _, _, _, _, h1, h2⟩ := dB h
        rw [h1, h2]; exact ⟨.inr (.inl rfl), .inl rfl⟩
    rw [if_pos (.inr hreal.1)] at hqy
    rw [if_pos (.inr hreal.2)] at hqz
    have hply : (fun u => if u ∈ bm l' then N u else q u) y.thread = N y.thread := by simp only; rw [if_pos ((hth _).2 (.inl rfl))]
    have hplz : (fun u => if u ∈ bm l' then N u else q u) z.thread = N z.thread := by simp only; rw [if_pos ((hth _).2 (.inr (.inl rfl)))]
    have hple : ∀ u, N u ≤ (fun u => if u ∈ bm l' then N u else q u) u := fun u => by
      show N u ≤ if u ∈ bm l' then N u else q u
      split
      · exact Int.le_refl _
      · exact hq u
    have hcy := gb hH hL hple hB y0 y1 hr1 hr2 hply
    have hcz := gb hH hL hple hB' z0 z1 hr1' hr2' hplz
    have hend2 : ∀ u v : Int, (u = y.thread ∧ v = z.thread) ∨ (u = z.thread ∧ v = y.thread) → cC (cC (pOf (fun u => if u ∈ bm l' then N u else q u) ops.length) u) v = pOf (fun u => if u ∈ bm rest then N u else q u) ops.length := by
      intro u v huv
      have hu : 0 ≤ u ∧ u < (ops.length : Int) := by rcases huv with ⟨h, _⟩ | ⟨h, _⟩ <;> omega
      have hv : 0 ≤ v ∧ v < (ops.length : Int) := by rcases huv with ⟨_, h⟩ | ⟨_, h⟩ <;> omega
      rw [nq hu.1 hu.2, nq hv.1 hv.2]
      refine df fun w _ _ => ?_
      have hzy : z.thread ≠ y.thread := fun e => hyz e.symm
      simp only at hply hplz ⊢
      rcases huv with ⟨rfl, rfl⟩ | ⟨rfl, rfl⟩
      · by_cases e : w = z.thread
        · subst e
          rw [if_pos rfl, if_neg hzy, hplz, if_neg hnz, hqz]
        · rw [if_neg e]
          by_cases e2 : w = y.thread
          · subst e2
            rw [if_pos rfl, hply, if_neg hny, hqy]
          · rw [if_neg e2]
            by_cases e3 : w ∈ bm rest
            · rw [if_pos e3, if_pos ((hth w).2 (.inr (.inr e3)))]
            · rw [if_neg e3, if_neg fun h => ((hth w).1 h).elim e2 fun h => h.elim e e3]
      · by_cases e : w = y.thread
        · subst e
          rw [if_pos rfl, if_neg hyz, hply, if_neg hny, hqy]
        · rw [if_neg e]
          by_cases e2 : w = z.thread
          · subst e2
            rw [if_pos rfl, hplz, if_neg hnz, hqz]
          · rw [if_neg e2]
            by_cases e3 : w ∈ bm rest
            · rw [if_pos e3, if_pos ((hth w).2 (.inr (.inr e3)))]
            · rw [if_neg e3, if_neg fun h => ((hth w).1 h).elim e fun h => h.elim e2 e3]
    rw [Bool.or_eq_true] at hpair
    rcases hpair with h | h
    · exact ⟨_, .two hcy hcz (fun e => hyz e.symm) h (fX hfit) (fX hfit') (by rw [hend2 _ _ (.inl ⟨rfl, rfl⟩)]; exact hds)⟩
    · exact ⟨_, .two hcz hcy hyz h (fX hfit') (fX hfit) (by rw [hend2 _ _ (.inr ⟨rfl, rfl⟩)]; exact hds)⟩
end
end Go.Hx

namespace Go.Hx
open Go
set_option linter.unusedVariables false
set_option linter.unusedSimpArgs false
section
variable {x : Config} {ops : List (List Op)} {L tail : List Event} {s : MS} {t : Int} {o : Op} {n : Nat}
theorem oG {u : Int} (h : sN s u ≠ 3) : qS L s u = nN s u := by
  unfold qS; rw [if_neg fun e => h e.1]; omega
def opsV (ops : List (List Op)) (s : MS) : List Op := (List.range ops.length).map fun (i : Nat) => (dG ops s (i : Int)).getD (Op.mk 0 0 0 0 0 [] [])
theorem ks {u : Int} (h0 : 0 ≤ u) (h1 : u < (ops.length : Int)) {o : Op} (h : dG ops s u = some o) : getI (opsV ops s) u = some o := by
  obtain ⟨k, rfl⟩ : ∃ k : Nat, u = (k : Int) := ⟨u.toNat, by omega⟩
  rw [bS]
  unfold opsV
  rw [List.getElem?_map, List.getElem?_range (by omega)]
  simp [h]
theorem Wy.call {k : Int} (h : Run ops (bD x) n s) (hB : Base ops n s) (h0 : getI s.st t = some 0) (hw : Wy ops L (cD s t k)) : Wy ops L s := by
  obtain ⟨t0, t1⟩ := aQ h0
  have hs : ∀ u, sN (cD s t k) u = if u = t then 1 else sN s u := qm t1 t0
  obtain ⟨ds, hds⟩ := hw.way
  refine ⟨⟨ds, ?_⟩, fun u hu => ?_⟩
  · have e : pOf (qS L s) ops.length = pOf (qS L (cD s t k)) ops.length := df fun u _ _ => by
      unfold qS
      rw [hs]
      by_cases e : u = t
      · rw [if_pos e, e, er h0, if_neg (by rintro ⟨h, _⟩; exact absurd h (by decide)), if_neg (by rintro ⟨h, _⟩; exact absurd h (by decide))]; rfl
      · rw [if_neg e]; rfl
    rw [e]; exact hds
  · have hne : u ≠ t := fun e => by rw [e, er h0] at hu; exact absurd hu (by decide)
    exact hw.fit u (by rw [hs, if_neg hne]; exact hu)
theorem Wy.ret {k : Int} {r : Result} (hB : Base ops n s) (hH : Hs ops s.l (nN s) (bN s)) (h3 : getI s.st t = some 3) (hk : getI s.nx t = some k) (hr : getI s.rs t = some r) (hL : L = (cG s t k r).l ++ tail) (hw : Wy ops L (cG s t k r)) : Wy ops L s := by
  obtain ⟨t0, t1⟩ := aQ h3
  have hnl := hB.nl
  have hsl := hB.sl
  have hs : ∀ u, sN (cG s t k r) u = if u = t then 0 else sN s u := sR t1 t0
  have hn : ∀ u, nN (cG s t k r) u = if u = t then k + 1 else nN s u := sH (by omega) t0
  have hN : nN s t = k := by simp [nN, hk]
  have hL' : L = s.l ++ Event.mk t k true r :: tail := by rw [hL]; simp [cG]
  have hno : bb s.l t k true < 0 := hH.ret_no (by rw [hN]; exact Int.le_refl _)
  have hf : bb L t k true = (s.l.length : Int) := by rw [hL']; exact so hno (by simp [isE])
  have hre : (gj L t k).1 = r := by
    unfold gj
    rw [hf, if_neg (by omega)]
    simp only [Int.toNat_natCast]
    rw [hL', List.getElem?_append_right (Nat.le_refl _)]; simp
  obtain ⟨ds, hds⟩ := hw.way
  refine ⟨⟨ds, ?_⟩, fun u hu => ?_⟩
  · have e : pOf (qS L s) ops.length = pOf (qS L (cG s t k r)) ops.length := df fun u _ _ => by
      by_cases e : u = t
      · subst e
        rw [oG (s := cG s u k r) (by rw [hs, if_pos rfl]; decide), hn, if_pos rfl]
        unfold qS
        rw [if_pos ⟨er h3, .inl (by rw [hN, hf]; omega)⟩, hN]
      · unfold qS
        rw [hs, hn, if_neg e, if_neg e]; rfl
    rw [e]; exact hds
  · by_cases e : u = t
    · subst e
      refine .inr ?_
      rw [hN, hre]
      simp [rD, hr]
    · have := hw.fit u (by rw [hs, if_neg e]; exact hu)
      rw [hn, if_neg e] at this; exact this
theorem Wy.doo (hB : Base ops n s) (hD : DV x.capacities s.d) (hf : OpsFine ops) (hH : Hs ops s.l (nN s) (bN s)) (h1 : getI s.st t = some 1) (ho : dG ops s t = some o) (hL : L = s.l ++ tail) (hw : Wy ops L (doS s t o)) : Wy ops L s := by
  obtain ⟨hc, row, c2, c3⟩ := nf ho
  have hok := hf.op c2 c3
  obtain ⟨t0, t1⟩ := aQ h1
  have hsl := hB.sl
  have hst := tR hB hf h1 ho
  obtain ⟨hr1, hr2⟩ := do_rs hB hf h1 ho
  obtain ⟨d1, d2, _⟩ := dP hB hf h1 ho
  have hnn : ∀ u, nN (doS s t o) u = nN s u := fun u => rfl
  have hdst := fun y hy => pY hB hf h1 ho (y := y) hy
  have hthr : ∀ u, u ∈ bm (DoD s.d t o).2.1 → sN s u = 1 ∨ sN s u = 2 := fun u hu => by
    obtain ⟨y, hy, rfl⟩ := List.mem_map.1 hu
    exact (hdst y hy).1
  have hway : DWay (opsV ops s) (doS s t o).d.chans s.d.chans (DoD s.d t o).2.1 := by
    show DWay (opsV ops s) (DoD s.d t o).1.chans s.d.chans (DoD s.d t o).2.1
    by_cases hwt : (DoD s.d t o).2.2 = true
    · obtain ⟨e1, e2⟩ := qz hwt
      rw [e1, e2]; exact .nil
    · refine uh hD.ws hD.rest hD.cp hok (fun w hw e => ?_) (ks t0 (by omega) ho) (fun w hw => ?_) (by simpa using hwt)
      · have := (hB.wt w hw).1
        rw [e, h1] at this; cases this
      · have h2 := (hB.wt w hw)
        obtain ⟨w0, w1⟩ := aQ h2.1
        exact ks w0 (by omega) h2.2
  have hV : ∀ u o, getI (opsV ops s) u = some o → 0 ≤ u → u < (ops.length : Int) → bN s u = true → ∃ row, getI ops u = some row ∧ getI row (nN s u) = some o := by
    intro u o' hu u0 u1 hb
    obtain ⟨v, hv⟩ : ∃ v, getI s.st u = some v := ⟨_, aF u0 (by omega)⟩
    have hv0 : v ≠ 0 := fun e => by
      unfold bN at hb
      rw [er hv, e] at hb; cases hb
    obtain ⟨o2, h2⟩ := hB.act u v hv hv0
    rw [ks u0 u1 h2] at hu
    cases hu
    exact (nf h2).2
  have hq3 : ∀ y ∈ (DoD s.d t o).2.1, qS L (doS s t o) y.thread = nN s y.thread + if 0 ≤ bb L y.thread (nN s y.thread) true ∨ cZ y.result then 1 else 0 := fun y hy => by
    have hm : y.thread ∈ bm (DoD s.d t o).2.1 := List.mem_map_of_mem hy
    unfold qS
    rw [hst, if_pos hm, hnn, hr1 y hy]
    by_cases h : 0 ≤ bb L y.thread (nN s y.thread) true ∨ cZ y.result
    · rw [if_pos ⟨rfl, h⟩, if_pos h]
    · rw [if_neg (fun e => h e.2), if_neg h]
  have hres := sZ (q := qS L (doS s t o)) (rs := rD s) hH hL hV hw.way hway d1 (fun y hy => by
    obtain ⟨y1, y2, y3⟩ := hdst y hy
    have hm : y.thread ∈ bm (DoD s.d t o).2.1 := List.mem_map_of_mem hy
    refine ⟨y2, y3, ?_, ?_, hq3 y hy⟩
    · unfold bN; rcases y1 with h | h <;> rw [h] <;> rfl
    · have := hw.fit y.thread (by rw [hst, if_pos hm])
      rw [hnn, hr1 y hy] at this; exact this) (fun u => sL L (doS s t o) u)
  obtain ⟨ds, hds⟩ := hres
  refine ⟨⟨ds, ?_⟩, fun u hu => ?_⟩
  · rw [df (f := qS L s) (g := fun u => if u ∈ bm (DoD s.d t o).2.1 then nN s u else qS L (doS s t o) u)]
    · exact hds
    · intro u _ _
      by_cases hm : u ∈ bm (DoD s.d t o).2.1
      · rw [if_pos hm, oG (by rcases hthr u hm with h | h <;> rw [h] <;> decide)]
      · rw [if_neg hm]
        by_cases e : u = t
        · rw [oG (by rw [e, er h1]; decide), oG (by rw [hst, if_neg hm, if_pos e]; decide)]; rfl
        · unfold qS
          rw [hst, if_neg hm, if_neg e, hr2 u hm, hnn]
  · have hm : u ∉ bm (DoD s.d t o).2.1 := fun h => by rcases hthr u h with h | h <;> rw [h] at hu <;> exact absurd hu (by decide)
    have hne : u ≠ t := fun e => by rw [e, er h1] at hu; exact absurd hu (by decide)
    have := hw.fit u (by rw [hst, if_neg hm, if_neg hne]; exact hu)
    rw [hnn, hr2 u hm] at this; exact this
theorem Wy.end (hH : Hs ops s.l (nN s) (bN s)) : Wy ops s.l s := by
  refine ⟨⟨[], .stop (fun c hc => ?_) trivial⟩, fun u _ => .inl (hH.ret_no (Int.le_refl _))⟩
  obtain ⟨u, o', j, h1, rfl⟩ := oQ hc fun u => Int.le_trans (hH.nonneg u) (sL s.l s u)
  exact hH.ret_no (Int.le_trans (sL s.l s u) h1)
theorem Run.back (hx : fx x) (hf : OpsFine ops) (hl : (ops.length : Int) = x.threads) (h : Run ops (bD x) n s) : n ≤ 800 → ∀ tail, Wy ops (s.l ++ tail) s → Wy ops (s.l ++ tail) (bD x) := by
  induction h with
  | nil => exact fun _ _ h => h
  | @call n s t k r o h h0 hk hr ho ih =>
    intro hn tail hw
    have e : (cD s t k).l ++ tail = s.l ++ (Event.mk t k false qe :: tail) := by simp [cD]
    rw [e] at hw ⊢
    exact ih (by omega) _ (hw.call h (h.base hx hf hl (by omega)) h0)
  | @doo n s t o h h1 ho ih =>
    intro hn tail hw
    have e : (doS s t o).l ++ tail = s.l ++ tail := rfl
    rw [e] at hw ⊢
    exact ih (by omega) _ (hw.doo (h.base hx hf hl (by omega)) (h.dv hx hf hl (by omega)) hf (h.hs hx hf hl (by omega)) h1 ho rfl)
  | @ret n s t k r o h h3 hk hr ho ih =>
    intro hn tail hw
    have e : (cG s t k r).l ++ tail = s.l ++ (Event.mk t k true r :: tail) := by simp [cG]
    have hw2 := Wy.ret (h.base hx hf hl (by omega)) (h.hs hx hf hl (by omega)) h3 hk hr rfl hw
    rw [e] at hw2 ⊢
    exact ih (by omega) _ hw2
theorem Run.way (hx : fx x) (hf : OpsFine ops) (hl : (ops.length : Int) = x.threads) (h : Run ops (bD x) n s) (hn : n ≤ 800) : ∃ ds, rq x ops s.l ds := by
  have h1 := h.back hx hf hl hn [] (by rw [List.append_nil]; exact Wy.end (h.hs hx hf hl hn))
  rw [List.append_nil] at h1
  obtain ⟨ds, hds⟩ := h1.way
  refine ⟨ds, ?_⟩
  unfold rq
  have e : pOf (qS s.l (bD x)) ops.length = eu ops := by
    refine om fun u hu => ?_
    by_cases h : u < (ops.length : Int)
    · have h0 : ∀ k : Nat, getI (List.replicate k (0 : Int)) u = none ∨ getI (List.replicate k (0 : Int)) u = some 0 := fun k => by
        cases hg : getI (List.replicate k (0 : Int)) u with
        | none => exact .inl rfl
        | some v => rw [dS hg]; exact .inr rfl
      have e1 : sN (bD x) u = 0 := by
        unfold sN bD; rcases h0 x.threads.toNat with h | h <;> simp only <;> rw [h] <;> rfl
      have e2 : nN (bD x) u = 0 := by
        unfold nN bD; rcases h0 x.threads.toNat with h | h <;> simp only <;> rw [h] <;> rfl
      rw [dR hu h, oG (by rw [e1]; decide), e2]
      obtain ⟨v, hv⟩ : ∃ v, getI (eu ops) u = some v := ⟨_, aF hu (by unfold eu; rw [List.length_replicate]; exact h)⟩
      rw [hv, dS hv]
    · rw [dH (by omega), bz (.inr (by unfold eu; rw [List.length_replicate]; omega))]
  rw [← e]; exact hds
end
theorem OpOk.v {o : Op} (h : OpOk o) : OpV o := by
  intro i x hx
  unfold bc at hx
  split at hx
  · split at hx
    · cases hx; exact h.val
    · cases hx
  · split at hx
    · exact (h.cases x (aH hx)).v
    · cases hx
theorem MadeOk.hist {x : Config} {ops : List (List Op)} {l m : List Event} (h : MadeOk x ops l) (hm : m.length ≤ 1000) : HistIn x ops m := by
  have h1 := h.cfg.t4
  have h2 := h.len
  have h3 := h.cfg.n3
  exact ⟨by omega, by omega, fun r hr => by have := h.rows r hr; omega, by omega, fun k hk => by have := h.cfg.cap k hk; omega, fun r hr o ho => ⟨(h.fine.2.2 r hr o ho).m, (h.fine.2.2 r hr o ho).v⟩⟩
theorem MadeOk.pre {x : Config} {ops : List (List Op)} {l : List Event} (h : MadeOk x ops l) {k : Nat} (hk : k ≤ l.length) : ∃ n s, n ≤ 100 ∧ Run ops (bD x) n s ∧ s.l = l.take k := by
  obtain ⟨s, _, m, hR, hm, _, _, rfl⟩ := h.run
  obtain ⟨n, s', h1, h2, h3⟩ := hR.take k hk
  exact ⟨n, s', by omega, h2, h3⟩
theorem MadeOk.check {x : Config} {ops : List (List Op)} {l m : List Event} {n : Nat} {s : MS} (h : MadeOk x ops l) (hn : n ≤ 200) (hR : Run ops (bD x) n s) (hm : s.l = m) (hl : m.length ≤ 1000) : Ok (fB x ops m) fun b => b = true := by
  subst hm
  exact (rm (h.hist hl)).mono fun b hb => hb.2 (hR.way h.cfg h.fine h.len (by omega))
end Go.Hx

namespace Go.Hx
open Go
set_option linter.unusedVariables false
set_option linter.unusedSimpArgs false
def cntF (t : Int) (q : Int × Bool) (e : Event) : Int × Bool := if e.thread = t then (if e.ret = true then q.1 + 1 else q.1, !e.ret) else q
theorem Hs.cnt {ops : List (List Op)} {l : List Event} {N : Int → Int} {B : Int → Bool} (h : Hs ops l N B) (t : Int) : l.foldl (cntF t) (0, false) = (N t, B t) := by
  induction h with
  | nil => rfl
  | call u r h hr hb hn ih =>
    rw [List.foldl_append, ih]
    simp only [List.foldl_cons, List.foldl_nil, cntF]
    by_cases e : u = t
    · subst e; rw [if_pos rfl, cR]; rfl
    · rw [if_neg e, cw fun h => e h.symm]
  | ret u r x h hr hb ih =>
    rw [List.foldl_append, ih]
    simp only [List.foldl_cons, List.foldl_nil, cntF]
    by_cases e : u = t
    · subst e; rw [if_pos rfl, cR, cR]; rfl
    · rw [if_neg e, cw fun h => e h.symm, cw fun h => e h.symm]
theorem fg (codes : List Int) (cut thread : Int) (hc : ∀ b ∈ codes, 0 ≤ b ∧ b < 256) : mW codes cut thread = some true := by
  refine Ok.eq ?_
  unfold mW
  refine Ok.bindEq te ?_
  rw [if_pos rfl]
  refine Ok.bd3 (tH hc (by omega) (by omega)) fun x ops l hm => ?_
  simp only at hm
  have hll := hm.ev.2
  have ht2 := hm.cfg.t2
  have ht4 := hm.cfg.t4
  have hol := hm.len
  rw [be (by omega) (by omega)]
  refine Ok.bind (tW (by omega) (by omega)) fun k ⟨k0, k1⟩ => ?_
  have hcut : cY l 0 k = some (l.take k.toNat) := by
    rw [cj (by omega) (by omega) (by omega)]; simp
  have htl : (l.take k.toNat).length ≤ 100 := by rw [List.length_take]; omega
  refine Ok.bindEq hcut ?_
  obtain ⟨n, s, hn, hR, hs⟩ := hm.pre (k := k.toNat) (by omega)
  refine Ok.bind (hm.check (by omega) hR hs (by omega)) fun b hb => ?_
  rw [if_pos hb]
  refine Ok.bind (tW (by omega) (by omega)) fun t ⟨t0, t1⟩ => ?_
  refine Ok.bindEq hcut ?_
  have hB := hR.base hm.cfg hm.fine hm.len (by omega)
  have hH := hR.hs hm.cfg hm.fine hm.len (by omega)
  have hcnt := hH.cnt t
  rw [hs] at hcnt
  have hnl := hB.nl
  have hsl := hB.sl
  generalize hm' : l.take k.toNat = m at *
  refine ea (fun _ _ i => ((m.length : Int) - i).toNat) (fun c b i => 0 ≤ i ∧ i ≤ (m.length : Int) ∧ 0 ≤ c ∧ c ≤ i ∧ (m.take i.toNat).foldl (cntF t) (0, false) = (c, b)) (fun _ _ _ r => r = true) ?_ BIG 0 false 0 ⟨by omega, by omega, by omega, by omega, by simp⟩ (bv (by omega))
  intro c b i q ⟨i0, i1, c0, c1, hf⟩ hq
  unfold mV
  refine Ok.ite (fun hi => ?_) fun hi => ?_
  · obtain ⟨e, he⟩ : ∃ e, getI m i = some e := ⟨_, aF i0 hi⟩
    have hf2 : (m.take (i + 1).toNat).foldl (cntF t) (0, false) = cntF t (c, b) e := by
      rw [cB he, List.foldl_append, hf]; rfl
    have hJ : ∀ c' b', 0 ≤ c' → c' ≤ i + 1 → cntF t (c, b) e = (c', b') → Ok (jO ops l k t m i x q c' b') fun r => r = true := fun c' b' g0 g1 g2 => by
      unfold jO
      rw [be (by omega) (by omega)]
      exact hq _ _ _ ⟨by omega, by omega, g0, g1, by rw [hf2, g2]⟩ (by omega)
    refine Ok.bindEq he ?_
    refine Ok.ite (fun h1 => Ok.ite (fun h2 => ?_) fun h2 => ?_) fun h1 => ?_
    · rw [be (by omega) (by omega)]
      refine hJ _ _ (by omega) (by omega) ?_
      unfold cntF; rw [if_pos h1, if_pos h2]
    · refine hJ _ _ (by omega) (by omega) ?_
      unfold cntF; rw [if_pos h1, if_neg h2]
    · refine hJ _ _ (by omega) (by omega) ?_
      unfold cntF; rw [if_neg h1]
  · rw [List.take_of_length_le (by omega), hcnt] at hf
    have e1 : nN s t = c := (Prod.mk.inj hf).1
    have e2 : bN s t = b := (Prod.mk.inj hf).2
    have hend : Ok (jN ops l k t c x true) fun r => r = true := by
      unfold jN
      rw [if_pos rfl]; exact Ok.some rfl
    unfold mU
    refine Ok.ite (fun _ => hend) fun hb2 => ?_
    obtain ⟨row, hrow⟩ : ∃ r, getI ops t = some r := ⟨_, aF t0 t1⟩
    refine Ok.bindEq hrow ?_
    by_cases hge : c ≥ (row.length : Int)
    · rw [show dcd (c ≥ (row.length : Int)) = true from bP.2 hge]; exact hend
    · rw [show dcd (c ≥ (row.length : Int)) = false from dZ.2 hge]
      obtain ⟨o, ho⟩ : ∃ o, getI row c = some o := ⟨_, aF c0 (by omega)⟩
      obtain ⟨v, hv⟩ : ∃ v, getI s.st t = some v := ⟨_, aF t0 (by omega)⟩
      obtain ⟨w, hw⟩ : ∃ w, getI s.nx t = some w := ⟨_, aF t0 (by omega)⟩
      have hv0 : v = 0 := by
        have hb3 : b = false := by simpa using hb2
        rw [hb3] at e2
        unfold bN at e2
        rw [er hv] at e2
        simpa using e2
      have hwc : w = c := by rw [← e1]; simp [nN, hw]
      subst hv0 hwc
      unfold jN
      rw [if_neg (by decide)]
      refine Ok.bindEq hcut ?_
      refine Ok.bindEq (bk (by simp; omega)) ?_
      refine Ok.bindEq (bk (by simp; omega)) ?_
      rw [List.nil_append]
      refine Ok.bind (hm.check (n := n + 1) (by omega) (.call hR hv hw hrow ho) (by show s.l ++ _ = _; rw [hs]; rfl) (by simp; omega)) fun r hr => Ok.some hr
end Go.Hx
