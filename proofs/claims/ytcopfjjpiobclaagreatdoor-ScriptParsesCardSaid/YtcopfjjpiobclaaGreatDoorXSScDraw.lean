
import Derived.Test.YtcopfjjpiobclaaGreatDoorXSCasesCk
set_option linter.unusedVariables false
set_option linter.unusedSimpArgs false
namespace Go.Hx
open Go
def Sz (n : Nat) (o : Op) : Prop := o.cases.length ≤ n ∧ o.draws.length ≤ n
theorem aet {o : Op} (h : I7 o) : Gq o = 0 := by
 have hk := h.kind
 have hm := h.mode
 have hl := h.lens
 have hch : ∀ n, aeH n → nmS n = true := fun n hn => by obtain ⟨h0, h1⟩ := hn; simp [nmS]; omega
 have hR : agE o := ⟨hch _ h.ch, h.dead.1, by have := h.dead.2; omega, by
  rw [List.any_eq_false]
  intro x hx
  rw [hch _ (h.cases x hx).ch]; simp⟩
 have hS : GH o := ⟨h.plain, h.timed, fun h4 => by
  obtain ⟨e1, e2⟩ := h.nosel h4
  refine ⟨by rw [e1]; rfl, by rw [e2]; rfl, ?_⟩
  by_cases h1 : o.kind = 1
  ·exact .inl h1
  ·exact .inr (h.val0 h1), fun h4 => ⟨(h.sel h4).1, (h.sel h4).2, hl.1, fun x hx hs => (h.cases x hx).v0 hs⟩⟩
 unfold Gq ck0 ck1 ck2 ck3
 rw [if_neg (fun h : ¬ (1 ≤ o.kind ∧ o.kind ≤ 6 ∧ 0 ≤ o.mode ∧ o.mode ≤ 2) => h ⟨hk.1, hk.2, hm.1, hm.2⟩), if_neg (fun h : ¬ agE o => h hR), if_neg (by omega), if_neg (fun h' : ¬ DrP o.draws => h' h.draws), if_pos hS]
theorem ajz {o : Op} (h : I7 o) : aeJ o := ⟨h.val, fun x hx => (h.cases x hx).v⟩
theorem sz_of {o : Op} (h : I7 o) : Sz 6 o := ⟨h.lens.2, by have := h.lens.1; have := h.lens.2; omega⟩
theorem ako {c : DJ} {t : Int} (hc : Cd c) (h1 : 1 ≤ t) (h8 : t ≤ 8) : Ok (M7 c t 200) fun r => r.1.length ≤ 300 ∧ (∀ p ∈ r.1, -4 ≤ p ∧ p < t) ∧ Hw c.list r.2.1 := by
 obtain ⟨hl, ha⟩ := hc
 have hlen := hl.len
 unfold M7
 refine alr (fun _ a _ => ((c.list.length : Int) - a).toNat) (fun l a v => Hw c.list a ∧ l.length ≤ 300 ∧ ∀ p ∈ l, -4 ≤ p ∧ p < t) (fun _ _ _ => _) ?_ BIG [] c.at_ c.value ⟨ha, by simp, by simp⟩ (E1 (by have := ha.lo; omega))
 intro l a v k ⟨ga, gl, gp⟩ hk
 have key : ∀ b : Bool, (b = true → a < (c.list.length : Int) ∧ (l.length : Int) < 200) → Ok (JZ t 200 l c a v k b) fun r => r.1.length ≤ 300 ∧ (∀ p ∈ r.1, -4 ≤ p ∧ p < t) ∧ Hw c.list r.2.1 := by
  intro b hb
  unfold JZ
  refine Ok.ite (fun h => ?_) fun h => ?_
  ·obtain ⟨hlt, h200⟩ := hb h
   refine Ok.bd2 (FI (c := DJ.mk c.list a v) ⟨hl, ga⟩ (by omega)) fun q a1 ⟨b0, b1, ha1, hm1, hs1⟩ => ?_
   simp only at b0 b1 ha1 hm1 hs1
   have e1 := hs1 hlt
   refine Ok.ite (fun h39 => ?_) fun h39 => ?_
   ·refine Ok.bd2 (FI (c := DJ.mk c.list a1 _) ⟨hl, ha1⟩ (by omega)) fun q2 a2 ⟨c0, c1, ha2, hm2, _⟩ => ?_
    simp only at c0 c1 ha2 hm2
    rw [EK (x := -1 - q2) (by omega) (by omega)]
    refine Ok.bindEq (Fp (by simp; omega)) ?_
    refine hk _ _ _ ⟨ha2, by simp; omega, fun p hp => ?_⟩ ?_
    ·rcases List.mem_append.1 hp with hp | hp
     ·exact gp p hp
     ·simp at hp; omega
    ·have := ha2.hi; have := ga.lo; omega
   ·have hq : 0 ≤ Int.tdiv q 10 ∧ Int.tdiv q 10 ≤ 4 := by
     rw [Int.tdiv_eq_ediv_of_nonneg b0]; omega
    refine aiv (fun _ i _ _ => (5 - i).toNat) (fun l' i a' v' => 0 ≤ i ∧ i ≤ 5 ∧ (l'.length : Int) = l.length + i ∧ Hw c.list a' ∧ a1 ≤ a' ∧ ∀ p ∈ l', -4 ≤ p ∧ p < t) (fun _ _ _ _ => _) ?_ BIG l 0 a1 _ ⟨by omega, by omega, by omega, ha1, by omega, gp⟩ (E1 (by omega))
    intro l' i a' v' k' ⟨i0, i5, il, ia, im, ip⟩ hk'
    unfold agt
    rw [EK (x := Int.tdiv q 10) (by omega) (by omega)]
    refine Ok.ite (fun hi => ?_) fun hi => ?_
    ·refine Ok.bd2 (FI (c := DJ.mk c.list a' v') ⟨hl, ia⟩ (by omega)) fun q2 a2 ⟨c0, c1, ha2, hm2, _⟩ => ?_
     simp only at c0 c1 ha2 hm2
     refine Ok.bindEq (Fp (by simp; omega)) ?_
     rw [EK (x := i + 1) (by omega) (by omega)]
     refine hk' _ _ _ _ ⟨by omega, by omega, by simp; omega, ha2, by omega, fun p hp => ?_⟩ (by omega)
     rcases List.mem_append.1 hp with hp | hp
     ·exact ip p hp
     ·simp at hp; omega
    ·refine hk _ _ _ ⟨ia, by omega, ip⟩ ?_
     have := ia.hi; have := ga.lo; omega
  ·exact Ok.some ⟨gl, gp, ga⟩
 unfold agu
 rw [afG]
 simp only [Option.bind_some]
 refine Ok.ite (fun h => key _ fun h2 => ?_) fun h => key _ fun h2 => by cases h2
 rw [E0] at h h2
 exact ⟨h, h2⟩
structure Dn (s : Script) : Prop where
 cfg : amD s.cnfg
 ops : aiV s.cnfg.threads 10 s.ops
 np : s.picks.length ≤ 300
 picks : ∀ p ∈ s.picks, -4 ≤ p ∧ p < s.cnfg.threads
theorem ajE {c : DJ} {m : Int} (hc : Cd c) (h0 : 0 ≤ m) (hm : m ≤ 10) : Ok (M8 c m) fun r => Dn r.1 ∧ Hw c.list r.2.1 := by
 obtain ⟨hl, ha⟩ := hc
 unfold M8
 refine Ok.bd3 (ajA (c := c) ⟨hl, ha⟩) fun x a v ⟨hx, hax⟩ => ?_
 simp only at hx hax
 have hx3 := hx.n3; have hx2 := hx.t2; have hx4 := hx.t4
 refine Ok.bd3 (amW (c := DJ.mk c.list a v) ⟨hl, hax⟩ (by omega) (by omega) (by omega) h0 (by omega)) fun l a2 v2 ⟨hops, ha2⟩ => ?_
 unfold agv
 refine Ok.bd3 (ako (c := DJ.mk c.list a2 v2) ⟨hl, ha2⟩ (by omega) (by omega)) fun ps a3 v3 ⟨h3, hp, ha3⟩ => ?_
 exact Ok.some ⟨⟨hx, ⟨hops.len, fun r hr => by have h5 := hops.each r hr; show (r.length : Int) ≤ 10; omega, hops.ok⟩, h3, hp⟩, ha3⟩
theorem Dn.ck {s : Script} (h : Dn s) : CkP s where
 c8 := by have := h.cfg.n3; omega
 cs := h.cfg.ns
 cap := fun k hk => by have := h.cfg.cap k hk; omega
 st := fun v hv => (h.cfg.st v hv).2
 th := by have := h.cfg.t2; have := h.cfg.t4; omega
 n := h.ops.len
 ops := fun l hl => ⟨by have h5 := h.ops.each l hl; have h6 : (l.length : Int) ≤ 10 := h5; omega, fun o ho => aet (h.ops.ok l hl o ho)⟩
 np := by have := h.np; omega
 picks := fun p hp => by have := h.picks p hp; omega
structure Sm (s : Script) : Prop where
 caps : s.cnfg.capacities.length ≤ 100
 starts : s.cnfg.starts.length ≤ 100
 ops : s.ops.length ≤ 100
 picks : s.picks.length ≤ 4100
 each : ∀ l ∈ s.ops, l.length ≤ 100 ∧ ∀ o ∈ l, Sz 100 o ∧ aeJ o
 st : ∀ v ∈ s.cnfg.starts, 0 ≤ v
theorem Sm.sz {s : Script} (h : Sm s) : SzS s :=
 ⟨by have := h.caps; omega, by have := h.starts; omega, by have := h.ops; omega, by have := h.picks; omega, fun l hl => ⟨by have := (h.each l hl).1; omega, fun o ho => by
  obtain ⟨⟨a, b⟩, _⟩ := (h.each l hl).2 o ho
  exact ⟨by omega, by omega⟩⟩⟩
theorem Sm.v {s : Script} (h : Sm s) : ScV s := ⟨h.st, fun l hl o ho => ((h.each l hl).2 o ho).2⟩
theorem Dn.each {s : Script} (h : Dn s) : ∀ l ∈ s.ops, l.length ≤ 10 ∧ ∀ o ∈ l, Sz 100 o ∧ aeJ o := fun l hl =>
 ⟨by have h5 := h.ops.each l hl; have h6 : (l.length : Int) ≤ 10 := h5; omega, fun o ho => by
  have h2 := h.ops.ok l hl o ho
  obtain ⟨a, b⟩ := sz_of h2
  exact ⟨⟨by omega, by omega⟩, ajz h2⟩⟩
theorem Dn.sm {s : Script} (h : Dn s) : Sm s :=
 ⟨by have := h.cfg.n3; omega, by have := h.cfg.n3; have := h.cfg.ns; omega, by have := h.ops.len; have := h.cfg.t4; omega, by have := h.np; omega, fun l hl => ⟨by have := (h.each l hl).1; omega, (h.each l hl).2⟩, fun v hv => (h.cfg.st v hv).1⟩
theorem ai3 (b : ByteArray) : ∃ t : Wd, b = BS t := ⟨b.data.toList, (Ld b).symm⟩
theorem anx {s s' : Script} {ln : Ln} {n : Nat} (hv : ScV s) (hz : LnZ n ln) (h : E6 s ln = some s') : ScV s' := by
 cases ln with
 | chan c v =>
  simp only [E6] at h
  split at h
  ·cases h
   refine ⟨fun x hx => ?_, hv.ops⟩
   rcases List.mem_append.1 hx with hx | hx
   ·exact hv.st x hx
   ·simp at hx; subst hx; exact hz.1
  ·cases h
 | thread =>
  simp only [E6] at h
  split at h
  ·cases h
   refine ⟨hv.st, fun l hl => ?_⟩
   rcases List.mem_append.1 hl with hl | hl
   ·exact hv.ops l hl
   ·simp at hl; subst hl; simp
  ·cases h
 | op o =>
  simp only [E6] at h
  split at h
  ·rename_i e
   cases h
   refine ⟨hv.st, fun l hl => ?_⟩
   rcases List.mem_append.1 hl with hl | hl
   ·exact hv.ops l ((List.dropLast_sublist _).subset hl)
   ·simp only [List.mem_singleton] at hl
    subst hl
    intro o' ho
    rcases List.mem_append.1 ho with ho | ho
    ·have hlast : s.ops.getLastD [] ∈ s.ops := by
      rw [List.getLastD_eq_getLast?, List.getLast?_eq_some_getLast e.1]
      exact List.getLast_mem e.1
     exact hv.ops _ hlast o' ho
    ·simp only [List.mem_singleton] at ho; subst ho; exact hz.1
  ·cases h
 | picks l =>
  simp only [E6] at h
  split at h
  ·cases h
   exact ⟨hv.st, hv.ops⟩
  ·cases h
theorem anr : ∀ (f : Nat) {s s' : Script} {n : Int} {t : Wd}, t.length < f → ScV s → pT s n t = .inl s' → ScV s' := by
 intro f
 induction f with
 | zero => intro s s' n t h; omega
 | succ f ih =>
  intro s s' n t hf hc h
  by_cases ht : t = []
  ·subst ht
   rw [Kz] at h
   cases h
   exact hc
  ·rcases Kq (c := 10) t with h2 | ⟨a, r, ha, rfl⟩
   ·rw [pT_no ht h2] at h; cases h
   ·rw [JC ha] at h
    cases hp : GO a with
    | none => rw [hp] at h; cases h
    | some ln =>
     rw [hp] at h
     simp only [Option.bind_some] at h
     cases hs : E6 s ln with
     | none => rw [hs] at h; cases h
     | some s1 =>
      rw [hs] at h
      simp only at h
      exact ih (by simp at hf; omega) (anx hc (K3 hp) hs) h
theorem sz0 : SzS EO := ⟨by simp [EO], by simp [EO], by simp [EO], by simp [EO], by simp [EO]⟩
theorem amr (t : Wd) : SzS (Ik ckS t).1 := by
 rw [JB]
 split
 ·exact sz0
 ·unfold agO
  split
  ·exact sz0
  ·split
   ·rename_i h; exact (HB.1 h).sz
   ·exact sz0
theorem amq {t : Wd} (h : (Ik ckS t).2.2 = 0) : SzS (Ik ckS t).1 ∧ ScV (Ik ckS t).1 ∧ JH ckS (Ik ckS t).1 = (BS t, 0) := by
 rw [JB] at h ⊢
 split at h
 ·cases h
 rename_i hl
 rw [if_neg hl]
 cases hp : pT EO 1 t with
 | inr n => rw [hp] at h; cases h
 | inl s =>
  rw [hp] at h
  unfold agO at h ⊢
  simp only at h ⊢
  by_cases hk : ckS (F5 s) = 0
  rotate_left
  ·rw [if_neg hk] at h; exact absurd h hk
  rw [if_pos hk]
  have hv : ScV s := anr (t.length + 1) (by omega) (s := EO) ⟨by simp [EO], by simp [EO]⟩ hp
  obtain ⟨e, _⟩ := aiM (t.length + 1) (by omega) (s := EO) rfl hp
  have e2 : EP (F5 s) = t := by
   have : EP (F5 s) = EP s := rfl
   rw [this, e]; rfl
  refine ⟨(HB.1 hk).sz, ⟨hv.st, hv.ops⟩, ?_⟩
  show JH ckS (F5 s) = _
  unfold JH
  rw [if_neg (fun g => g hk), e2, if_neg hl]
theorem ams {s : Script} (h : CkP s) (hv : ScV s) (hl : (EP s).length ≤ 8000) : Ik ckS (EP s) = (s, 0, 0) := by
 rw [JB, if_neg (by omega), show EO = Script.mk (Config.mk [] [] 0) [] [] from rfl, aiJ (h.wf hv.st hv.ops)]
 have e : F5 (Script.mk (Config.mk s.cnfg.capacities s.cnfg.starts 0) s.ops s.picks) = s := by
  unfold F5
  simp only
  rw [h.n]
 unfold agO
 simp only
 rw [e, if_pos (HB.2 h)]
def ex : Script := Script.mk (Config.mk [1] [0] 1) [[Op.mk 1 0 0 5 0 [] [], Op.mk 4 1 0 0 0 [Case.mk false 0 0, Case.mk true (-1) 7] [0, 1]]] [0, 0, -3, 0]
def exT : Wd := [99, 104, 97, 110, 110, 101, 108, 32, 49, 32, 48, 10, 116, 104, 114, 101, 97, 100, 10, 32, 32, 115, 101, 110, 100, 32, 48, 32, 53, 10, 32, 32, 115, 101, 108, 101, 99, 116, 32, 114, 101, 99, 118, 32, 48, 32, 115, 101, 110, 100, 32, 45, 49, 32, 55, 32, 100, 114, 97, 119, 115, 32, 48, 32, 49, 32, 116, 114, 121, 10, 112, 105, 99, 107, 115, 32, 48, 32, 48, 32, 45, 51, 32, 48, 10]
theorem dig {i : Nat} (h : i < 10) : Lib.decDigits i = [UInt8.ofNat (48 + i)] := Lib.decDigits_one h
theorem agQ : EP ex = exT := by
 have d0 : Lib.decDigits 0 = [48] := dig (by decide)
 have d1 : Lib.decDigits 1 = [49] := dig (by decide)
 have d3 : Lib.decDigits 3 = [51] := dig (by decide)
 have d5 : Lib.decDigits 5 = [53] := dig (by decide)
 have d7 : Lib.decDigits 7 = [55] := dig (by decide)
 have i0 : Lib.itoa 0 = [48] := by unfold Lib.itoa; rw [if_neg (by decide)]; exact d0
 have i1 : Lib.itoa 1 = [49] := by unfold Lib.itoa; rw [if_neg (by decide)]; exact d1
 have j1 : Lib.itoa (-1) = [45, 49] := by unfold Lib.itoa; rw [if_pos (by decide)]; exact congrArg _ d1
 have j3 : Lib.itoa (-3) = [45, 51] := by unfold Lib.itoa; rw [if_pos (by decide)]; exact congrArg _ d3
 have k5 : Lib.decDigits (5 : Int).toNat = [53] := d5
 have k7 : Lib.decDigits (7 : Int).toNat = [55] := d7
 have k0 : Lib.decDigits (0 : Int).toNat = [48] := d0
 simp [EP, ex, FN, ER, Fh, GN, Fb, Ff, EQ, EX, Ft, d0, i0, i1, j1, j3, k5, k7, k0, d5, d7, Fg, E8, Fq, wPicks, Fj, FR, wSelect, FB, HE, exT]
theorem am3 : I7 (Op.mk 1 0 0 5 0 [] []) := by
 constructor <;> first | decide | simp [aeH, Jb]
theorem anf : I7 (Op.mk 4 1 0 0 0 [Case.mk false 0 0, Case.mk true (-1) 7] [0, 1]) := by
 refine ⟨by decide, by decide, by decide, by simp [aeH], by decide, by decide, by decide, by decide, by decide, fun i d h => ?_, fun c hc => ?_, by decide, by simp [Jb]⟩
 ·match i, h with
  | 0, h => simp at h; omega
  | 1, h => simp at h; omega
  | i + 2, h => simp at h
 ·simp at hc
  rcases hc with rfl | rfl
  ·exact ⟨by simp [aeH], by simp, by simp [Jb]⟩
  ·exact ⟨by simp [aeH], by simp, by simp [Jb]⟩
theorem amJ {l : List Op} (hl : l ∈ ex.ops) {o : Op} (ho : o ∈ l) : I7 o := by
 simp [ex] at hl
 subst hl
 simp at ho
 rcases ho with rfl | rfl
 ·exact am3
 ·exact anf
theorem alf : CkP ex where
 c8 := by decide
 cs := by decide
 cap := fun k hk => by simp [ex] at hk; omega
 st := fun k hk => by simp [ex] at hk; omega
 th := by decide
 n := by decide
 ops := fun l hl => ⟨by simp [ex] at hl; subst hl; simp, fun o ho => aet (amJ hl ho)⟩
 np := by decide
 picks := fun p hp => by simp [ex] at hp ⊢; omega
theorem ex_v : ScV ex := ⟨fun k hk => by simp [ex] at hk; omega, fun l hl o ho => ajz (amJ hl ho)⟩
theorem awake : L8 = some true := by
 unfold L8
 have e1 : KD (BS exT) = some (ex, 0, 0) := by
  rw [ahS, ← agQ, ams alf ex_v (by rw [agQ]; decide)]
 have e2 : Nz ex = some (BS exT, 0) := by
  rw [ahV alf.sz ex_v]
  unfold JH
  rw [if_neg (fun g => g (HB.2 alf)), agQ, if_neg (by decide)]
 show bd3 (KD (BS exT)) _ = _
 rw [e1, HV, e2, Hz, if_pos rfl, if_pos rfl, if_pos rfl]
 refine (if_pos rfl).trans ?_
 rw [if_pos (by decide), if_pos (by decide)]
 obtain ⟨l, hl, h2⟩ : ∃ l, getI ex.ops 0 = some l ∧ ((l.length : Nat) : Int) = 2 := ⟨_, rfl, rfl⟩
 rw [hl, Option.bind_some, E0.2 h2]
 rfl
theorem alK {a b : Int} (h0 : 0 ≤ a) (hb : 0 < b) : Ok (aez a b) fun r => 0 ≤ r ∧ r < b := by
 unfold aez
 rw [if_neg (by omega)]
 exact Ok.some ⟨Int.tmod_nonneg b h0, Int.tmod_lt_of_pos a hb⟩
theorem ajt {l : List ByteArray} {i : Int} {n : Nat} (h : ∀ w ∈ l, w.size ≤ n) (h0 : 0 ≤ i) (h1 : i < (l.length : Int)) : Ok (getI l i) fun w => ∃ t : Wd, w = BS t ∧ t.length ≤ n :=
 Ok.getI h0 h1 fun w _ hw => by
  obtain ⟨t, rfl⟩ := ai3 w
  exact ⟨t, rfl, by have := h _ hw; rw [E9] at this; exact this⟩
theorem alv {a b : Int} (h1 : 1 ≤ b) (hb : b ≤ 1000000) : Ok (J1 a b) fun r => 0 ≤ r ∧ r < b := by
 unfold J1 aez
 rw [if_neg (by omega), Option.bind_some]
 have h2 : Int.tmod a b < b := Int.tmod_lt_of_pos a (by omega)
 have h3 : -b < Int.tmod a b := by
  have := Int.lt_tmod_of_pos a (b := b) (by omega)
  omega
 refine Ok.ite (fun h => ?_) fun h => Ok.some ⟨by omega, h2⟩
 rw [EK (by omega) (by omega)]
 exact Ok.some ⟨by omega, by omega⟩
theorem IP {t : Wd} {lo hi : Int} {n : Nat} (hn : t.length ≤ n) (h0 : 0 ≤ lo) (h1 : lo ≤ hi) (h2 : hi ≤ ((BS t).size : Int)) : Ok (G4 (BS t) lo hi) fun b => ∃ u : Wd, b = BS u ∧ u.length ≤ n := by
 unfold G4
 rw [if_pos ⟨h0, h1, h2⟩]
 obtain ⟨u, hu⟩ := ai3 ((BS t).extract lo.toNat hi.toNat)
 refine Ok.some ⟨u, hu, ?_⟩
 have h5 : ((BS t).extract lo.toNat hi.toNat).size = (BS u).size := by rw [hu]
 rw [ByteArray.size_extract, E9 u] at h5
 have h4 : (BS t).size = t.length := E9 t
 omega
theorem Ia {a b : Wd} {n m k : Nat} (ha : a.length ≤ n) (hb : b.length ≤ m) (hk : n + m ≤ k) (h : k ≤ 1000000) : Ok (Fa (BS a) (BS b)) fun x => ∃ u : Wd, x = BS u ∧ u.length ≤ k :=
 ⟨_, E3 (by omega), _, rfl, by rw [List.length_append]; omega⟩
theorem ahT (p1 a b c d e : ByteArray) : Ok (lp1 (Nk p1 a b c d e) BIG 0) fun r => r = true := by
 refine agU (fun i => (6 - i).toNat) (fun i => 0 ≤ i ∧ i ≤ 6) (fun _ => _) ?_ BIG 0 ⟨by omega, by omega⟩ (E1 (by omega))
 intro i k ⟨i0, i1⟩ hk
 unfold Nk
 refine Ok.ite (fun h5 => ?_) fun h5 => Ok.some rfl
 have h6 : i < 6 := h5
 refine Ok.bindEq (E2 i0 h5) ?_
 obtain ⟨t, ht⟩ := ai3 ([p1, a, b, c, d, e][i.toNat]'(by simp; omega))
 rw [ht, ahS, aj7]
 show Ok (if (Ik ckS t).2.1 = (Ik ckS t).2.1 then (if (Ik ckS t).2.2 = (Ik ckS t).2.2 then (aeM (Ik ckS t).1 (Ik ckS t).1).bind _ else _) else _) _
 rw [if_pos rfl, if_pos rfl, ah0 (amr t), Option.bind_some]
 unfold J2
 rw [if_neg (by decide)]
 have hnext : Ok (k (wI (i + 1))) fun r => r = true := by
  rw [EK (by omega) (by omega)]
  exact hk _ ⟨by omega, by omega⟩ (by omega)
 refine Ok.ite (fun h0 => ?_) fun h0 => hnext
 obtain ⟨g1, g2, g3⟩ := amq h0
 rw [ahV g1 g2, g3, Hz, if_pos rfl]
 unfold Nj
 rw [E0.2 rfl, if_neg (by decide)]
 exact hnext
theorem Kv (codes : List Int) (p1 p2 : ByteArray) (p3 p4 p5 : Int) (hc : ∀ b ∈ codes, 0 ≤ b ∧ b < 256) (h5 : 0 ≤ p5 ∧ p5 < 256) : agB codes p1 p2 p3 p4 p5 = some true := by
 refine Ok.eq ?_
 unfold agB
 refine Ok.bindEq awake ?_
 rw [if_pos rfl]
 have hJ : ∀ t : Bool, (t = false → ((p2.size : Nat) : Int) ≤ 20) → Ok (J3 codes p1 p2 p3 p4 p5 t) fun r => r = true := by
  intro t ht
  unfold J3
  refine Ok.ite (fun _ => Ok.some rfl) fun h => ?_
  have h20 := ht (by simpa using h)
  obtain ⟨pt, rfl⟩ := ai3 p2
  rw [E9] at h20
  refine Ok.bind (amS hc (by omega) (by omega)) fun c ⟨hcd, _⟩ => ?_
  refine Ok.bd3 (ajE hcd (by omega) (by omega)) fun s a v ⟨hs, ha⟩ => ?_
  simp only at hs ha
  refine Ok.bd2 (Q := fun x => ∃ T : Wd, x.1 = BS T ∧ T.length ≤ 8000) ?_ fun x y hx => ?_
  ·rw [aj8 hs.sm.sz hs.sm.v]
   refine Ok.some ?_
   unfold JH
   split
   ·exact ⟨[], rfl, by simp⟩
   ·split
    ·exact ⟨[], rfl, by simp⟩
    ·exact ⟨_, rfl, by omega⟩
  obtain ⟨T, e, hT⟩ := hx
  simp only at e
  subst e
  have hsz : (BS T).size = T.length := E9 T
  rw [EK (x := p5) (by omega) (by omega)]
  refine Ok.bind (alK (by omega) (by decide)) fun q ⟨q0, q1⟩ => ?_
  refine Ok.bind (ajt (n := 30) (by decide) q0 q1) fun w ⟨u, e, hu⟩ => ?_
  subst e
  rw [EK (x := ((BS T).size : Int) + 1) (by omega) (by omega)]
  refine Ok.bind (alv (by omega) (by omega)) fun m ⟨m0, m1⟩ => ?_
  refine Ok.bind (alv (by omega) (by omega)) fun n ⟨n0, n1⟩ => ?_
  rw [EK (x := m + n) (by omega) (by omega)]
  have hmin : m ≤ (if m + n < ((BS T).size : Int) then m + n else ((BS T).size : Int)) ∧ (if m + n < ((BS T).size : Int) then m + n else ((BS T).size : Int)) ≤ ((BS T).size : Int) := by
   split <;> omega
  generalize (if m + n < ((BS T).size : Int) then m + n else ((BS T).size : Int)) = z at hmin ⊢
  refine Ok.bind (IP hT (by omega) m0 (by omega)) fun x1 ⟨u1, e1, l1⟩ => ?_
  subst e1
  refine Ok.bind (Ia (k := 9000) l1 hu (by omega) (by omega)) fun x2 ⟨u2, e2, l2⟩ => ?_
  subst e2
  refine Ok.bind (IP hT m0 (by omega) (by omega)) fun x3 ⟨u3, e3, l3⟩ => ?_
  subst e3
  refine Ok.bind (Ia (k := 20000) l2 l3 (by omega) (by omega)) fun x4 ⟨u4, e4, l4⟩ => ?_
  refine Ok.bind (IP hT (by omega) m0 (by omega)) fun x5 ⟨u5, e5, l5⟩ => ?_
  subst e5
  refine Ok.bind (Ia (k := 9000) (m := 20) l5 (by omega) (by omega) (by omega)) fun x6 ⟨u6, e6, l6⟩ => ?_
  subst e6
  refine Ok.bind (IP hT (by omega) hmin.2 (by omega)) fun x7 ⟨u7, e7, l7⟩ => ?_
  subst e7
  refine Ok.bind (Ia (k := 20000) l6 l7 (by omega) (by omega)) fun x8 ⟨u8, e8, l8⟩ => ?_
  refine Ok.bind (IP hT (by omega) m0 (by omega)) fun x9 ⟨u9, e9, l9⟩ => ?_
  subst e9
  refine Ok.bind (IP hT (by omega) hmin.2 (by omega)) fun x10 ⟨u10, e10, l10⟩ => ?_
  subst e10
  refine Ok.bind (Ia (k := 20000) l9 l10 (by omega) (by omega)) fun x11 ⟨u11, e11, l11⟩ => ?_
  refine Ok.bind (IP hT (by omega) m0 (by omega)) fun x12 ⟨u12, e12, l12⟩ => ?_
  have h55 : 0 ≤ Int.tdiv p5 5 ∧ Int.tdiv p5 5 < 256 := by
   rw [Int.tdiv_eq_ediv_of_nonneg h5.1]; omega
  rw [wB_id h55.1 h55.2, EK (x := Int.tdiv p5 5) (by omega) (by omega)]
  refine Ok.bind (alK (by omega) (by decide)) fun q2 ⟨r0, r1⟩ => ?_
  refine Ok.bind (ajt (n := 30) (by decide) r0 r1) fun w2 ⟨v2, f2, hv2⟩ => ?_
  subst f2
  refine Ok.bind (Ia (k := 9000) hv2 hT (by omega) (by omega)) fun x13 ⟨u13, e13, l13⟩ => ?_
  exact ahT _ _ _ _ _ _
 refine Ok.ite (fun h => hJ _ fun h => by cases h) fun h => hJ _ fun h2 => ?_
 rw [FG] at h2
 omega
end Go.Hx
