/- How many values a channel can contain at the end. -/
import Derived.Test.YtgpoanmjkggijaaXCAcc2
namespace Go.Hx
open Go
set_option linter.unusedVariables false
set_option linter.unusedSimpArgs false
def facesS (op : Op) (ch : Int) (s : Bool) : Bool := (casesD op).any fun x => decide (x.channel = ch) && (x.send == s)
def ind (b : Bool) : Int := if b then 1 else 0
def cntE (ops : List (List Op)) (ks : List A2Int) (ch : Int) (s : Bool) : Int := (ks.map fun k => match opAt ops (Event.mk k.x0 k.x1 false noRes) with | some o => ind (facesS o ch s) | none => 0).foldl (· + ·) 0
theorem cnt_snoc (ops : List (List Op)) (ks : List A2Int) (k : A2Int) (ch : Int) (s : Bool) : cntE ops (ks ++ [k]) ch s = cntE ops ks ch s + match opAt ops (Event.mk k.x0 k.x1 false noRes) with | some o => ind (facesS o ch s) | none => 0 := by
  unfold cntE; rw [List.map_append, List.foldl_append]; rfl
theorem ind_rng (b : Bool) : 0 ≤ ind b ∧ ind b ≤ 1 := by unfold ind; split <;> omega
theorem cnt_rng (ops : List (List Op)) (ch : Int) (s : Bool) : ∀ n (ks : List A2Int), ks.length = n → 0 ≤ cntE ops ks ch s ∧ cntE ops ks ch s ≤ (ks.length : Int)
  | 0, ks, h => by
    have : ks = [] := List.eq_nil_of_length_eq_zero h
    subst this; simp [cntE]
  | n + 1, ks, h => by
    rcases List.eq_nil_or_concat ks with rfl | ⟨l, x, rfl⟩
    · simp at h
    · rw [List.concat_eq_append] at h ⊢
      have ih := cnt_rng ops ch s n l (by simp at h; omega)
      rw [cnt_snoc]
      have : ∀ o : Option Op, 0 ≤ (match o with | some o => ind (facesS o ch s) | none => 0) ∧ (match o with | some o => ind (facesS o ch s) | none => 0) ≤ 1 := fun o => by
        cases o with
        | none => simp
        | some o => exact ind_rng _
      have h2 := this (opAt ops (Event.mk x.x0 x.x1 false noRes))
      have hl : ((l ++ [x]).length : Int) = (l.length : Int) + 1 := by simp
      rw [hl]
      exact ⟨Int.add_nonneg ih.1 h2.1, Int.add_le_add ih.2 h2.2⟩
theorem any_snoc {α : Type} (p : α → Bool) (l : List α) (x : α) : (l ++ [x]).any p = (l.any p || p x) := by simp
theorem open2_acc {ops : List (List Op)} {l : List Event} {ch : Int} (hl : l.length ≤ 1000) (hev : EvOk ops l) (hf : OpsFine ops) : M_111z ops l ch = some (cntE ops (openE l) ch true, cntE ops (openE l) ch false) := by
  refine Ok.eq ?_
  have hol : (openE l).length ≤ 1000 := Nat.le_trans (List.length_filter_le _ _) (by have := calls_len l; omega)
  have hrng := fun (s : Bool) (i : Nat) => cnt_rng ops ch s _ ((openE l).take i) rfl
  unfold M_111z
  refine Ok.bindEq (open_acc hl) ?_
  refine lp3_ok (fun _ _ i => (((openE l).length : Int) - i).toNat) (fun a b i => 0 ≤ i ∧ i ≤ ((openE l).length : Int) ∧ a = cntE ops ((openE l).take i.toNat) ch true ∧ b = cntE ops ((openE l).take i.toNat) ch false) (fun _ _ _ => _) ?_ BIG _ _ 0 ⟨by omega, by omega, by simp [cntE], by simp [cntE]⟩ (lt_BIG (by omega))
  intro a b i k ⟨h0, h1, h2, h3⟩ hk
  have ra := hrng true i.toNat
  have rb := hrng false i.toNat
  rw [← h2] at ra
  rw [← h3] at rb
  have htl : (((openE l).take i.toNat).length : Int) ≤ 1000 := by simp; omega
  unfold M_158z
  refine Ok.ite (fun h => ?_) fun h => ?_
  · obtain ⟨e, he⟩ : ∃ x, getI (openE l) i = some x := ⟨_, getI_eq h0 h⟩
    have htk := take_getI he
    obtain ⟨r, o, hr, ho⟩ := calls_op hev e (List.mem_filter.1 (getI_mem he)).1
    have hop : opAt ops (Event.mk e.x0 e.x1 false noRes) = some o := by unfold opAt; rw [hr]; exact ho
    refine Ok.bindEq he ?_
    refine Ok.bd2 (Q := fun q => q = (o, true)) ⟨_, operation_eq _ _, by show (match opAt ops (Event.mk e.x0 e.x1 false noRes) with | some o => (o, true) | none => (Op.mk 0 0 0 0 0 [] [], false)) = _; rw [hop]⟩ fun o1 b1 e1 => ?_
    cases e1
    rw [if_pos rfl]
    have hok := hf.op hr ho
    have hJ3 : Ok (M_62z ops ch a b (openE l) i k (casesD o)) fun q => q = (cntE ops (openE l) ch true, cntE ops (openE l) ch false) := by
      have hcl := casesD_len (op := o) (by have := hok.lens.2; omega)
      unfold M_62z
      refine lp3_ok (fun _ _ j => (((casesD o).length : Int) - j).toNat) (fun p q j => 0 ≤ j ∧ j ≤ ((casesD o).length : Int) ∧ p = ind (((casesD o).take j.toNat).any fun x => decide (x.channel = ch) && (x.send == true)) ∧ q = ind (((casesD o).take j.toNat).any fun x => decide (x.channel = ch) && (x.send == false))) (fun _ _ _ => _) ?_ BIG _ _ 0 ⟨by omega, by omega, by simp [ind], by simp [ind]⟩ (lt_BIG (by omega))
      intro p q j k2 ⟨g0, g1, g2, g3⟩ hk2
      unfold M_157z
      refine Ok.ite (fun h4 => ?_) fun h4 => ?_
      · obtain ⟨x, hx⟩ : ∃ x, getI (casesD o) j = some x := ⟨_, getI_eq g0 h4⟩
        have htx := take_getI hx
        refine Ok.bindEq hx ?_
        unfold M_61z
        rw [wI_id (x := j + 1) (by omega) (by omega)]
        refine Ok.ite (fun h5 => ?_) fun h5 => ?_
        · refine Ok.ite (fun h6 => ?_) fun h6 => ?_
          · refine hk2 _ _ _ ⟨by omega, by omega, ?_, ?_⟩ (by omega)
            · rw [htx, any_snoc]; simp [h5, h6, ind]
            · rw [htx, any_snoc, g3]; simp [h5, h6]
          · refine hk2 _ _ _ ⟨by omega, by omega, ?_, ?_⟩ (by omega)
            · rw [htx, any_snoc, g2]; simp [h5, h6]
            · rw [htx, any_snoc]; simp [h5, h6, ind]
        · refine hk2 _ _ _ ⟨by omega, by omega, ?_, ?_⟩ (by omega)
          · rw [htx, any_snoc, g2]; simp [h5]
          · rw [htx, any_snoc, g3]; simp [h5]
      · unfold M_156z M_110z
        rw [List.take_of_length_le (by omega)] at g2 g3
        have i1 := ind_rng (facesS o ch true)
        have i2 := ind_rng (facesS o ch false)
        have e1 : p = ind (facesS o ch true) := g2
        have e2 : q = ind (facesS o ch false) := g3
        rw [wI_id (x := a + p) (by omega) (by omega), wI_id (x := b + q) (by omega) (by omega), wI_id (x := i + 1) (by omega) (by omega)]
        refine hk _ _ _ ⟨by omega, by omega, ?_, ?_⟩ (by omega)
        · rw [htk, cnt_snoc, hop, h2, e1]
        · rw [htk, cnt_snoc, hop, h3, e2]
    refine Ok.bd2 (Q := fun q => q = if o.kind = 1 ∨ o.kind = 2 then (Case.mk (dcd (o.kind = 1)) o.channel o.value, true) else (Case.mk false 0 0, false)) ⟨_, single_acc o, rfl⟩ fun c1 b1 e1 => ?_
    by_cases h12 : o.kind = 1 ∨ o.kind = 2
    · rw [if_pos h12] at e1
      cases e1
      rw [if_pos rfl]
      have : casesD o = [Case.mk (dcd (o.kind = 1)) o.channel o.value] := by unfold casesD; rw [if_neg (by omega), if_pos h12]
      rw [← this]; exact hJ3
    · rw [if_neg h12] at e1
      cases e1
      rw [if_neg (by decide)]
      have : casesD o = o.cases := by
        unfold casesD
        by_cases h4 : o.kind = 4
        · rw [if_pos h4]
        · rw [if_neg h4, if_neg h12, (hok.nosel h4).1]
      rw [← this]; exact hJ3
  · refine Ok.some ?_
    rw [h2, h3, List.take_of_length_le (by omega)]
theorem faces_ref {o : Op} {ch : Int} {s : Bool} (h : o.cases.length ≤ 20) : M_65z o ch s = some (facesS o ch s) := by
  have hl := casesD_len h
  refine Ok.eq ?_
  unfold M_65z
  refine Ok.bindEq (Cases_eq o) ?_
  refine lp1_ok (fun j => (((casesD o).length : Int) - j).toNat) (fun j => 0 ≤ j ∧ j ≤ ((casesD o).length : Int) ∧ facesS o ch s = ((casesD o).drop j.toNat).any fun x => decide (x.channel = ch) && (x.send == s)) (fun _ => _) ?_ BIG 0 ⟨by omega, by omega, by simp [facesS]⟩ (lt_BIG (by omega))
  intro j k ⟨h0, h1, h2⟩ hk
  unfold M_161z
  refine Ok.ite (fun h3 => ?_) fun h3 => ?_
  · obtain ⟨x, hx⟩ : ∃ x, getI (casesD o) j = some x := ⟨_, getI_eq h0 h3⟩
    have hd := drop_getI hx
    rw [hd, List.any_cons] at h2
    rw [hx]
    simp only [Option.bind_some]
    unfold M_117z
    rw [wI_id (by omega) (by omega)]
    refine Ok.ite (fun h4 => ?_) fun h4 => ?_
    · refine Ok.ite (fun h5 => Ok.some (by rw [h2]; simp at h5; simp [h4, h5])) fun h5 => ?_
      exact hk _ ⟨by omega, by omega, by rw [h2]; simp at h5; simp [h4, h5]⟩ (by omega)
    · rw [if_neg (by decide)]
      exact hk _ ⟨by omega, by omega, by rw [h2]; simp [h4]⟩ (by omega)
  · refine Ok.some ?_
    rw [h2, List.drop_eq_nil_of_le (by omega)]; rfl
def limS (n c : Int) : Int := if 0 < (if c < n then c else n) then (if c < n then c else n) else 0
theorem law_AccountBalances (codes : List Int) (channel : Int) (hc : ∀ b ∈ codes, 0 ≤ b ∧ b < 256) : M_167z codes channel = some true := by
  refine Ok.eq ?_
  unfold M_167z
  refine Ok.bindEq awake25 ?_
  rw [if_pos rfl]
  refine Ok.bd3 (made_ok hc) fun x ops l hm => ?_
  simp only at hm
  obtain ⟨hev, hl⟩ := hm.ev
  have hn3 := hm.cfg.n3
  refine lp1_ok (fun n => ((x.capacities.length : Int) + 1 - n).toNat) (fun n => -1 ≤ n ∧ n ≤ (x.capacities.length : Int) + 1) (fun _ => _) ?_ BIG (-1) ⟨by omega, by omega⟩ (lt_BIG (by omega))
  intro n k ⟨h0, h1⟩ hk
  unfold M_166z
  refine Ok.ite (fun h2 => ?_) fun h2 => Ok.some rfl
  refine lp1_ok (fun j => ((x.capacities.length : Int) + 2 - j).toNat) (fun j => 0 ≤ j ∧ j ≤ 2) (fun _ => _) ?_ BIG 0 ⟨by omega, by omega⟩ (lt_BIG (by omega))
  intro j q ⟨g0, g1⟩ hq
  unfold M_165z
  refine Ok.ite (fun h3 => ?_) fun h3 => ?_
  · simp at h3
    obtain ⟨ch, hch⟩ : ∃ ch, getI [n, channel] j = some ch := ⟨_, getI_eq g0 (by simp; omega)⟩
    have v1 := vals_len ops l ch true
    have v2 := vals_len ops l ch false
    have hol : (openE l).length ≤ 100 := Nat.le_trans (List.length_filter_le _ _) (by have := calls_len l; omega)
    have ct := cnt_rng ops ch true _ (openE l) rfl
    have cf := cnt_rng ops ch false _ (openE l) rfl
    generalize hN : ((valsS ops l ch true).length : Int) - ((valsS ops l ch false).length : Int) = N at *
    have hN1 : -1000 ≤ N ∧ N ≤ 1000 := by omega
    -- the program
    have hprog : ∀ cap : Int, 0 ≤ cap → M_63z ops l ch cap = some (limS (N - cntE ops (openE l) ch false) cap, limS (N + cntE ops (openE l) ch true) cap) := by
      intro cap hcap
      unfold M_63z M_112z
      rw [sent_acc (by omega), recv_acc (by omega)]
      simp only [Option.bind_some]
      rw [open2_acc (by omega) hev hm.fine, hN]
      simp only [bd2_some, Option.bind_some]
      rw [wI_id (x := N) (by omega) (by omega), wI_id (x := N - cntE ops (openE l) ch false) (by omega) (by omega), wI_id (x := N + cntE ops (openE l) ch true) (by omega) (by omega)]
      unfold limS
      congr 2
      · (repeat' split) <;> omega
      · (repeat' split) <;> omega
    -- the document
    have href : ∀ cap : Int, 0 ≤ cap → getI x.capacities ch = some cap → M_18z x ops l ch = some (limS (N - cntE ops (openE l) ch false) cap, limS (N + cntE ops (openE l) ch true) cap) := by
      intro cap hcap hg
      obtain ⟨c0, c1⟩ := getI_lt hg
      refine Ok.eq ?_
      unfold M_18z M_113z
      rw [if_pos c0]
      refine Ok.bindEq rfl ?_
      rw [if_pos (by rw [dcd_tt]; exact c1)]
      refine Ok.bindEq (vals_ref (by omega) hev) ?_
      refine Ok.bindEq (vals_ref (by omega) hev) ?_
      refine Ok.bindEq (open_ref (by omega)) ?_
      rw [hN, wI_id (x := N) (by omega) (by omega)]
      have hrng := fun (s : Bool) (i : Nat) => cnt_rng ops ch s _ ((openE l).take i) rfl
      refine lp3_ok (fun _ _ i => (((openE l).length : Int) - i).toNat) (fun a b i => 0 ≤ i ∧ i ≤ ((openE l).length : Int) ∧ a = N - cntE ops ((openE l).take i.toNat) ch false ∧ b = N + cntE ops ((openE l).take i.toNat) ch true) (fun _ _ _ => _) ?_ BIG _ _ 0 ⟨by omega, by omega, by simp [cntE], by simp [cntE]⟩ (lt_BIG (by omega))
      intro a b i k2 ⟨e0, e1, e2, e3⟩ hk2
      have ra := hrng true i.toNat
      have rb := hrng false i.toNat
      have htl : (((openE l).take i.toNat).length : Int) ≤ 100 := by simp; omega
      unfold M_163z
      refine Ok.ite (fun h => ?_) fun h => ?_
      · obtain ⟨e, he⟩ : ∃ x, getI (openE l) i = some x := ⟨_, getI_eq e0 h⟩
        have htk := take_getI he
        obtain ⟨r, o, hr, ho⟩ := calls_op hev e (List.mem_filter.1 (getI_mem he)).1
        have hop : opAt ops (Event.mk e.x0 e.x1 false noRes) = some o := by unfold opAt; rw [hr]; exact ho
        have hok := hm.fine.op hr ho
        have hoc : o.cases.length ≤ 20 := by have := hok.lens.2; omega
        rw [he]
        simp only [Option.bind_some]
        rw [hr]
        simp only [Option.bind_some]
        rw [ho]
        simp only [Option.bind_some]
        have i1 := ind_rng (facesS o ch true)
        have i2 := ind_rng (facesS o ch false)
        have hJ2 : ∀ b', b' = b + ind (facesS o ch true) → Ok (M_66z ops ch a (openE l) i o x k2 b') fun r => r = (limS (N - cntE ops (openE l) ch false) cap, limS (N + cntE ops (openE l) ch true) cap) := by
          intro b' hb'
          unfold M_66z
          refine Ok.bindEq (faces_ref hoc) ?_
          rw [wI_id (x := a - 1) (by omega) (by omega), wI_id (x := i + 1) (by omega) (by omega)]
          have hb2 : b' = N + cntE ops ((openE l).take (i + 1).toNat) ch true := by
            rw [htk, cnt_snoc, hop, hb', e3]; simp only; omega
          refine Ok.ite (fun h5 => ?_) fun h5 => ?_
          · refine hk2 _ _ _ ⟨by omega, by omega, ?_, hb2⟩ (by omega)
            rw [htk, cnt_snoc, hop, e2]; simp only [h5, ind, if_true]; omega
          · refine hk2 _ _ _ ⟨by omega, by omega, ?_, hb2⟩ (by omega)
            rw [htk, cnt_snoc, hop, e2]; simp [h5, ind]
        refine Ok.bindEq (faces_ref hoc) ?_
        rw [wI_id (x := b + 1) (by omega) (by omega)]
        refine Ok.ite (fun h5 => hJ2 _ (by rw [h5]; rfl)) fun h5 => hJ2 _ (by simp [h5, ind])
      · unfold M_162z
        refine Ok.bindEq hg ?_
        rw [List.take_of_length_le (by omega)] at e2 e3
        refine Ok.some ?_
        rw [e2, e3]; rfl
    have hlim : ∀ cap, 0 ≤ cap → ¬ limS (N - cntE ops (openE l) ch false) cap > limS (N + cntE ops (openE l) ch true) cap := by
      intro cap hcap
      unfold limS
      (repeat' split) <;> omega
    have hfin : ∀ cap, 0 ≤ cap → M_31z x ops l ch = some (limS (N - cntE ops (openE l) ch false) cap, limS (N + cntE ops (openE l) ch true) cap) → M_18z x ops l ch = some (limS (N - cntE ops (openE l) ch false) cap, limS (N + cntE ops (openE l) ch true) cap) → Ok (bd2 (M_31z x ops l ch) fun x723 x724 => bd2 (M_18z x ops l ch) fun x732 x733 => (if x723 = x732 then (if x724 = x733 then M_8z channel ops l n j x k q (dcd (x723 > x724)) else M_8z channel ops l n j x k q true) else M_8z channel ops l n j x k q true)) fun r => r = true := by
      intro cap hcap e1 e2
      rw [e1, e2]
      simp only [bd2_some, if_true]
      rw [show dcd (limS (N - cntE ops (openE l) ch false) cap > limS (N + cntE ops (openE l) ch true) cap) = false by rw [dcd_ff]; exact hlim cap hcap]
      unfold M_8z
      rw [if_neg (by decide), wI_id (by omega) (by omega)]
      exact hq _ (by omega) (by omega)
    refine Ok.bindEq hch ?_
    cases hg : getI x.capacities ch with
    | some cap =>
      obtain ⟨c0, c1⟩ := getI_lt hg
      have hcap := (hm.cfg.cap cap (getI_mem hg)).1
      refine hfin cap hcap ?_ (href cap hcap hg)
      unfold M_31z M_108z
      rw [if_pos c0]
      simp only [Option.bind_some]
      rw [if_pos (by rw [dcd_tt]; exact c1), hg]
      simp only [Option.bind_some]
      rw [if_neg (by omega)]
      exact hprog cap hcap
    | none =>
      have hz : limS (N - cntE ops (openE l) ch false) 0 = 0 ∧ limS (N + cntE ops (openE l) ch true) 0 = 0 := by
        unfold limS
        constructor <;> ((repeat' split) <;> omega)
      refine hfin 0 (by omega) ?_ ?_
      · unfold M_31z M_108z
        by_cases c0 : ch ≥ 0
        · rw [if_pos c0]
          simp only [Option.bind_some]
          have : ¬ ch < (x.capacities.length : Int) := fun h => by rw [getI_eq c0 h] at hg; cases hg
          rw [if_neg (by rw [dcd_tt]; exact this)]
          exact hprog 0 (by omega)
        · rw [if_neg c0]
          simp only [Option.bind_some]
          rw [if_neg (by decide)]
          exact hprog 0 (by omega)
      · rw [hz.1, hz.2]
        unfold M_18z M_113z
        by_cases c0 : ch ≥ 0
        · rw [if_pos c0]
          simp only [Option.bind_some]
          have : ¬ ch < (x.capacities.length : Int) := fun h => by rw [getI_eq c0 h] at hg; cases hg
          rw [if_neg (by rw [dcd_tt]; exact this)]
        · rw [if_neg c0]
          simp only [Option.bind_some]
          rw [if_neg (by decide)]
  · unfold M_164z
    rw [wI_id (by omega) (by omega)]
    exact hk _ (by omega) (by omega)
end Go.Hx
