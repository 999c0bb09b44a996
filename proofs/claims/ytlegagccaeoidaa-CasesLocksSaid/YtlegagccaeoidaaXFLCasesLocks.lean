/- Which channels exist, and which ones an operation locks, in ascending order. -/
import Derived.Test.YtlegagccaeoidaaXFCases
namespace Go.Hx
open Go
set_option linter.unusedVariables false
set_option linter.unusedSimpArgs false
/-- An operation that is not too large. -/
def Sz (n : Nat) (o : Op) : Prop := o.cases.length ≤ n ∧ o.draws.length ≤ n
theorem number_ok {c : Draw_Codes} (hc : Cd c) : Ok (M_draw_Codes_Number c) fun r => AtOk c.list r.2 := by
  unfold M_draw_Codes_Number
  have e : ([0, 1, (-1), 2, 5, 6, 7, 8, 9, 16, 17, 1099511627776, 1099511627777, (-1099511627777), 100, 3] : List Int).length = 16 := rfl
  rw [e]
  refine Ok.bd2 (Next_ok hc (by omega)) fun n a ⟨b0, b1, ha, _⟩ => ?_
  simp only at b0 b1 ha
  refine Ok.bind (Ok.getI (P := fun _ => True) b0 (by rw [e]; omega) fun _ _ _ => trivial) fun x _ => Ok.some ha
theorem spoil_ok {c : Draw_Codes} {o : Op} {n : Nat} (hc : Cd c) (ho : Sz n o) (hn : n ≤ 100) : Ok (M_draw_Codes_Spoil c o) fun r => Sz (n + 20) r.1 ∧ AtOk c.list r.2.1 := by
  obtain ⟨hl, ha⟩ := hc
  obtain ⟨h1, h2⟩ := ho
  have hJ : ∀ a v k m ch vl dl cs ds, AtOk c.list a → cs.length ≤ n + 20 → ds.length ≤ n + 20 → Ok (M_draw_Codes_Spoil_J1 c a v k m ch vl dl cs ds) fun r => Sz (n + 20) r.1 ∧ AtOk c.list r.2.1 := fun a v k m ch vl dl cs ds hA h3 h4 => Ok.some ⟨⟨h3, h4⟩, hA⟩
  have e1 : app [] o.cases = some o.cases := by rw [app_eq (by simp; omega), List.nil_append]
  have e2 : app [] o.draws = some o.draws := by rw [app_eq (by simp; omega), List.nil_append]
  unfold M_draw_Codes_Spoil
  refine Ok.bindEq e1 ?_
  refine Ok.bindEq e2 ?_
  refine Ok.bd2 (Next_ok (c := c) ⟨hl, ha⟩ (by omega)) fun q a1 ⟨_, _, ha1, _⟩ => ?_
  simp only at ha1
  refine Ok.ite (fun _ => ?_) fun _ => Ok.ite (fun _ => ?_) fun _ => Ok.ite (fun _ => ?_) fun _ => Ok.ite (fun _ => ?_) fun _ => Ok.ite (fun _ => ?_) fun _ => Ok.ite (fun _ => ?_) fun _ => Ok.ite (fun _ => ?_) fun _ => Ok.ite (fun _ => ?_) fun _ => Ok.ite (fun _ => ?_) fun _ => hJ _ _ _ _ _ _ _ _ _ ha1 (by omega) (by omega)
  · refine Ok.bd2 (Next_ok (c := Draw_Codes.mk c.list a1 _) ⟨hl, ha1⟩ (by omega)) fun n2 a2 ⟨_, _, ha2, _⟩ => hJ _ _ _ _ _ _ _ _ _ ha2 (by omega) (by omega)
  · refine Ok.bd2 (Next_ok (c := Draw_Codes.mk c.list a1 _) ⟨hl, ha1⟩ (by omega)) fun n2 a2 ⟨_, _, ha2, _⟩ => hJ _ _ _ _ _ _ _ _ _ ha2 (by omega) (by omega)
  · refine Ok.bd2 (number_ok (c := Draw_Codes.mk c.list a1 _) ⟨hl, ha1⟩) fun n2 a2 ha2 => hJ _ _ _ _ _ _ _ _ _ ha2 (by omega) (by omega)
  · refine Ok.bd2 (number_ok (c := Draw_Codes.mk c.list a1 _) ⟨hl, ha1⟩) fun n2 a2 ha2 => hJ _ _ _ _ _ _ _ _ _ ha2 (by omega) (by omega)
  · refine Ok.bd2 (Next_ok (c := Draw_Codes.mk c.list a1 _) ⟨hl, ha1⟩ (by omega)) fun n2 a2 ⟨_, _, ha2, _⟩ => hJ _ _ _ _ _ _ _ _ _ ha2 (by omega) (by omega)
  · refine Ok.bd2 (Next_ok (c := Draw_Codes.mk c.list a1 _) ⟨hl, ha1⟩ (by omega)) fun n2 a2 ⟨_, _, ha2, _⟩ => ?_
    refine Ok.bd2 (number_ok (c := Draw_Codes.mk c.list a2 _) ⟨hl, ha2⟩) fun n3 a3 ha3 => ?_
    refine Ok.bd2 (Next_ok (c := Draw_Codes.mk c.list a3 _) ⟨hl, ha3⟩ (by omega)) fun n4 a4 ⟨_, _, ha4, _⟩ => ?_
    refine Ok.bindEq (app_eq (by simp; omega)) ?_
    exact hJ _ _ _ _ _ _ _ _ _ ha4 (by simp; omega) (by omega)
  · refine Ok.bd2 (Next_ok (c := Draw_Codes.mk c.list a1 _) ⟨hl, ha1⟩ (by omega)) fun n2 a2 ⟨_, _, ha2, _⟩ => ?_
    refine Ok.bindEq (app_eq (by simp; omega)) ?_
    exact hJ _ _ _ _ _ _ _ _ _ ha2 (by omega) (by simp; omega)
  · refine Ok.ite (fun h5 => ?_) fun h5 => hJ _ _ _ _ _ _ _ _ _ ha1 (by omega) (by omega)
    refine Ok.bd2 (Next_ok (c := Draw_Codes.mk c.list a1 _) ⟨hl, ha1⟩ (by omega)) fun n2 a2 ⟨b0, b1, ha2, _⟩ => ?_
    simp only at b0 b1
    refine Ok.bd2 (number_ok (c := Draw_Codes.mk c.list a2 _) ⟨hl, ha2⟩) fun n3 a3 ha3 => ?_
    refine Ok.bindEq (getI_eq b0 b1) ?_
    exact hJ _ _ _ _ _ _ _ _ _ ha3 (by omega) (by rw [length_setI]; omega)
  · refine lp4_ok (fun _ _ cs _ => 200 - cs.length) (fun a v cs ds => AtOk c.list a ∧ cs.length ≤ n + 7 ∧ ds.length + cs.length ≤ o.draws.length + cs.length + (cs.length - o.cases.length) ∧ o.cases.length ≤ cs.length ∧ (cs.length ≤ o.cases.length ∨ cs.length ≤ 7)) (fun _ _ _ _ => _) ?_ BIG _ _ _ _ ⟨ha1, by omega, by omega, by omega, .inl (by omega)⟩ (lt_BIG (by omega))
    intro a v cs ds k ⟨g1, g2, g3, g4, g5⟩ hk
    unfold M_draw_Codes_Spoil_L1
    refine Ok.bd2 (Next_ok (c := Draw_Codes.mk c.list a v) ⟨hl, g1⟩ (by omega)) fun n2 a2 ⟨b0, b1, ha2, _⟩ => ?_
    simp only at b0 b1 ha2
    rw [wI_id (by omega) (by omega)]
    refine Ok.ite (fun h6 => ?_) fun h6 => hJ _ _ _ _ _ _ _ _ _ ha2 (by omega) (by omega)
    refine Ok.bindEq (app_eq (by simp; omega)) ?_
    refine Ok.bd2 (Next_ok (c := Draw_Codes.mk c.list a2 _) ⟨hl, ha2⟩ (by simp; omega)) fun n3 a3 ⟨_, _, ha3, _⟩ => ?_
    simp only at ha3
    refine Ok.bindEq (app_eq (by simp; omega)) ?_
    exact hk _ _ _ _ ⟨ha3, by simp; omega, by simp; omega, by simp; omega, .inr (by simp; omega)⟩ (by simp; omega)
theorem Wide_ok {c : Draw_Codes} (hc : Cd c) : Ok (M_draw_Codes_Wide c) fun r => r.1.capacities.length ≤ 8 ∧ AtOk c.list r.2.1 := by
  obtain ⟨hl, ha⟩ := hc
  unfold M_draw_Codes_Wide
  refine lp5_ok (fun i _ _ _ _ => (9 - i).toNat) (fun i a v p q => 0 ≤ i ∧ i ≤ 8 ∧ AtOk c.list a ∧ (p.length : Int) = i ∧ (q.length : Int) = i) (fun _ _ _ _ _ => _) ?_ BIG 0 _ _ _ _ ⟨by omega, by omega, ha, by simp, by simp⟩ (lt_BIG (by omega))
  intro i a v p q k ⟨h0, h8, ha, hp, hq⟩ hk
  unfold M_draw_Codes_Wide_L1
  refine Ok.bd2 (Next_ok (c := Draw_Codes.mk c.list a v) ⟨hl, ha⟩ (by omega)) fun n1 a1 ⟨b0, b1, ha1, _⟩ => ?_
  simp only at b0 b1 ha1
  refine Ok.ite (fun h => ?_) fun h => ?_
  · refine Ok.bd2 (Next_ok (c := Draw_Codes.mk c.list a1 _) ⟨hl, ha1⟩ (by omega)) fun n2 a2 ⟨b2, b3, ha2, _⟩ => ?_
    simp only at ha2
    rw [app_eq (by simp; omega)]
    simp only [Option.bind_some]
    unfold M_draw_Codes_Wide_J3
    refine Ok.bd2 (Next_ok (c := Draw_Codes.mk c.list a2 _) ⟨hl, ha2⟩ (by omega)) fun n3 a3 ⟨_, _, ha3, _⟩ => ?_
    simp only at ha3
    refine Ok.bd2 (Next_ok (c := Draw_Codes.mk c.list a3 _) ⟨hl, ha3⟩ (by omega)) fun n4 a4 ⟨_, _, ha4, _⟩ => ?_
    simp only at ha4
    rw [app_eq (by simp; omega)]
    simp only [Option.bind_some]
    unfold M_draw_Codes_Wide_J2
    rw [wI_id (by omega) (by omega)]
    exact hk _ _ _ _ _ ⟨by omega, by omega, ha4, by simp; omega, by simp; omega⟩ (by omega)
  · unfold M_draw_Codes_Wide_J1
    refine Ok.bd2 (Next_ok (c := Draw_Codes.mk c.list a1 _) ⟨hl, ha1⟩ (by omega)) fun n2 a2 ⟨b2, b3, ha2, _⟩ => ?_
    exact Ok.some ⟨by simp only; omega, ha2⟩
theorem same3 {a : List Int} (hl : a.length ≤ 1000) : M_ref2_Same a a = some true := by
  refine Ok.eq ?_
  unfold M_ref2_Same
  rw [if_pos rfl]
  refine lp1_ok (fun i => ((a.length : Int) - i).toNat) (fun i => 0 ≤ i ∧ i ≤ (a.length : Int)) (fun _ => _) ?_ BIG 0 ⟨by omega, by omega⟩ (lt_BIG (by omega))
  intro i k ⟨h0, h1⟩ hk
  unfold M_ref2_Same_L1
  refine Ok.ite (fun h => ?_) fun h => Ok.some rfl
  obtain ⟨x, hx⟩ : ∃ x, getI a i = some x := ⟨_, getI_eq h0 h⟩
  rw [hx]
  simp only [Option.bind_some, if_true]
  rw [wI_id (by omega) (by omega)]
  exact hk _ (by omega) (by omega)
theorem mod12 {x t : Int} (h1 : 1 ≤ t) (h8 : t ≤ 100000) : Ok (M_draw_Mod x t) fun r => 0 ≤ r ∧ r < t := by
  unfold M_draw_Mod
  have hn : remO x t = some (Int.tmod x t) := by unfold remO; rw [if_neg (by omega)]
  rw [hn]
  simp only [Option.bind_some]
  have h3 : Int.tmod x t < t := Int.tmod_lt_of_pos _ (by omega)
  have h4 : -t < Int.tmod x t := by
    have h5 := Int.tmod_lt_of_pos (-x) (show 0 < t by omega)
    rw [Int.neg_tmod] at h5; omega
  refine Ok.ite (fun h => ?_) fun h => Ok.some ⟨by omega, h3⟩
  rw [wI_id (by omega) (by omega)]
  exact Ok.some ⟨by omega, by omega⟩
/-! ### ascending lists -/
def Asc (l : List Int) : Prop := l.Pairwise (fun a b => a < b)
theorem asc_ext {a b : List Int} (ha : Asc a) (hb : Asc b) (h : ∀ x, x ∈ a ↔ x ∈ b) : a = b := by
  have na : a.Nodup := ha.imp fun h => by omega
  have nb : b.Nodup := hb.imp fun h => by omega
  have hp : a.Perm b := (List.perm_ext_iff_of_nodup na nb).2 h
  exact List.Perm.eq_of_pairwise (le := fun x y : Int => x < y) (fun x y _ _ h1 h2 => by omega) ha hb hp
theorem compact_asc {zs : List Int} (hs : zs.Pairwise (fun a b => a ≤ b)) : Asc (Go.Lib.compact zs) ∧ ∀ x, x ∈ Go.Lib.compact zs ↔ x ∈ zs := by
  have hget : ∀ j, (h : j < zs.length) → zs.toArray[j]! = zs[j] := fun j h => by simp [h]
  have key : ∀ m, m ≤ zs.length → Asc (Go.Lib.compactUpTo zs.toArray m) ∧ ∀ x, x ∈ Go.Lib.compactUpTo zs.toArray m ↔ ∃ j, j < m ∧ zs[j]? = some x := by
    intro m
    induction m with
    | zero => intro _; exact ⟨by simp [Go.Lib.compactUpTo, Asc], fun x => by simp [Go.Lib.compactUpTo]⟩
    | succ m ih =>
      intro hm
      obtain ⟨h1, h2⟩ := ih (by omega)
      have hm' : m < zs.length := by omega
      rw [Go.Lib.compactUpTo_succ, hget m hm']
      have hgm : zs[m]? = some zs[m] := List.getElem?_eq_getElem hm'
      have hle : ∀ j, j < m → ∀ y, zs[j]? = some y → y ≤ zs[m] := fun j hj y hy => by
        obtain ⟨p1, p2⟩ := List.getElem?_eq_some_iff.1 hy
        have := List.pairwise_iff_getElem.1 hs j m p1 hm' hj
        rw [p2] at this; exact this
      by_cases hk : Go.Lib.keeps zs.toArray m = true
      · rw [if_pos hk]
        have hlt : ∀ y ∈ Go.Lib.compactUpTo zs.toArray m, y < zs[m] := by
          intro y hy
          obtain ⟨j, hj, hjy⟩ := (h2 y).1 hy
          have hm0 : 0 < m := by omega
          have hne : zs[m] ≠ zs[m - 1] := by
            intro e
            have := Go.Lib.keeps_neg (d := zs.toArray) hm0 (by rw [hget m hm', hget (m - 1) (by omega)]; exact e)
            rw [hk] at this; cases this
          have h3 : zs[m - 1] ≤ zs[m] := hle (m - 1) (by omega) _ (List.getElem?_eq_getElem (by omega))
          have h4 : y ≤ zs[m - 1] := by
            obtain ⟨p1, p2⟩ := List.getElem?_eq_some_iff.1 hjy
            rcases Nat.lt_or_ge j (m - 1) with h5 | h5
            · have := List.pairwise_iff_getElem.1 hs j (m - 1) p1 (by omega) h5
              rw [p2] at this; exact this
            · have : j = m - 1 := by omega
              subst this
              rw [← p2]; omega
          omega
        refine ⟨?_, fun x => ?_⟩
        · unfold Asc
          rw [List.pairwise_append]
          exact ⟨h1, List.pairwise_singleton _ _, fun y hy z hz => by simp at hz; subst hz; exact hlt y hy⟩
        · rw [List.mem_append, h2]
          constructor
          · rintro (⟨j, hj, hx⟩ | hx)
            · exact ⟨j, by omega, hx⟩
            · simp at hx; subst hx; exact ⟨m, by omega, hgm⟩
          · rintro ⟨j, hj, hx⟩
            rcases Nat.lt_or_ge j m with h5 | h5
            · exact .inl ⟨j, h5, hx⟩
            · have : j = m := by omega
              subst this
              rw [hgm] at hx; cases hx; simp
      · rw [if_neg hk, List.append_nil]
        refine ⟨h1, fun x => ?_⟩
        rw [h2]
        constructor
        · rintro ⟨j, hj, hx⟩; exact ⟨j, by omega, hx⟩
        · rintro ⟨j, hj, hx⟩
          rcases Nat.lt_or_ge j m with h5 | h5
          · exact ⟨j, h5, hx⟩
          · have : j = m := by omega
            subst this
            have hm0 : 0 < j := by
              rcases Nat.eq_zero_or_pos j with h | h
              · subst h
                exact absurd (Go.Lib.keeps_lt_one zs.toArray 0 (by omega)) hk
              · exact h
            have he : zs[j] = zs[j - 1] := by
              by_cases he : zs[j] = zs[j - 1]
              · exact he
              · exact absurd (Go.Lib.keeps_pos (by rw [hget j hm', hget (j - 1) (by omega)]; exact he)) hk
            refine ⟨j - 1, by omega, ?_⟩
            rw [hgm] at hx; cases hx
            rw [he]; exact List.getElem?_eq_getElem (by omega)
  obtain ⟨h1, h2⟩ := key zs.length (Nat.le_refl _)
  refine ⟨h1, fun x => ?_⟩
  have := h2 x
  unfold Go.Lib.compact
  rw [this, List.mem_iff_getElem?]
  constructor
  · rintro ⟨j, _, hx⟩; exact ⟨j, hx⟩
  · rintro ⟨j, hx⟩; exact ⟨j, (List.getElem?_eq_some_iff.1 hx).1, hx⟩
/-! ### what is deleted -/
def exS (k : Config) (n : Int) : Bool := decide (0 ≤ n ∧ n < (k.capacities.length : Int))
theorem exists3_eq (k : Config) (n : Int) : M_cases_Exists k n = some (exS k n) := by
  unfold M_cases_Exists exS
  by_cases h : n ≥ 0
  · rw [if_pos h]; simp [dcd_eq, h]
  · rw [if_neg h]; simp [h]
theorem ref_exists3_eq (k : Config) (n : Int) : M_ref3_Exists k n = some (exS k n) := by
  unfold M_ref3_Exists exS
  by_cases h : n ≥ 0
  · rw [if_pos h]; simp [dcd_eq, h]
  · rw [if_neg h]; simp [h]
theorem del1_eq (n : Int) (k : Config) : M_cases_Locks_1_freeblk34 n k = some (!(exS k n)) := by
  unfold M_cases_Locks_1_freeblk34; rw [exists3_eq]; rfl
theorem ixdel_eq {l : List Int} {k : Config} (hl : l.length ≤ 1000) : M_slices_IndexFunc_int_int_1f41blk34_m0row l k = some (idxI (fun n => !(exS k n)) l) := by
  unfold M_slices_IndexFunc_int_int_1f41blk34_m0row
  refine idx_loop (l := l) (fun n => !(exS k n)) (fun i => some i) (by omega) (fun i kk x hx => ?_) (fun kk => ?_)
  · obtain ⟨g0, g1⟩ := getI_lt hx
    unfold M_slices_IndexFunc_int_int_1f41blk34_m0row_L1
    rw [if_pos g1, hx]
    simp only [Option.bind_some]
    rw [del1_eq, wI_id (by omega) (by omega)]
    simp only [Option.bind_some]
  · unfold M_slices_IndexFunc_int_int_1f41blk34_m0row_L1 M_slices_IndexFunc_int_int_1f41blk34_m0row_J1
    rw [if_neg (by omega)]
theorem take_setI {l : List Int} {i : Int} {x : Int} (h0 : 0 ≤ i) (h1 : i < (l.length : Int)) : (setI l i x).take (i.toNat + 1) = l.take i.toNat ++ [x] := by
  unfold setI
  rw [List.take_set]
  have hl : i.toNat < (l.take (i.toNat + 1)).length := by rw [List.length_take]; omega
  apply List.ext_getElem?
  intro j
  rw [List.getElem?_set]
  by_cases hj : i.toNat = j
  · subst hj
    rw [if_pos rfl, if_pos hl, List.getElem?_append_right (by rw [List.length_take]; omega)]
    simp [show i.toNat - min i.toNat l.length = 0 by omega]
  · rw [if_neg hj, List.getElem?_take, List.getElem?_append, List.length_take]
    rcases Nat.lt_or_ge j i.toNat with h2 | h2
    · rw [if_pos (by omega), if_pos (by omega), List.getElem?_take, if_pos h2]
    · rw [if_neg (by omega), if_neg (by omega)]
      rw [List.getElem?_eq_none]
      simp; omega
theorem drop_setI {l : List Int} {i j : Int} {x : Int} (h0 : 0 ≤ i) (h : i < j) : (setI l i x).drop j.toNat = l.drop j.toNat := by
  unfold setI
  rw [List.drop_set_of_lt (by omega)]
theorem delete3_eq {l : List Int} {k : Config} (hl : l.length ≤ 1000) : M_slices_DeleteFunc_int_int_1f41blk34 l k = some (l.filter (exS k), k.threads) := by
  refine Ok.eq ?_
  unfold M_slices_DeleteFunc_int_int_1f41blk34
  refine Ok.bindEq (ixdel_eq hl) ?_
  have hr := idxI_rng (fun n => !(exS k n)) l
  refine Ok.ite (fun h => Ok.some ?_) fun h => ?_
  · have : l.filter (exS k) = l := List.filter_eq_self.2 fun x hx => by
      have := idxI_no (p := fun n => !(exS k n)) (l := l) (by omega) x hx
      simpa using this
    rw [this]
  · have h0 : 0 ≤ idxI (fun n => !(exS k n)) l := by omega
    obtain ⟨x0, hx0, hp0⟩ := idxI_at h0
    have hd0 := drop_getI hx0
    have ht0 := take_getI hx0
    have hpre : ∀ y ∈ l.take (idxI (fun n => !(exS k n)) l).toNat, exS k y = true := by
      intro y hy
      obtain ⟨j, hj, hjy⟩ := List.mem_iff_getElem.1 hy
      rw [List.length_take] at hj
      rw [List.getElem_take] at hjy
      have := idxI_before (p := fun n => !(exS k n)) (l := l) (j := j) (x := y) (by rw [← hjy]; exact List.getElem?_eq_getElem (by omega)) (.inl (by omega))
      simpa using this
    rw [wI_id (by omega) (by omega)]
    refine lp3_ok (fun m _ j => ((m.length : Int) - j).toNat) (fun m i j => m.length = l.length ∧ 0 ≤ i ∧ i < j ∧ j ≤ (m.length : Int) ∧ l.filter (exS k) = m.take i.toNat ++ (m.drop j.toNat).filter (exS k)) (fun _ _ _ => _) ?_ BIG l _ _ ⟨rfl, h0, by omega, by omega, ?_⟩ (lt_BIG (by omega))
    · intro m i j kk ⟨e1, i0, ij, jm, hf⟩ hk
      unfold M_slices_DeleteFunc_int_int_1f41blk34_L1
      refine Ok.ite (fun hj => ?_) fun hj => ?_
      · obtain ⟨x, hx⟩ : ∃ x, getI m j = some x := ⟨_, getI_eq (by omega) hj⟩
        have hdr := drop_getI hx
        refine Ok.bindEq hx ?_
        refine Ok.bindEq (del1_eq _ _) ?_
        rw [wI_id (by omega) (by omega)]
        rw [hdr, List.filter_cons] at hf
        refine Ok.ite (fun hb => ?_) fun hb => ?_
        · have hb' : exS k x = false := by simpa using hb
          rw [hb', if_neg (by decide)] at hf
          exact hk _ _ _ ⟨e1, i0, by omega, by omega, hf⟩ (by omega)
        · have hb' : exS k x = true := by simpa using hb
          rw [hb', if_pos rfl] at hf
          refine Ok.bindEq (getI_eq i0 (by omega)) ?_
          rw [wI_id (by omega) (by omega)]
          refine hk _ _ _ ⟨by rw [length_setI]; exact e1, by omega, by omega, by rw [length_setI]; omega, ?_⟩ (by rw [length_setI]; omega)
          rw [show (i + 1).toNat = i.toNat + 1 by omega, take_setI i0 (by omega), drop_setI i0 (by omega), hf]
          simp
      · have hjl : j.toNat = m.length := by omega
        rw [hjl, List.drop_eq_nil_of_le (Nat.le_refl _)] at hf
        unfold M_slices_DeleteFunc_int_int_1f41blk34_J1
        refine Ok.bindEq (cutI_eq i0 (by omega) (by omega)) ?_
        have hcl : (clrL m i 0).length = m.length := by unfold clrL; simp; omega
        refine Ok.bindEq (cutI_eq (by omega) i0 (by omega)) ?_
        refine Ok.some ?_
        rw [hf]
        unfold clrL
        rw [List.take_append_of_le_length (by rw [List.length_take]; omega), List.take_take]
        simp
    · have e : l.filter (exS k) = (l.take (idxI (fun n => !(exS k n)) l).toNat).filter (exS k) ++ (l.drop (idxI (fun n => !(exS k n)) l).toNat).filter (exS k) := by
        rw [← List.filter_append, List.take_append_drop]
      rw [e, hd0, List.filter_cons, if_neg (by simpa using hp0), List.filter_eq_self.2 hpre]
def chansOf (o : Op) : List Int := if o.kind = 4 then o.cases.map (·.channel) else [o.channel]
theorem locks_ok {k : Config} {o : Op} (hc : o.cases.length ≤ 1000) : Ok (M_cases_Locks k o) fun l => Asc l ∧ l.length ≤ 1000 ∧ ∀ x, x ∈ l ↔ x ∈ chansOf o ∧ exS k x = true := by
  have hJ1 : ∀ l : List Int, l.length ≤ 1000 → l = chansOf o → Ok (M_cases_Locks_J1 k l) fun l => Asc l ∧ l.length ≤ 1000 ∧ ∀ x, x ∈ l ↔ x ∈ chansOf o ∧ exS k x = true := by
    intro l hl he
    unfold M_cases_Locks_J1
    rw [delete3_eq hl]
    simp only [bd2_some]
    have hfl : (l.filter (exS k)).length ≤ l.length := List.length_filter_le _ _
    have hsl : ((l.filter (exS k)).mergeSort fun x y => decide (x ≤ y)).length = (l.filter (exS k)).length := (List.mergeSort_perm _ _).length_eq
    refine Ok.bindEq (show M_slices_Sort_int_int _ = some ((l.filter (exS k)).mergeSort fun x y => decide (x ≤ y)) by unfold M_slices_Sort_int_int sortO; rw [if_pos (by omega)]) ?_
    refine Ok.bindEq (show M_slices_Compact_int_int _ = some (Go.Lib.compact ((l.filter (exS k)).mergeSort fun x y => decide (x ≤ y))) by unfold M_slices_Compact_int_int compactO; rw [if_pos (by omega)]) ?_
    have hsorted : ((l.filter (exS k)).mergeSort fun x y => decide (x ≤ y)).Pairwise (fun a b => a ≤ b) := by
      have := List.pairwise_mergeSort (le := fun x y : Int => decide (x ≤ y)) (fun a b c h1 h2 => by simp at *; omega) (fun a b => by simp; omega) (l.filter (exS k))
      exact this.imp fun h => by simpa using h
    obtain ⟨g1, g2⟩ := compact_asc hsorted
    have g3 := compact_len ((l.filter (exS k)).mergeSort fun x y => decide (x ≤ y))
    refine Ok.some ⟨g1, by omega, fun x => ?_⟩
    rw [g2, (List.mergeSort_perm _ _).mem_iff, List.mem_filter, he]
  unfold M_cases_Locks
  refine Ok.ite (fun h4 => ?_) fun h4 => hJ1 _ (by simp) (by unfold chansOf; rw [if_neg h4])
  refine lp2_ok (fun _ i => ((o.cases.length : Int) - i).toNat) (fun l i => 0 ≤ i ∧ i ≤ (o.cases.length : Int) ∧ l = (o.cases.take i.toNat).map (·.channel)) (fun _ _ => _) ?_ BIG [] 0 ⟨by omega, by omega, by simp⟩ (lt_BIG (by omega))
  intro l i kk ⟨g0, g1, g2⟩ hk
  have hll : l.length ≤ 1000 := by rw [g2]; simp; omega
  unfold M_cases_Locks_L1
  refine Ok.ite (fun hi => ?_) fun hi => ?_
  · obtain ⟨x, hx⟩ : ∃ x, getI o.cases i = some x := ⟨_, getI_eq g0 hi⟩
    refine Ok.bindEq hx ?_
    refine Ok.bindEq (app_eq (by simp; omega)) ?_
    rw [wI_id (by omega) (by omega)]
    exact hk _ _ ⟨by omega, by omega, by rw [take_getI hx, g2]; simp⟩ (by omega)
  · refine hJ1 l hll ?_
    unfold chansOf
    rw [if_pos h4, g2, List.take_of_length_le (by omega)]
theorem refLocks_ok {k : Config} {o : Op} (hc : o.cases.length ≤ 1000) (hk1 : k.capacities.length ≤ 1000) : Ok (M_ref3_Locks k o) fun l => Asc l ∧ l.length ≤ 1000 ∧ ∀ x, x ∈ l ↔ x ∈ chansOf o ∧ exS k x = true := by
  unfold M_ref3_Locks
  refine lp2_ok (fun _ n => ((k.capacities.length : Int) - n).toNat) (fun l n => 0 ≤ n ∧ n ≤ (k.capacities.length : Int) ∧ (l.length : Int) ≤ n ∧ Asc l ∧ ∀ x, x ∈ l ↔ x ∈ chansOf o ∧ 0 ≤ x ∧ x < n) (fun _ _ => _) ?_ BIG [] 0 ⟨by omega, by omega, by simp, List.Pairwise.nil, fun x => ⟨fun h => (by cases h), fun h => (by omega)⟩⟩ (lt_BIG (by omega))
  intro l n kk ⟨g0, g1, g2, g3, g4⟩ hk
  unfold M_ref3_Locks_L1
  refine Ok.ite (fun hn => ?_) fun hn => ?_
  · have hJ4 : ∀ t : Bool, (t = true ↔ n ∈ chansOf o) → Ok (M_ref3_Locks_J4 l n o k kk t) fun l => Asc l ∧ l.length ≤ 1000 ∧ ∀ x, x ∈ l ↔ x ∈ chansOf o ∧ exS k x = true := by
      intro t ht
      unfold M_ref3_Locks_J4 M_ref3_Locks_J2
      rw [wI_id (by omega) (by omega)]
      refine Ok.ite (fun h => ?_) fun h => ?_
      · refine Ok.bindEq (app_eq (by simp; omega)) ?_
        refine hk _ _ ⟨by omega, by omega, by simp; omega, ?_, fun x => ?_⟩ (by omega)
        · unfold Asc
          rw [List.pairwise_append]
          exact ⟨g3, List.pairwise_singleton _ _, fun a ha b hb => by simp at hb; subst hb; exact ((g4 a).1 ha).2.2⟩
        · rw [List.mem_append, g4]
          constructor
          · rintro (⟨h1, h2, h3⟩ | h1)
            · exact ⟨h1, h2, by omega⟩
            · simp at h1; subst h1; exact ⟨ht.1 h, g0, by omega⟩
          · rintro ⟨h1, h2, h3⟩
            rcases Int.lt_or_le x n with h4 | h4
            · exact .inl ⟨h1, h2, h4⟩
            · have : x = n := by omega
              subst this; exact .inr (by simp)
      · refine hk _ _ ⟨by omega, by omega, by omega, g3, fun x => ?_⟩ (by omega)
        rw [g4]
        constructor
        · rintro ⟨h1, h2, h3⟩; exact ⟨h1, h2, by omega⟩
        · rintro ⟨h1, h2, h3⟩
          rcases Int.lt_or_le x n with h4 | h4
          · exact ⟨h1, h2, h4⟩
          · have : x = n := by omega
            subst this; exact absurd (ht.2 h1) h
    refine Ok.ite (fun h4 => ?_) fun h4 => ?_
    · unfold M_ref3_Locks_J3
      refine lp2_ok (fun _ i => ((o.cases.length : Int) - i).toNat) (fun t i => 0 ≤ i ∧ i ≤ (o.cases.length : Int) ∧ (t = true ↔ n ∈ (o.cases.take i.toNat).map (·.channel))) (fun _ _ => _) ?_ BIG _ 0 ⟨by omega, by omega, by simp⟩ (lt_BIG (by omega))
      intro t i k2 ⟨f0, f1, f2⟩ hk2
      unfold M_ref3_Locks_L2 M_ref3_Locks_J5
      refine Ok.ite (fun hi => ?_) fun hi => ?_
      · rw [if_pos (by rw [dcd_tt]; exact h4), wI_id (by omega) (by omega)]
        obtain ⟨x, hx⟩ : ∃ x, getI o.cases i = some x := ⟨_, getI_eq f0 hi⟩
        have htk := take_getI hx
        refine Ok.ite (fun ht => ?_) fun ht => ?_
        · refine hk2 _ _ ⟨by omega, by omega, ?_⟩ (by omega)
          rw [htk, List.map_append, List.mem_append]
          exact ⟨fun _ => .inl (f2.1 ht), fun _ => rfl⟩
        · refine Ok.bindEq hx ?_
          refine hk2 _ _ ⟨by omega, by omega, ?_⟩ (by omega)
          rw [htk, List.map_append, List.mem_append, dcd_tt]
          constructor
          · intro h; exact .inr (by simp [h])
          · rintro (h | h)
            · exact absurd (f2.2 h) ht
            · simp at h; exact h.symm
      · rw [if_neg (by decide)]
        refine hJ4 t ?_
        rw [f2]
        unfold chansOf
        rw [if_pos h4, List.take_of_length_le (by omega)]
    · unfold M_ref3_Locks_J3
      obtain ⟨B, hB⟩ : ∃ B, BIG = B + 1 := ⟨BIG - 1, by unfold BIG; omega⟩
      rw [hB]
      show Ok (M_ref3_Locks_L2 l n o k kk (lp2 (M_ref3_Locks_L2 l n o k kk) B) (dcd (o.channel = n)) 0) _
      have hfin := hJ4 (dcd (o.channel = n)) (by rw [dcd_tt]; unfold chansOf; rw [if_neg h4]; simp; exact eq_comm)
      unfold M_ref3_Locks_L2 M_ref3_Locks_J5
      refine Ok.ite (fun hi => ?_) fun hi => ?_
      · rw [if_neg (by rw [dcd_tt]; exact h4)]; exact hfin
      · rw [if_neg (by decide)]; exact hfin
  · unfold M_ref3_Locks_J1
    refine Ok.some ⟨g3, by omega, fun x => ?_⟩
    rw [g4]
    unfold exS
    simp only [decide_eq_true_eq]
    constructor
    · rintro ⟨h1, h2, h3⟩; exact ⟨h1, h2, by omega⟩
    · rintro ⟨h1, h2, h3⟩; exact ⟨h1, h2, by omega⟩
theorem law_CasesLocks (raw : Op) (codes : List Int) (channel : Int) (hc : ∀ b ∈ codes, 0 ≤ b ∧ b < 256) : M_law3_CasesLocks raw codes channel = some true := by
  refine Ok.eq ?_
  unfold M_law3_CasesLocks
  refine Ok.bindEq awake3 ?_
  rw [if_pos rfl]
  have hbig : Ok (M_law3_big raw) fun b => b = false → raw.cases.length ≤ 20 ∧ raw.draws.length ≤ 20 := by
    unfold M_law3_big
    refine Ok.ite (fun h => Ok.some fun e => by cases e) fun h => Ok.some fun e => ?_
    rw [dcd_ff] at e
    omega
  refine Ok.bind hbig fun b hb => ?_
  refine Ok.ite (fun _ => Ok.some rfl) fun hbf => ?_
  obtain ⟨hr1, hr2⟩ := hb (by simpa using hbf)
  refine Ok.bind (New_ok hc (by omega) (by omega)) fun c ⟨⟨hl, ha⟩, _⟩ => ?_
  refine Ok.bd3 (Config_ok ⟨hl, ha⟩) fun x a1 v1 ⟨hx, ha1⟩ => ?_
  simp only at hx ha1
  refine Ok.bd3 (Wide_ok (c := Draw_Codes.mk c.list a1 v1) ⟨hl, ha1⟩) fun w a2 v2 ⟨hw, ha2⟩ => ?_
  simp only at hw ha2
  have hx3 := hx.n3
  refine Ok.bd3 (Op_ok (c := Draw_Codes.mk c.list a2 v2) ⟨hl, ha2⟩ (by omega)) fun op a3 v3 ⟨ho, ha3⟩ => ?_
  simp only at ho ha3
  have hol := ho.lens
  refine Ok.bd3 (spoil_ok (n := 20) (c := Draw_Codes.mk c.list a3 v3) ⟨hl, ha3⟩ ⟨by omega, by omega⟩ (by omega)) fun sp a4 v4 ⟨hsp, _⟩ => ?_
  simp only at hsp
  obtain ⟨hs1, hs2⟩ := hsp
  refine lp1_ok (fun i => (3 - i).toNat) (fun i => 0 ≤ i ∧ i ≤ 3) (fun _ => _) ?_ BIG 0 ⟨by omega, by omega⟩ (lt_BIG (by omega))
  intro i k ⟨g0, g1⟩ hk
  unfold M_law3_CasesLocks_L1
  refine Ok.ite (fun hi => ?_) fun hi => ?_
  · have hi : i < 3 := hi
    obtain ⟨o, hoi⟩ : ∃ o, getI [raw, op, sp] i = some o := ⟨_, getI_eq (l := [raw, op, sp]) g0 hi⟩
    have hoc : o.cases.length ≤ 1000 := by
      have := getI_mem hoi
      simp only [List.mem_cons, List.not_mem_nil, or_false] at this
      rcases this with rfl | rfl | rfl <;> omega
    refine Ok.bindEq hoi ?_
    refine lp1_ok (fun j => (2 - j).toNat) (fun j => 0 ≤ j ∧ j ≤ 2) (fun _ => _) ?_ BIG 0 ⟨by omega, by omega⟩ (lt_BIG (by omega))
    intro j k2 ⟨q0, q1⟩ hk2
    unfold M_law3_CasesLocks_L2
    refine Ok.ite (fun hj => ?_) fun hj => ?_
    · have hj : j < 2 := hj
      obtain ⟨y, hy⟩ : ∃ y, getI [x, w] j = some y := ⟨_, getI_eq (l := [x, w]) q0 hj⟩
      have hyc : y.capacities.length ≤ 1000 := by
        have := getI_mem hy
        simp only [List.mem_cons, List.not_mem_nil, or_false] at this
        rcases this with rfl | rfl <;> omega
      refine Ok.bindEq hy ?_
      refine Ok.bind (locks_ok hoc) fun l ⟨l1, l2, l3⟩ => ?_
      refine Ok.bind (refLocks_ok hoc hyc) fun l' ⟨l1', l2', l3'⟩ => ?_
      have e : l' = l := asc_ext l1' l1 fun z => by rw [l3', l3]
      subst e
      refine Ok.bindEq (same3 l2) ?_
      rw [if_pos rfl]
      refine lp1_ok (fun n => ((l'.length : Int) - n).toNat) (fun n => 1 ≤ n) (fun _ => _) ?_ BIG 1 (by omega) (lt_BIG (by omega))
      intro n k3 n1 hk3
      unfold M_law3_CasesLocks_L3
      refine Ok.ite (fun hn => ?_) fun hn => ?_
      · obtain ⟨u, hu⟩ : ∃ u, getI l' n = some u := ⟨_, getI_eq (by omega) hn⟩
        obtain ⟨v, hv⟩ : ∃ v, getI l' (n - 1) = some v := ⟨_, getI_eq (by omega) (by omega)⟩
        refine Ok.bindEq hu ?_
        rw [wI_id (x := n - 1) (by omega) (by omega)]
        refine Ok.bindEq hv ?_
        have hlt : v < u := by
          have hu' := (getI_ix hu).2.1
          have hv' := (getI_ix hv).2.1
          obtain ⟨p1, p2⟩ := List.getElem?_eq_some_iff.1 hu'
          obtain ⟨p3, p4⟩ := List.getElem?_eq_some_iff.1 hv'
          have := List.pairwise_iff_getElem.1 l1 (n - 1).toNat n.toNat p3 p1 (by omega)
          rw [p2, p4] at this; exact this
        rw [if_neg (by omega), wI_id (by omega) (by omega)]
        exact hk3 _ (by omega) (by omega)
      · unfold M_law3_CasesLocks_J3
        rw [wI_id (by omega) (by omega)]
        exact hk2 _ ⟨by omega, by omega⟩ (by omega)
    · unfold M_law3_CasesLocks_J2
      rw [wI_id (by omega) (by omega)]
      exact hk _ ⟨by omega, by omega⟩ (by omega)
  · unfold M_law3_CasesLocks_J1
    refine Ok.bind (mod12 (x := channel) (t := 12) (by omega) (by omega)) fun m ⟨m0, m1⟩ => ?_
    refine lp1_ok (fun j => (2 - j).toNat) (fun j => 0 ≤ j ∧ j ≤ 2) (fun _ => _) ?_ BIG 0 ⟨by omega, by omega⟩ (lt_BIG (by omega))
    intro j k2 ⟨q0, q1⟩ hk2
    unfold M_law3_CasesLocks_L4
    refine Ok.ite (fun hj => ?_) fun hj => by unfold M_law3_CasesLocks_J4; exact Ok.some rfl
    have hj : j < 2 := hj
    refine Ok.bindEq (getI_eq (l := [channel, wI (m - 2)]) q0 hj) ?_
    refine Ok.bindEq (exists3_eq _ _) ?_
    refine Ok.bindEq (ref_exists3_eq _ _) ?_
    rw [if_pos (beq_self_eq_true _)]
    refine Ok.bindEq (exists3_eq _ _) ?_
    refine Ok.bindEq (ref_exists3_eq _ _) ?_
    unfold M_law3_CasesLocks_J5
    rw [if_neg (by simp), wI_id (by omega) (by omega)]
    exact hk2 _ ⟨by omega, by omega⟩ (by omega)
end Go.Hx
