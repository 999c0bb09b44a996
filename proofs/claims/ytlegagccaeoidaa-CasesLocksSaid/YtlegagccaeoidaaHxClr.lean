/-
  An own row cleared from a place on; a cut row given back.
-/
import Derived.Test.YtlegagccaeoidaaHxDel
namespace Go.Hx
open Go
set_option linter.unusedVariables false
set_option linter.unusedSimpArgs false
/-- A list with zeros from a place on. -/
def clrL {α : Type} (l : List α) (i : Int) (z : α) : List α := l.take i.toNat ++ List.replicate (l.length - i.toNat) z
theorem zeroCells_flat (cs : Array Value) (hsz : 0 < cs.size) : ∀ k, (Builtin.zeroCells cs k).toList = (List.replicate k cs.toList).flatten := by
  intro k
  refine List.ext_getElem? fun j => ?_
  have hlen : ((List.replicate k cs.toList).flatten).length = k * cs.size := by simp
  rcases Nat.lt_or_ge j (k * cs.size) with hj | hj
  · have e1 : (Builtin.zeroCells cs k).toList[j]? = some cs[j % cs.size]! := by
      simp [Builtin.zeroCells, hj]
    rw [e1]
    have hm : j % cs.size < cs.size := Nat.mod_lt _ hsz
    have : ∀ k j, j < k * cs.size → ((List.replicate k cs.toList).flatten)[j]? = some cs[j % cs.size]! := by
      intro k
      induction k with
      | zero => intro j hj; omega
      | succ k ih =>
        intro j hj
        rw [List.replicate_succ, List.flatten_cons]
        rcases Nat.lt_or_ge j cs.size with h | h
        · rw [List.getElem?_append_left (by simpa using h), Nat.mod_eq_of_lt h, getElem!_pos cs j h]
          simp [h]
        · rw [List.getElem?_append_right (by simpa using h)]
          have : j - cs.toList.length < k * cs.size := by rw [Array.length_toList]; rw [Nat.succ_mul] at hj; omega
          rw [ih _ this, Array.length_toList, Nat.mod_eq_sub_mod h]
    exact (this k j hj).symm
  · rw [List.getElem?_eq_none (by simp [Builtin.zeroCells]; exact hj), List.getElem?_eq_none (by rw [hlen]; exact hj)]
theorem ovw_at {cs vs : List Value} {k : Nat} (h : k + vs.length ≤ cs.length) : ovw cs k vs = cs.take k ++ vs ++ cs.drop (k + vs.length) := by
  have e : cs = cs.take k ++ (cs.drop k).take vs.length ++ cs.drop (k + vs.length) := by
    rw [List.append_assoc, ← List.drop_drop, List.take_append_drop, List.take_append_drop]
  have hk : (cs.take k).length = k := by rw [List.length_take]; omega
  have := ovw_append (cs.take k) vs ((cs.drop k).take vs.length) (cs.drop (k + vs.length)) (by rw [List.length_take, List.length_drop]; omega)
  rw [hk, ← e] at this
  exact this
theorem upd_self {G G' : List Ent} {e e' : Ent} (h : Upd G e e' G') (he : e = e') : G' = G := by
  induction h with
  | here => rw [he]
  | there _ ih => rw [ih he]
section
variable {P : Program} {n : Nat} {env : Env} {K : Kp} {G : List Ent} {R : Cont} {Q : Post} {ops : Array Oper} {rest : List Oper}
variable {d : Nat} {dd : Option Tmp} {ty : TypeId} {pos : String} {af : Array Edge} {g : Option (Nat × Bool)}
variable {α : Type} {T : Ty α} {l lc : List α} {rows : List (List Value)} {s : SV}
theorem RowR.cutH {j : Int} (h : RowR T K rows l) (hc : cutI l 0 j = some lc) : RowR T K (rows.take j.toNat) lc := by
  obtain ⟨_, _, _, rfl⟩ := cutI_some hc
  show All2 (T.rep K) _ _
  rw [show ((0 : Int).toNat) = 0 from rfl, List.drop_zero]
  exact All2.take j.toNat h
theorem Shift.cutRow {e : TypeId} {j : Int} {S : Kp → List Ent → Prop} (hr : RowR T K rows l) (hz : Nat.blt 0 T.size = true) (hc : cutI l 0 j = some lc)
    (h : Shift K (.row (sv (cutS s T.size 0 j.toNat)) e T.size (rows.take j.toNat).flatten :: G) S) : Shift K (.row (sv s) e T.size rows.flatten :: G) S := fun E w hs => by
  have hm := hs.g _ (.head _)
  obtain ⟨h0, h1, h2, _⟩ := cutI_some hc
  obtain ⟨g1, g2, g3, g4⟩ := row_sv hm hr (lt_of_blt hz)
  have hlen := All2.len hr
  have hfl : (rows.take j.toNat).flatten = rows.flatten.take (j.toNat * T.size) := by
    have := flatten_length hr.sizes
    have e1 : rows.flatten = (rows.take j.toNat).flatten ++ (rows.drop j.toNat).flatten := by rw [← List.flatten_append, List.take_append_drop]
    have e2 : ((rows.take j.toNat).flatten).length = j.toNat * T.size := by
      rw [flatten_length (fun r hr' => hr.sizes r (List.mem_of_mem_take hr')), List.length_take]; congr 1; omega
    rw [e1, ← e2, List.take_left]
  have hfree := hs.apart _ (.head _)
  cases hA : s.A with
  | none =>
    have e0 : sv s = .slice none s.n s.c := by unfold sv; rw [hA]
    have hl0 : l.length = 0 := by
      rcases Nat.eq_zero_or_pos l.length with h | h
      · exact h
      · obtain ⟨g, hg⟩ := g4 h
        rw [hA] at hg; cases hg
    have ej : j.toNat = 0 := by omega
    have e1 : sv (cutS s T.size 0 j.toNat) = sv s := by
      unfold sv cutS
      rw [hA, ej]
      split <;> simp [g1, hl0]
    have e2 : rows = [] := List.eq_nil_of_length_eq_zero (by omega)
    rw [e1, e2] at h
    rw [e2] at hs
    exact h E w (by simpa using hs)
  | some A =>
    have e0 : sv s = .slice (some A) s.n s.c := by unfold sv; rw [hA]
    have hm' := hm
    rw [e0] at hm'
    obtain ⟨g0, cur, rfl, hg, hmc, hcm, hcs, htake⟩ := row_full hm'
    have e1 : sv (cutS s T.size 0 j.toNat) = .slice (some ⟨g0, 0, none⟩) j.toNat s.c := by
      unfold sv cutS
      rw [hA]
      split <;> simp [Addr.add]
    rw [e0] at hs hfree
    rw [e1] at h
    refine h E w (hs.upd (e' := .row (.slice (some ⟨g0, 0, none⟩) j.toNat s.c) e T.size (rows.take j.toNat).flatten) .here rfl rfl rfl (fun _ _ _ => rfl) ?_ (fun b hb => .inl hb) (by simp [Ent.own, Value.ownBlock]) hfree (row_off hfree))
    refine row_back hg (by omega) hcm hcs ?_
    rw [hfl, ← htake, List.take_take]
    congr 1
    have := Nat.mul_le_mul_right T.size (show j.toNat ≤ s.n by omega)
    omega
theorem O_clearCut {t e : TypeId} {x : Operand} {i : Int} {ti : TypeInfo} {z : Value} {z0 : α}
    (hx : ev env x = some (sv (cutS s T.size i.toNat l.length))) (ht : P.underlying t = some (.slice e)) (hi : P.info? e = some ti) (hz : ti.zero = some z) (hsize : ti.size = T.size) (hsz : Nat.blt 0 T.size = true) (hzs : Nat.beq z.cells.size T.size = true) (h1 : z.cells.all Value.oneCell' = true)
    (hm : Ent.row (sv s) e T.size rows.flatten ∈ G) (hrw : RowR T K rows l) (hc : cutI l i (l.length : Int) = some lc) (hz0 : T.rep K z.cells.toList z0)
    (h : ∀ rows', RowR T K rows' (clrL l i z0) → ∃ G', Upd G (.row (sv s) e T.size rows.flatten) (.row (sv s) e T.size rows'.flatten) G' ∧ R env K G') :
    OpW P n ⟨none, .call { callee := .builtin .clear, args := #[x], argTypes := #[t] }, ty, pos, af, g⟩ env K G R :=
  fun E w a hs ha next Q hk => by
    have hzs' : z.cells.size = T.size := Nat.eq_of_beq_eq_true hzs
    have hpos := lt_of_blt hsz
    obtain ⟨i0, i1, _, _⟩ := cutI_some hc
    obtain ⟨g1, g2, g3, g4⟩ := row_sv (hs.g _ hm) hrw hpos
    have hlen := All2.len hrw
    have hR : RowR T K (rows.take i.toNat ++ List.replicate (l.length - i.toNat) z.cells.toList) (clrL l i z0) := RowR.app (All2.take _ hrw) (RowR.replicate _ hz0)
    obtain ⟨G', hu, hcont⟩ := h _ hR
    unfold Oper.wp
    have hfl : (rows.take i.toNat).flatten = rows.flatten.take (i.toNat * T.size) := by
      have e1 : rows.flatten = (rows.take i.toNat).flatten ++ (rows.drop i.toNat).flatten := by rw [← List.flatten_append, List.take_append_drop]
      have e2 : ((rows.take i.toNat).flatten).length = i.toNat * T.size := by
        rw [flatten_length (fun r hr' => hrw.sizes r (List.mem_of_mem_take hr')), List.length_take]; congr 1; omega
      rw [e1, ← e2, List.take_left]
    have hrl : rows.flatten.length = l.length * T.size := by rw [flatten_length hrw.sizes, hlen]
    by_cases hrm : l.length = i.toNat
    · have hrun : (Builtin.clear_ #[t] ty #[sv (cutS s T.size i.toNat l.length)]).run P w = .ok (.tuple #[]) w := by
        rw [hrm]
        cases hA : s.A <;> by_cases hc : s.c = i.toNat <;> simp [Builtin.clear_, sv, cutS, run_underlying ht, hc, hA]
      have hG : G' = G := by
        have e1 : rows.take i.toNat ++ List.replicate (l.length - i.toNat) z.cells.toList = rows := by
          rw [hrm, Nat.sub_self, List.replicate_zero, List.append_nil, List.take_of_length_le (by omega)]
        rw [e1] at hu
        exact upd_self hu rfl
      subst hG
      simp only [execOp, resolve, Sem.run_bind, Sem.run_pure, Result.andThen_ok, invoke, builtin, List.map_toArray, List.map_cons, List.map_nil, ha.ev hx, hrun]
      simp only [Oper.upon]
      exact hk _ _ _ _ _ (Kp.le_refl K) hs ha hcont
    · have hlt : i.toNat < l.length := by omega
      obtain ⟨A, hA0⟩ := g4 (by omega)
      have esv : sv s = .slice (some ⟨A, 0, none⟩) l.length s.c := by unfold sv; rw [hA0, g1]
      have hmw := hs.g _ hm
      rw [esv] at hmw
      obtain ⟨g0, cur, eA, hg, hmc, hcm, hcs, htake⟩ := row_full hmw
      cases eA
      have hown : w.ownsRow 0 e T.size (.slice (some ⟨A, 0, none⟩) s.c s.c) s.c cur.toList := ⟨by rw [Array.length_toList, hcs], .inr ⟨A, s.c, cur, rfl, Nat.zero_le _, hg, Nat.le_refl _, hcm, hcs, by rw [List.take_of_length_le (by rw [Array.length_toList, hcs]; exact Nat.le_refl _)]⟩⟩
      have hzl : ((Builtin.zeroCells z.cells (l.length - i.toNat)).toList).length = (l.length - i.toNat) * T.size := by simp [Builtin.zeroCells, hzs']
      have hz1 : ∀ u ∈ (Builtin.zeroCells z.cells (l.length - i.toNat)).toList, u.oneCell' = true := by
        intro u hu
        simp only [Builtin.zeroCells, Array.toList_map, List.mem_map] at hu
        obtain ⟨j, hj, rfl⟩ := hu
        have hlt : j % z.cells.size < z.cells.size := Nat.mod_lt _ (by omega)
        rw [getElem!_pos z.cells (j % z.cells.size) hlt]
        exact Array.all_eq_true'.1 h1 _ (Array.getElem_mem hlt)
      have hle0 : i.toNat * T.size + (l.length - i.toNat) * T.size = l.length * T.size := by rw [← Nat.add_mul]; congr 1; omega
      have hle : l.length * T.size ≤ s.c * T.size := Nat.mul_le_mul_right _ (by omega)
      have h9 : cur.toList.length = s.c * T.size := by rw [Array.length_toList, hcs]
      obtain ⟨w', hr, hh, hgr, hsz2⟩ := run_storeCells_row (P := P) (Builtin.zeroCells z.cells (l.length - i.toNat)).toList w cur.toList (i.toNat * T.size) 0 hown (by rw [hzl, h9]; omega) hz1
      have hrun : (Builtin.clear_ #[t] ty #[sv (cutS s T.size i.toNat l.length)]).run P w = .ok (.tuple #[]) w' := by
        have hne : ¬ s.c = i.toNat := by omega
        obtain ⟨q, hq⟩ : ∃ q, l.length - i.toNat = q + 1 := ⟨l.length - i.toNat - 1, by omega⟩
        rw [hq] at hr
        simp [Builtin.clear_, sv, cutS, hA0, run_underlying ht, hne, hq, zeroValue, typeInfo, hi, hz, hr]
      simp only [execOp, resolve, Sem.run_bind, Sem.run_pure, Result.andThen_ok, invoke, builtin, List.map_toArray, List.map_cons, List.map_nil, ha.ev hx, hrun]
      simp only [Oper.upon]
      obtain ⟨_, h2⟩ := hh
      rcases h2 with ⟨h2, _⟩ | ⟨g1', cap, cur', h2, _, hg', hnc, hcm', hcs', htake'⟩
      · cases h2
      · cases h2
        have hfree := hs.apart _ hm
        have hnew : (Ent.row (sv s) e T.size (rows.take i.toNat ++ List.replicate (l.length - i.toNat) z.cells.toList).flatten).holds w' := by
          rw [esv]
          refine row_back hg' hmc hcm hcs' ?_
          have hall : cur'.toList = ovw cur.toList (i.toNat * T.size + 0) (Builtin.zeroCells z.cells (l.length - i.toNat)).toList := by
            rw [← htake', List.take_of_length_le (by rw [Array.length_toList, hcs']; exact Nat.le_refl _)]
          rw [hall, Nat.add_zero, ovw_at (by rw [hzl, h9]; omega), hzl, hle0, List.flatten_append, hfl, ← zeroCells_flat _ (by omega), ← htake, List.take_take,
            show min (i.toNat * T.size) (l.length * T.size) = i.toNat * T.size by omega]
          have hq : (cur.toList.take (i.toNat * T.size) ++ (Builtin.zeroCells z.cells (l.length - i.toNat)).toList).length = l.length * T.size := by
            rw [List.length_append, List.length_take, hzl, h9]; omega
          exact (congrArg (fun q => List.take q _) hq.symm).trans List.take_left
        exact hk _ _ _ _ _ (Kp.le_refl K) (hs.upd hu hgr.os hgr.tape hgr.output (fun b hb hne => hgr.block b hb (fun e => hne (by cases e; simp [Ent.own, esv, Value.ownBlock]))) hnew (fun b hb => .inl hb) (by simp only [Ent.own]; cases (sv s).ownBlock <;> simp) hfree (row_off hfree)) ha hcont
end
end Go.Hx
