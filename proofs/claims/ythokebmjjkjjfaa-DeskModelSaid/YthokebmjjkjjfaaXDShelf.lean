/- Printed by program: slices.Insert of one element. -/
import Derived.Test.YthokebmjjkjjfaaXDM
import Derived.Test.YthokebmjjkjjfaaHxDel
namespace Go.Hx
open Go Go.Proofs
set_option linter.unusedSimpArgs false
set_option linter.unusedVariables false
set_option maxRecDepth 10000
set_option maxHeartbeats 4000000 in
theorem Fc_insert {vp0 vp2 : SV} {rsp0 rsp2 : List (List Value)} {p0 p2 y0 : List Done} {p1 : Int} {K : Kp} {G : List Ent} (H : insO p0 p1 p2 = some y0) (hp0 : RowR TyDone K rsp0 p0) (hp2 : RowR TyDone K rsp2 p2) :
    Fc Try.prog 79 #[(sv vp0), (.int .i64 p1), (sv vp2)] K ((.row (sv vp0) 75 6 rsp0.flatten) :: (.row (sv vp2) 75 6 rsp2.flatten) :: G) (fun v K' G' => ∃ (wy0 : SV) (rswy0 : List (List Value)), v = (sv wy0) ∧ K = K' ∧ (.row (sv wy0) 75 6 rswy0.flatten) :: G = G' ∧ RowR TyDone K' rswy0 y0) := fun E w hs => by
  obtain ⟨hi0, hi1, h2l, hbig, hy0⟩ := insO_some H
  obtain ⟨g1, g2, g3, g4⟩ := row_sv (T := TyDone) (hs.g _ (.head _)) hp0 (by decide)
  obtain ⟨f1, f2, f3, f4⟩ := row_sv (T := TyDone) (hs.g _ (.tail _ (.head _))) hp2 (by decide)
  obtain ⟨gv, hgvA⟩ := f4 (by omega)
  obtain ⟨A, n, c⟩ := vp0
  obtain ⟨Av, nv, cv⟩ := vp2
  simp only at g1 g2 g3 g4 f1 f2 f3 f4 hgvA
  obtain ⟨i, rfl⟩ : ∃ i : Nat, p1 = (i : Int) := ⟨p1.toNat, by omega⟩
  rw [h2l] at f1
  subst f1 hgvA
  have hn : p0.length = n := g1.symm
  have hg : 0 < n → ∃ g, A = some ⟨g, 0, none⟩ ∧ g ≠ gv := fun h => by
    obtain ⟨g, hg⟩ := g4 (by omega)
    refine ⟨g, hg, fun e => ?_⟩
    subst hg e
    have := hs.nodup
    simp [Ent.own, sv, Value.ownBlock] at this
  have hin : i ≤ n := by omega
  have hRy : RowR TyDone K (rsp0.take i ++ rsp2 ++ rsp0.drop i) y0 := by
    rw [hy0]
    exact RowR.app (RowR.app (All2.take _ hp0) hp2) (All2.drop _ hp0)
  clear g4 f4 f2 f3 H
  revert E w
  intro E w hs
  refine (?_ : Fc Try.prog 79 _ K _ _) E w hs
  clear hs
  refine Fc_body Try.func79 rfl Try.ntmps79 Try.results79 rfl ?_
  refine Cw_seq ?_
  refine Cw_region ?_
  refine Ow_q rfl rfl rfl (Qt_assign rfl) ?_
  refine Ow_nil ?_
  refine Cw_seq ?_
  refine Cw_region ?_
  refine Ow_q rfl rfl rfl (Qt_move rfl) ?_
  refine Ow_q rfl rfl rfl (Qt_move rfl) ?_
  refine Ow_q rfl rfl rfl (Qt_slice_l (A := A) (m := n) (c := c) (q := i) (size := 6) rfl rfl rfl rfl rfl rfl hin) ?_
  refine Ow_nil ?_
  refine Cw_seq ?_
  refine Cw_region ?_
  refine Ow_q rfl rfl rfl (Qt_move rfl) ?_
  refine Ow_q rfl rfl rfl (Qt_len (A := some ⟨gv, 0, none⟩) (m := 1) (c := cv) rfl rfl) ?_
  refine Ow_q rfl rfl rfl (Qt_assign rfl) ?_
  refine Ow_nil ?_
  refine Cw_seq ?_
  refine Cw_seq ?_
  refine Cw_region ?_
  refine Ow_q rfl rfl rfl (Qt_move rfl) ?_
  refine Ow_q rfl rfl rfl (Qt_cmp rfl rfl rfl) ?_
  refine Ow_nil ?_
  refine Cw_cond rfl (fun h => absurd (dcd_t h) (by decide)) (fun _ => ?_)
  refine Cw_skip ?_
  refine Cw_seq ?_
  refine Cw_region ?_
  refine Ow_q rfl rfl rfl (Qt_move rfl) ?_
  refine Ow_q rfl rfl rfl (Qt_len (A := A) (m := n) (c := c) rfl rfl) ?_
  refine Ow_q rfl rfl rfl (Qt_assign rfl) ?_
  refine Ow_nil ?_
  refine Cw_seq ?_
  refine Cw_seq ?_
  refine Cw_region ?_
  refine Ow_q rfl rfl rfl (Qt_move rfl) ?_
  refine Ow_q rfl rfl rfl (Qt_move rfl) ?_
  refine Ow_q rfl rfl rfl (Qt_cmp rfl rfl rfl) ?_
  refine Ow_nil ?_
  refine Cw_cond rfl ?_ ?_
  · intro h
    have h := dcd_t h
    have hi : i = n := by omega
    subst hi
    refine Cw_seq ?_
    refine Cw_region ?_
    refine Ow_q rfl rfl rfl (Qt_move rfl) ?_
    refine Ow_q rfl rfl rfl (Qt_move rfl) ?_
    refine Ow_cons rfl (O_appRow (T := TyDone) (bytes := 48) (m := p2) (l := p0) rfl rfl rfl (.head _) hp0 (SrcT.row (.tail _ (.head _)) hp2 rfl) (l' := y0) ?_ rfl rfl rfl rfl rfl rfl rfl rfl (fun s' rows' hR => ⟨_, .here, ?_⟩))
    · unfold app; rw [if_pos (by omega)]; rw [hy0, show ((i : Nat) : Int).toNat = p0.length by omega, List.take_length, List.drop_length, List.append_nil]
    refine Ow_q rfl rfl rfl (Qt_assign rfl) ?_
    refine Ow_nil ?_
    refine Cw_ret ?_
    refine ⟨(by first | exact .inl rfl | exact .inr rfl), [sv s'], ⟨sv s', _, rfl, rfl, rfl⟩, ?_⟩
    refine Shift.rem (.there .here) ?_
    refine Shift.done ?_
    exact ⟨s', rows', rfl, rfl, rfl, hR⟩
  intro h
  have h := dcd_f h
  have hlt : i < n := by omega
  obtain ⟨k, hk⟩ : ∃ k, n = i + k := ⟨n - i, by omega⟩
  have hk0 : 0 < k := by omega
  obtain ⟨g, hA, hgv⟩ := hg (by omega)
  subst hA hk
  refine Cw_skip ?_
  have hw1 : IntKind.i64.wrap (((i + k : Nat) : Int) + ((1 : Nat) : Int)) = ((i + (k + 1) : Nat) : Int) := by rw [IntKind.wrap_i64]; omega
  have hw2 : IntKind.i64.wrap (((i + (k + 1) : Nat) : Int) - (i : Int)) = ((k + 1 : Nat) : Int) := by rw [IntKind.wrap_i64]; omega
  have hw3 : IntKind.i64.wrap ((i : Int) + ((1 : Nat) : Int)) = ((i + 1 : Nat) : Int) := by rw [IntKind.wrap_i64]; omega
  have hxl : rsp0.flatten.length = (i + k) * 6 := by rw [flatten_length hp0.sizes, All2.len hp0, hn]; rfl
  have hvl : rsp2.flatten.length = 6 := by rw [flatten_length hp2.sizes, All2.len hp2, h2l]; rfl
  have hdl : (rsp0.flatten.drop (i * 6)).length = k * 6 := by rw [List.length_drop, hxl]; omega
  have hxo : ∀ v ∈ rsp0.flatten.drop (i * 6), v.oneCell' = true := fun v hv => hp0.ones v (List.mem_of_mem_drop hv)
  refine Cw_seq ?_
  refine Cw_seq ?_
  refine Cw_region ?_
  refine Ow_q rfl rfl rfl (Qt_move rfl) ?_
  refine Ow_q rfl rfl rfl (Qt_move rfl) ?_
  refine Ow_q rfl rfl rfl (Qt_arith (e := ((i + (k + 1) : Nat) : Int)) rfl rfl rfl hw1) ?_
  refine Ow_q rfl rfl rfl (Qt_move rfl) ?_
  refine Ow_q rfl rfl rfl (Qt_cap (A := some ⟨g, 0, none⟩) (m := i + k) (c := c) rfl rfl) ?_
  refine Ow_q rfl rfl rfl (Qt_cmp rfl rfl rfl) ?_
  refine Ow_nil ?_
  refine Cw_cond rfl ?_ ?_
  · intro h
    have h := dcd_t h
    have hc : c < i + (k + 1) := by omega
    refine Cw_seq ?_
    refine Cw_region ?_
    refine Ow_q rfl rfl rfl (Qt_move rfl) ?_
    refine Ow_q rfl rfl rfl (Qt_move rfl) ?_
    refine Ow_q rfl rfl rfl (Qt_slice_h (A := some ⟨g, 0, none⟩) (m := i + k) (c := c) (q := i) rfl rfl rfl rfl rfl rfl (by omega)) ?_
    refine Ow_q rfl rfl rfl (Qt_move rfl) ?_
    refine Ow_q rfl rfl rfl (Qt_move rfl) ?_
    refine Ow_q rfl rfl rfl (Qt_arith (e := ((i + (k + 1) : Nat) : Int)) rfl rfl rfl hw1) ?_
    refine Ow_q rfl rfl rfl (Qt_move rfl) ?_
    refine Ow_q rfl rfl rfl (Qt_arith (e := ((k + 1 : Nat) : Int)) rfl rfl rfl hw2) ?_
    refine Ow_cons rfl (O_appZeros (g := g) (sz := 6) (bytes := 48) (m := i + k) (i := i) (b := k + 1) (C := c) rfl rfl rfl (.head _) rfl rfl rfl rfl rfl rfl rfl rfl (by omega) (by omega) hc (by omega) rfl (fun g' c' zs e1 e2 e3 e4 => ?_))
    refine Ow_q rfl rfl rfl (Qt_assign rfl) ?_
    refine Ow_nil ?_
    refine Cw_seq ?_
    refine Cw_region ?_
    refine Ow_q rfl rfl rfl (Qt_move rfl) ?_
    refine Ow_q rfl rfl rfl (Qt_move rfl) ?_
    refine Ow_q rfl rfl rfl (Qt_slice_l1 (size := 6) (g := g') (m := i + (k + 1)) (c := c') (q := i) (r := k + 1) rfl rfl rfl rfl rfl rfl (by omega) (by omega) (by omega)) ?_
    refine Ow_q rfl rfl rfl (Qt_move rfl) ?_
    have hfit : (i + (k + 1)) * 6 ≤ zs.length := by rw [e3]; exact Nat.mul_le_mul_right _ e1
    refine Ow_cons rfl (O_copyRaw (q := 1) (cs := rsp2.flatten) rfl rfl rfl rfl rfl rfl (by simp only [Nat.min_def]; split <;> omega) (by omega) (rowCell (.tail _ (.tail _ (.head _)))) (by omega) hp2.ones ?_)
    refine Ow_nil ?_
    refine Cw_seq ?_
    refine Cw_region_any [] rfl Inc.nil ?_
    refine Aw_q 0 rfl (by kernel_rfl) (by kernel_rfl) (by kernel_rfl) rfl rfl rfl (Qt_move rfl) ?_
    refine Aw_q 1 rfl (by kernel_rfl) (by kernel_rfl) (by kernel_rfl) rfl rfl rfl (Qt_move rfl) ?_
    refine Aw_q 2 rfl (by kernel_rfl) (by kernel_rfl) (by kernel_rfl) rfl rfl rfl (Qt_move rfl) ?_
    refine Aw_q 3 rfl (by kernel_rfl) (by kernel_rfl) (by kernel_rfl) rfl rfl rfl (Qt_arith (e := ((i + 1 : Nat) : Int)) rfl rfl rfl hw3) ?_
    refine Aw_q 4 rfl (by kernel_rfl) (by kernel_rfl) (by kernel_rfl) rfl rfl rfl (Qt_slice_l1 (size := 6) (g := g') (m := i + (k + 1)) (c := c') (q := i + 1) (r := k) rfl rfl rfl rfl rfl rfl (by omega) (by omega) (by omega)) ?_
    refine Aw_q 5 rfl (by kernel_rfl) (by kernel_rfl) (by kernel_rfl) rfl rfl rfl (Qt_move rfl) ?_
    refine Aw_q 6 rfl (by kernel_rfl) (by kernel_rfl) (by kernel_rfl) rfl rfl rfl (Qt_move rfl) ?_
    refine Aw_q 7 rfl (by kernel_rfl) (by kernel_rfl) (by kernel_rfl) rfl rfl rfl (Qt_slice_l1 (size := 6) (g := g) (m := i + k) (c := c) (q := i) (r := k) rfl rfl rfl rfl rfl rfl (by omega) (by omega) (by omega)) ?_
    refine Aw_one 8 (by kernel_rfl) (Ax_mk rfl rfl ?_)
    refine O_copyRaw (q := k) (cs := rsp0.flatten.drop (i * 6)) rfl rfl rfl rfl rfl rfl (by simp only [Nat.min_def]; split <;> omega) (by omega) (rowCellD (.tail _ (.head _))) (by simp only [List.length_append, List.length_take, List.length_drop]; omega) hxo ⟨Inc.nil, ?_⟩
    refine Aw_done (by kernel_rfl) ?_
    refine Cw_seq ?_
    refine Cw_region ?_
    refine Ow_q rfl rfl rfl (Qt_move rfl) ?_
    refine Ow_q rfl rfl rfl (Qt_assign rfl) ?_
    refine Ow_nil ?_
    refine Cw_ret ?_
    have hfin := ins_grow (sz := 6) (i := i) (k := k) (rs := rsp0) (rv := rsp2) hp0.sizes (by rw [All2.len hp0, hn]) hvl e4 (by omega)
    refine ⟨(by first | exact .inl rfl | exact .inr rfl), [sv ⟨some ⟨g', 0, none⟩, i + (k + 1), c'⟩], ⟨_, _, rfl, rfl, rfl⟩, ?_⟩
    refine Shift.rawShut (k := i + (k + 1)) e1 ?_
    rw [hfin]
    refine Shift.rem (.there .here) ?_
    refine Shift.rem (.there .here) ?_
    refine Shift.done ?_
    exact ⟨⟨some ⟨g', 0, none⟩, i + (k + 1), c'⟩, _, rfl, rfl, rfl, hRy⟩
  intro h
  have h := dcd_f h
  have hc : i + (k + 1) ≤ c := by omega
  refine Cw_skip ?_
  refine Cw.shift (Shift.rawOpen (g := g) (m := i + k) (c := c) (fun ys e3 e4 e2 e1 => Shift.done ?_))
  have hfit : (i + (k + 1)) * 6 ≤ ys.length := by rw [e3]; exact Nat.mul_le_mul_right _ hc
  refine Cw_seq ?_
  refine Cw_region ?_
  refine Ow_q rfl rfl rfl (Qt_move rfl) ?_
  refine Ow_q rfl rfl rfl (Qt_move rfl) ?_
  refine Ow_q rfl rfl rfl (Qt_move rfl) ?_
  refine Ow_q rfl rfl rfl (Qt_arith (e := ((i + (k + 1) : Nat) : Int)) rfl rfl rfl hw1) ?_
  refine Ow_q rfl rfl rfl (Qt_slice_h (A := some ⟨g, 0, none⟩) (m := i + k) (c := c) (q := i + (k + 1)) rfl rfl rfl rfl rfl rfl hc) ?_
  refine Ow_q rfl rfl rfl (Qt_assign rfl) ?_
  refine Ow_nil ?_
  refine Cw_seq ?_
  refine Cw_seq ?_
  refine Cw_region ?_
  refine Ow_q rfl rfl rfl (Qt_move rfl) ?_
  refine Ow_q rfl rfl rfl (Qt_move rfl) ?_
  refine Ow_q rfl rfl rfl (Qt_move rfl) ?_
  refine Ow_q rfl rfl rfl (Qt_move rfl) ?_
  refine Ow_q rfl rfl rfl (Qt_arith (e := ((i + 1 : Nat) : Int)) rfl rfl rfl hw3) ?_
  refine Ow_q rfl rfl rfl (Qt_slice_l1 (size := 6) (g := g) (m := i + (k + 1)) (c := c) (q := i + 1) (r := k) rfl rfl rfl rfl rfl rfl (by omega) (by omega) (by omega)) ?_
  refine Ow_cons rfl (OpW_ext (f := 90) (v := .bool false) rfl rfl rfl (fun w hs => ?_) ?_)
  · skip
    have hx := run_callFunc_extern (P := Try.prog) (f := 90) (e := Extern.SlicesOverlaps.overlaps #[53, 53] #[4]) rfl (by kernel_rfl) (by kernel_rfl) (by kernel_rfl) (by kernel_rfl) #[.slice (some ⟨gv, 0, none⟩) 1 cv, .slice (some ⟨g, (i + 1) * 6, none⟩) k (c - (i + 1))] w
    refine hx.trans ?_
    rw [overlaps_rows (e := 75) (sz := 6) rfl rfl rfl hs (.tail _ (.head _)) (.head _) (fun e => hgv e.symm) (by omega)]
    rfl
  refine Ow_q rfl rfl rfl (Qt_not rfl) ?_
  refine Ow_nil ?_
  refine Cw_cond_t rfl ?_
  refine Cw_seq ?_
  refine Cw_region_any [] rfl Inc.nil ?_
  refine Aw_q 0 rfl (by kernel_rfl) (by kernel_rfl) (by kernel_rfl) rfl rfl rfl (Qt_move rfl) ?_
  refine Aw_q 1 rfl (by kernel_rfl) (by kernel_rfl) (by kernel_rfl) rfl rfl rfl (Qt_move rfl) ?_
  refine Aw_q 2 rfl (by kernel_rfl) (by kernel_rfl) (by kernel_rfl) rfl rfl rfl (Qt_move rfl) ?_
  refine Aw_q 3 rfl (by kernel_rfl) (by kernel_rfl) (by kernel_rfl) rfl rfl rfl (Qt_arith (e := ((i + 1 : Nat) : Int)) rfl rfl rfl hw3) ?_
  refine Aw_q 4 rfl (by kernel_rfl) (by kernel_rfl) (by kernel_rfl) rfl rfl rfl (Qt_slice_l1 (size := 6) (g := g) (m := i + (k + 1)) (c := c) (q := i + 1) (r := k) rfl rfl rfl rfl rfl rfl (by omega) (by omega) (by omega)) ?_
  refine Aw_q 5 rfl (by kernel_rfl) (by kernel_rfl) (by kernel_rfl) rfl rfl rfl (Qt_move rfl) ?_
  refine Aw_q 6 rfl (by kernel_rfl) (by kernel_rfl) (by kernel_rfl) rfl rfl rfl (Qt_move rfl) ?_
  refine Aw_q 7 rfl (by kernel_rfl) (by kernel_rfl) (by kernel_rfl) rfl rfl rfl (Qt_slice_l1 (size := 6) (g := g) (m := i + (k + 1)) (c := c) (q := i) (r := k + 1) rfl rfl rfl rfl rfl rfl (by omega) (by omega) (by omega)) ?_
  refine Aw_one 8 (by kernel_rfl) (Ax_mk rfl rfl ?_)
  refine O_copyRaw (q := k) (cs := rsp0.flatten.drop (i * 6)) rfl rfl rfl rfl rfl rfl (by simp only [Nat.min_def]; split <;> omega) (by omega) (rawCellD e4) (by omega) hxo ⟨Inc.nil, ?_⟩
  refine Aw_done (by kernel_rfl) ?_
  refine Cw_seq ?_
  refine Cw_region ?_
  refine Ow_q rfl rfl rfl (Qt_move rfl) ?_
  refine Ow_q rfl rfl rfl (Qt_move rfl) ?_
  refine Ow_q rfl rfl rfl (Qt_slice_l1 (size := 6) (g := g) (m := i + (k + 1)) (c := c) (q := i) (r := k + 1) rfl rfl rfl rfl rfl rfl (by omega) (by omega) (by omega)) ?_
  refine Ow_q rfl rfl rfl (Qt_move rfl) ?_
  refine Ow_cons rfl (O_copyRaw (q := 1) (cs := rsp2.flatten) rfl rfl rfl rfl rfl rfl (by simp only [Nat.min_def]; split <;> omega) (by omega) (rowCell (.tail _ (.head _))) (by simp only [List.length_append, List.length_take, List.length_drop]; omega) hp2.ones ?_)
  refine Ow_nil ?_
  refine Cw_seq ?_
  refine Cw_region ?_
  refine Ow_q rfl rfl rfl (Qt_move rfl) ?_
  refine Ow_q rfl rfl rfl (Qt_assign rfl) ?_
  refine Ow_nil ?_
  refine Cw_ret ?_
  have hfin := ins_room (sz := 6) (i := i) (k := k) (rs := rsp0) (rv := rsp2) hp0.sizes (by rw [All2.len hp0, hn]) hvl e4 (by omega)
  refine ⟨(by first | exact .inl rfl | exact .inr rfl), [sv ⟨some ⟨g, 0, none⟩, i + (k + 1), c⟩], ⟨_, _, rfl, rfl, rfl⟩, ?_⟩
  refine Shift.rawShut (k := i + (k + 1)) hc ?_
  rw [hfin]
  refine Shift.rem (.there .here) ?_
  refine Shift.done ?_
  exact ⟨⟨some ⟨g, 0, none⟩, i + (k + 1), c⟩, _, rfl, rfl, rfl, hRy⟩
end Go.Hx
