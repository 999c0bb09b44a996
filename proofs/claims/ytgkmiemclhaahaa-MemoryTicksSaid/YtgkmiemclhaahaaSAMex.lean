/- Contracts of functions, walked: printed by program. -/
import Derived.Test.YtgkmiemclhaahaaProg
import Derived.Test.YtgkmiemclhaahaaGhlMore
import Derived.Test.YtgkmiemclhaahaaSAMem
namespace Go.Ghl
open Go.Proofs
set_option linter.unusedSimpArgs false
set_option linter.unusedVariables false

theorem c_delete (a : Addr) (cp : Nat) (L : List Int) (i : Nat) (hi : i < L.length) (K : Kp) (G : List Ent) (hz : L.length ≤ 1000000) :
    Fc Try.prog 63 #[(.slice (some a) L.length cp), (.int .i64 ((i : Nat) : Int)), (.int .i64 (((i : Nat) : Int) + 1))] K (.row (.slice (some a) L.length cp) 3 1 ((L.map i64c).flatten) :: G) (fun v K' G' => v = .slice (some a) (L.take i ++ L.drop (i + 1)).length cp ∧ K' = K ∧ G' = .row (.slice (some a) (L.take i ++ L.drop (i + 1)).length cp) 3 1 (((L.take i ++ L.drop (i + 1)).map i64c).flatten) :: G) := by
  refine Fc_of Try.func63 rfl Try.ntmps63 Try.results63 rfl ?_
  refine Cw_seq ?_
  refine Cw_region ?_
  refine Ow_q rfl rfl rfl (Qt_assign rfl) ?_
  refine Ow_nil ?_
  refine Cw_seq ?_
  refine Cw.rowcap (.head _) ?_
  intro hcap hmx
  have hlen : (L.take i ++ L.drop (i + 1)).length + 1 = L.length := by simp; omega
  refine Cw_region ?_
  refine Ow_q rfl rfl rfl (Qt_move rfl) ?_
  refine Ow_q rfl rfl rfl (Qt_move rfl) ?_
  refine Ow_q rfl rfl rfl (Qt_move rfl) ?_
  refine Ow_q rfl rfl rfl (Qt_move rfl) ?_
  refine Ow_q rfl rfl rfl (Qt_len rfl rfl) ?_
  refine Ow_q rfl rfl rfl (Qt_slice_lhm (q := i) (r := (i + 1)) (s := L.length) (size := 1) rfl rfl rfl rfl rfl rfl rfl (by omega) (by omega) (by omega) (by omega) (by omega) (by first | omega | (simp only [List.length_append, List.length_cons, List.length_nil, List.length_replicate, List.length_set]; omega) | (simp; omega))) ?_
  refine Ow_nil ?_
  refine Cw_seq ?_
  refine Cw_seq ?_
  refine Cw_region ?_
  refine Ow_q rfl rfl rfl (Qt_move rfl) ?_
  refine Ow_q rfl rfl rfl (Qt_move rfl) ?_
  refine Ow_q rfl rfl rfl (Qt_cmp rfl rfl rfl) ?_
  refine Ow_nil ?_
  refine Cw_cond rfl ?_ ?_
  · intro h1
    have h1 := dcd_t (h1)
    refine Cw_seq ?_
    refine Cw_region ?_
    refine Ow_q rfl rfl rfl (Qt_move rfl) ?_
    refine Ow_q rfl rfl rfl (Qt_assign rfl) ?_
    refine Ow_nil ?_
    refine Cw_ret ?_
    refine ⟨(by first | exact .inl rfl | exact .inr rfl), [(.slice (some a) L.length cp)], .row (.slice (some a) L.length cp) 3 1 (((L).map i64c).flatten) :: G, ⟨(.slice (some a) L.length cp), _, rfl, rfl, rfl⟩, .cons_cons _ (.refl _), ?_⟩
    first | (exfalso; omega) | exact ⟨rfl, rfl, rfl⟩
  · intro h1
    have h1 := dcd_f (h1)
    refine Cw_skip ?_
    refine Cw_seq ?_
    refine Cw_region ?_
    refine Ow_q rfl rfl rfl (Qt_move rfl) ?_
    refine Ow_q rfl rfl rfl (Qt_len rfl rfl) ?_
    refine Ow_q rfl rfl rfl (Qt_assign rfl) ?_
    refine Ow_nil ?_
    refine Cw_seq ?_
    refine Cw_region_any [] rfl Inc.nil ?_
    refine Aw_q 0 rfl (by kernel_rfl) (by kernel_rfl) (by kernel_rfl) rfl rfl rfl (Qt_move rfl) ?_
    refine Aw_q 1 rfl (by kernel_rfl) (by kernel_rfl) (by kernel_rfl) rfl rfl rfl (Qt_move rfl) ?_
    refine Aw_q 2 rfl (by kernel_rfl) (by kernel_rfl) (by kernel_rfl) rfl rfl rfl (Qt_slice_h (q := i) rfl rfl rfl rfl rfl (by omega) (by first | omega | (simp only [List.length_append, List.length_cons, List.length_nil, List.length_replicate, List.length_set]; omega) | (simp; omega))) ?_
    refine Aw_q 3 rfl (by kernel_rfl) (by kernel_rfl) (by kernel_rfl) rfl rfl rfl (Qt_move rfl) ?_
    refine Aw_q 4 rfl (by kernel_rfl) (by kernel_rfl) (by kernel_rfl) rfl rfl rfl (Qt_move rfl) ?_
    refine Aw_q 5 rfl (by kernel_rfl) (by kernel_rfl) (by kernel_rfl) rfl rfl rfl (Qt_slice_l (q := (i + 1)) (size := 1) rfl rfl rfl rfl rfl (by omega) (by first | omega | (simp only [List.length_append, List.length_cons, List.length_nil, List.length_replicate, List.length_set]; omega) | (simp; omega))) ?_
    refine Aw_one 6 (by kernel_rfl) (Ax_mk rfl rfl (OpW_appendInT (bytes := 8) (L := L) (M := (L.drop (i + 1))) (i := i) Enc.i64 rfl rfl rfl (Src.rowDropT Enc.i64 (.head _) (by first | omega | (simp only [List.length_append, List.length_cons, List.length_nil, List.length_replicate, List.length_set]; omega) | (simp; omega))) rfl rfl (.inr slCut_drop) rfl rfl rfl (by first | omega | (simp only [List.length_append, List.length_cons, List.length_nil, List.length_replicate, List.length_set]; omega) | (simp; omega)) (by first | omega | (simp only [List.length_append, List.length_cons, List.length_nil, List.length_replicate, List.length_set]; omega) | (simp; omega)) .here ⟨Inc.nil, ?_⟩))
    refine Aw_q 7 rfl (by kernel_rfl) (by kernel_rfl) (by kernel_rfl) rfl rfl rfl (Qt_assign rfl) ?_
    refine Aw_done (by kernel_rfl) ?_
    refine Cw_seq ?_
    refine Cw_region ?_
    refine Ow_q rfl rfl rfl (Qt_move rfl) ?_
    refine Ow_q rfl rfl rfl (Qt_move rfl) ?_
    refine Ow_q rfl rfl rfl (Qt_len rfl rfl) ?_
    refine Ow_q rfl rfl rfl (Qt_move rfl) ?_
    refine Ow_q rfl rfl rfl (Qt_slice_lh (q := (L.take i ++ L.drop (i + 1)).length) (r := L.length) (size := 1) rfl rfl rfl rfl rfl rfl (by omega) (by omega) (by first | omega | (simp only [List.length_append, List.length_cons, List.length_nil, List.length_replicate, List.length_set]; omega) | (simp; omega)) (by first | omega | (simp only [List.length_append, List.length_cons, List.length_nil, List.length_replicate, List.length_set]; omega) | (simp; omega))) ?_
    refine Ow_cons rfl (OpW_clearTail (size := 1) rfl rfl rfl rfl rfl rfl (by first | decide | rfl | simp [Value.cells, Value.oneCell']) (.head _) (by first | omega | (simp only [List.length_append, List.length_cons, List.length_nil, List.length_replicate, List.length_set]; omega) | (simp; omega)) (by first | omega | (simp only [List.length_append, List.length_cons, List.length_nil, List.length_replicate, List.length_set]; omega) | (simp; omega)) ?_)
    refine Ow_nil ?_
    refine Cw_seq ?_
    refine Cw_region ?_
    refine Ow_q rfl rfl rfl (Qt_move rfl) ?_
    refine Ow_q rfl rfl rfl (Qt_assign rfl) ?_
    refine Ow_nil ?_
    refine Cw_ret ?_
    refine ⟨(by first | exact .inl rfl | exact .inr rfl), [(.slice (some a) ((L.take i ++ L.drop (i + 1)).length) cp)], .row (.slice (some a) ((L.take i ++ L.drop (i + 1)).length) cp) 3 1 ((((L.take i ++ L.drop (i + 1))).map i64c).flatten) :: G, ⟨(.slice (some a) ((L.take i ++ L.drop (i + 1)).length) cp), _, rfl, rfl, rfl⟩, .cons_cons _ (.refl _), ?_⟩
    first | (exfalso; omega) | exact ⟨rfl, rfl, rfl⟩

theorem c_word (m : Mem) (n : Int) (r : Option Int) (hr : getI m.words.l n = r) (K : Kp) (G : List Ent) (hm : MemOk K m) :
    Fc Try.prog 53 #[(Mem.val m), (.int .i64 n)] K G (fun v K' G' => v = .tuple #[.int .u64 (r.getD 0), .bool r.isSome] ∧ K' = K ∧ G' = G) := by
  refine Fc_of Try.func53 rfl Try.ntmps53 Try.results53 rfl ?_
  have hmw := Sl.le hm.w
  have hml := Sl.le hm.l
  have hmzw := hm.zw
  have hmzl := hm.zl
  refine Cw_seq ?_
  refine Cw_region ?_
  refine Ow_cons rfl (OpW_box (cs := [(.slice m.words.A m.words.l.length m.words.cp), (.slice m.lists.A m.lists.l.length m.lists.cp), (.int .i64 m.tick)]) rfl rfl rfl (fun b1 => ?_))
  refine Ow_q rfl rfl rfl (Qt_assign rfl) ?_
  refine Ow_q rfl rfl rfl (Qt_assign rfl) ?_
  refine Ow_nil ?_
  refine Cw_seq ?_
  refine Cw_seq ?_
  refine Cw_region ?_
  refine Ow_q rfl rfl rfl (Qt_move rfl) ?_
  refine Ow_q rfl rfl rfl (Qt_cmp rfl rfl rfl) ?_
  refine Ow_q rfl rfl rfl (Qt_move rfl) ?_
  refine Ow_caseG rfl rfl rfl ?_ ?_
  · intro h2
    have h2 := dcd_t (h2)
    refine Ow_pass rfl rfl rfl rfl rfl rfl rfl ?_
    refine Ow_pass rfl rfl rfl rfl rfl rfl rfl ?_
    refine Ow_pass rfl rfl rfl rfl rfl rfl rfl ?_
    refine Ow_pass rfl rfl rfl rfl rfl rfl rfl ?_
    refine Ow_pass rfl rfl rfl rfl rfl rfl rfl ?_
    refine Ow_q rfl rfl rfl (Qt_pick_t rfl rfl) ?_
    refine Ow_nil ?_
    refine Cw_cond_t rfl ?_
    refine Cw_seq ?_
    refine Cw_region ?_
    refine Ow_q rfl rfl rfl (Qt_assign rfl) ?_
    refine Ow_q rfl rfl rfl (Qt_assign rfl) ?_
    refine Ow_nil ?_
    refine Cw_ret ?_
    refine ⟨(by first | exact .inl rfl | exact .inr rfl), [(.int .u64 0), (.bool false)], G, ⟨(.int .u64 0), _, rfl, rfl, ⟨(.bool false), _, rfl, rfl, rfl⟩⟩, .cons _ (.refl _), ?_⟩
    have q := getI_none (l := m.words.l) (n := n) (by omega)
    rw [q] at hr; subst hr; exact ⟨by simp [mkRes], rfl, rfl⟩
  · intro h2
    have h2 := dcd_f (h2)
    refine Ow_qw rfl rfl rfl rfl rfl rfl (Qt_move rfl) ?_
    refine Ow_qw rfl rfl rfl rfl rfl rfl (Qt_fieldAddr (m := 0) rfl rfl rfl rfl rfl) ?_
    refine Ow_qw rfl rfl rfl rfl rfl rfl (Qt_load1 (v := (.slice m.words.A m.words.l.length m.words.cp)) rfl rfl rfl (Rdc.blk (.head _) rfl)) ?_
    refine Ow_qw rfl rfl rfl rfl rfl rfl (Qt_len rfl rfl) ?_
    refine Ow_qw rfl rfl rfl rfl rfl rfl (Qt_cmp rfl rfl rfl) ?_
    refine Ow_q rfl rfl rfl (Qt_pick_f rfl rfl) ?_
    refine Ow_nil ?_
    refine Cw_cond rfl ?_ ?_
    · intro h3
      have h3 := dcd_t (h3)
      refine Cw_seq ?_
      refine Cw_region ?_
      refine Ow_q rfl rfl rfl (Qt_assign rfl) ?_
      refine Ow_q rfl rfl rfl (Qt_assign rfl) ?_
      refine Ow_nil ?_
      refine Cw_ret ?_
      refine ⟨(by first | exact .inl rfl | exact .inr rfl), [(.int .u64 0), (.bool false)], G, ⟨(.int .u64 0), _, rfl, rfl, ⟨(.bool false), _, rfl, rfl, rfl⟩⟩, .cons _ (.refl _), ?_⟩
      have q := getI_none (l := m.words.l) (n := n) (by omega)
      rw [q] at hr; subst hr; exact ⟨by simp [mkRes], rfl, rfl⟩
    · intro h3
      have h3 := dcd_f (h3)
      refine Cw_skip ?_
      refine Cw_seq ?_
      refine Cw_region ?_
      refine Ow_q rfl rfl rfl (Qt_fieldAddr (m := 0) rfl rfl rfl rfl rfl) ?_
      refine Ow_q rfl rfl rfl (Qt_load1 (v := (.slice m.words.A m.words.l.length m.words.cp)) rfl rfl rfl (Rdc.blk (.head _) rfl)) ?_
      refine Ow_q rfl rfl rfl (Qt_move rfl) ?_
      obtain ⟨x4, hx5⟩ : ∃ x, m.words.l[(n).toNat]? = some x := ⟨_, List.getElem?_eq_getElem (by first | omega | (simp only [List.length_append, List.length_cons, List.length_nil, List.length_replicate, List.length_set]; omega) | (simp; omega))⟩
      refine Ow_q rfl rfl rfl (Qt_ixK (q := (n).toNat) rfl rfl rfl rfl rfl hm.w (by omega) (map_get hx5)) ?_
      refine Ow_q rfl rfl rfl (Qt_load1 (v := (.int .u64 x4)) rfl rfl rfl (Rdc.k (Sl.at hm.w (map_get hx5)) rfl)) ?_
      refine Ow_q rfl rfl rfl (Qt_assign rfl) ?_
      refine Ow_q rfl rfl rfl (Qt_assign rfl) ?_
      refine Ow_nil ?_
      refine Cw_ret ?_
      refine ⟨(by first | exact .inl rfl | exact .inr rfl), [(.int .u64 x4), (.bool true)], G, ⟨(.int .u64 x4), _, rfl, rfl, ⟨(.bool true), _, rfl, rfl, rfl⟩⟩, .cons _ (.refl _), ?_⟩
      have q := getI_of (l := m.words.l) (n := n) (by omega) hx5
      rw [q] at hr; subst hr; exact ⟨by simp [mkRes], rfl, rfl⟩

theorem c_wordR (m : Mem) (n : Int) (r : Option Int) (hr : getI m.words.l n = r) (K : Kp) (G : List Ent) (hm : MemOk K m) :
    Fc Try.prog 58 #[(Mem.val m), (.int .i64 n)] K G (fun v K' G' => v = .bool r.isSome ∧ K' = K ∧ G' = G) := by
  refine Fc_of Try.func58 rfl Try.ntmps58 Try.results58 rfl ?_
  have hmw := Sl.le hm.w
  have hml := Sl.le hm.l
  have hmzw := hm.zw
  have hmzl := hm.zl
  refine Cw_seq ?_
  refine Cw_region ?_
  refine Ow_cons rfl (OpW_box (cs := [(.slice m.words.A m.words.l.length m.words.cp), (.slice m.lists.A m.lists.l.length m.lists.cp), (.int .i64 m.tick)]) rfl rfl rfl (fun b1 => ?_))
  refine Ow_q rfl rfl rfl (Qt_assign rfl) ?_
  refine Ow_nil ?_
  refine Cw_seq ?_
  refine Cw_region ?_
  refine Ow_q rfl rfl rfl (Qt_move rfl) ?_
  refine Ow_q rfl rfl rfl (Qt_cmp rfl rfl rfl) ?_
  refine Ow_q rfl rfl rfl (Qt_move rfl) ?_
  refine Ow_caseG rfl rfl rfl ?_ ?_
  · intro h2
    have h2 := dcd_t (h2)
    refine Ow_qw rfl rfl rfl rfl rfl rfl (Qt_move rfl) ?_
    refine Ow_qw rfl rfl rfl rfl rfl rfl (Qt_fieldAddr (m := 0) rfl rfl rfl rfl rfl) ?_
    refine Ow_qw rfl rfl rfl rfl rfl rfl (Qt_load1 (v := (.slice m.words.A m.words.l.length m.words.cp)) rfl rfl rfl (Rdc.blk (.head _) rfl)) ?_
    refine Ow_qw rfl rfl rfl rfl rfl rfl (Qt_len rfl rfl) ?_
    refine Ow_qw rfl rfl rfl rfl rfl rfl (Qt_cmp rfl rfl rfl) ?_
    refine Ow_q rfl rfl rfl (Qt_pick_t rfl rfl) ?_
    refine Ow_q rfl rfl rfl (Qt_assign rfl) ?_
    refine Ow_nil ?_
    refine Cw_ret ?_
    refine ⟨(by first | exact .inl rfl | exact .inr rfl), [(.bool (dcd (n < ((m.words.l.length : Nat) : Int))))], G, ⟨(.bool (dcd (n < ((m.words.l.length : Nat) : Int)))), _, rfl, rfl, rfl⟩, .cons _ (.refl _), ?_⟩
    refine ⟨?_, rfl, rfl⟩
    by_cases hin : 0 ≤ n ∧ n < ((m.words.l.length : Nat) : Int)
    · obtain ⟨y, hy, _⟩ := getI_some hin
      rw [hy] at hr; subst hr; simp [mkRes, dcd_eq]; first | done | omega
    · have q := getI_none (l := m.words.l) (n := n) (by omega)
      rw [q] at hr; subst hr; simp [mkRes, dcd_eq]; first | done | omega
  · intro h2
    have h2 := dcd_f (h2)
    refine Ow_pass rfl rfl rfl rfl rfl rfl rfl ?_
    refine Ow_pass rfl rfl rfl rfl rfl rfl rfl ?_
    refine Ow_pass rfl rfl rfl rfl rfl rfl rfl ?_
    refine Ow_pass rfl rfl rfl rfl rfl rfl rfl ?_
    refine Ow_pass rfl rfl rfl rfl rfl rfl rfl ?_
    refine Ow_q rfl rfl rfl (Qt_pick_f rfl rfl) ?_
    refine Ow_q rfl rfl rfl (Qt_assign rfl) ?_
    refine Ow_nil ?_
    refine Cw_ret ?_
    refine ⟨(by first | exact .inl rfl | exact .inr rfl), [(.bool false)], G, ⟨(.bool false), _, rfl, rfl, rfl⟩, .cons _ (.refl _), ?_⟩
    refine ⟨?_, rfl, rfl⟩
    by_cases hin : 0 ≤ n ∧ n < ((m.words.l.length : Nat) : Int)
    · obtain ⟨y, hy, _⟩ := getI_some hin
      rw [hy] at hr; subst hr; simp [mkRes, dcd_eq]; first | done | omega
    · have q := getI_none (l := m.words.l) (n := n) (by omega)
      rw [q] at hr; subst hr; simp [mkRes, dcd_eq]; first | done | omega

theorem c_listR (m : Mem) (n : Int) (r : Option SI) (hr : getI m.lists.l n = r) (K : Kp) (G : List Ent) (hm : MemOk K m) :
    Fc Try.prog 55 #[(Mem.val m), (.int .i64 n)] K G (fun v K' G' => v = .bool r.isSome ∧ K' = K ∧ G' = G) := by
  refine Fc_of Try.func55 rfl Try.ntmps55 Try.results55 rfl ?_
  have hmw := Sl.le hm.w
  have hml := Sl.le hm.l
  have hmzw := hm.zw
  have hmzl := hm.zl
  refine Cw_seq ?_
  refine Cw_region ?_
  refine Ow_cons rfl (OpW_box (cs := [(.slice m.words.A m.words.l.length m.words.cp), (.slice m.lists.A m.lists.l.length m.lists.cp), (.int .i64 m.tick)]) rfl rfl rfl (fun b1 => ?_))
  refine Ow_q rfl rfl rfl (Qt_assign rfl) ?_
  refine Ow_nil ?_
  refine Cw_seq ?_
  refine Cw_region ?_
  refine Ow_q rfl rfl rfl (Qt_move rfl) ?_
  refine Ow_q rfl rfl rfl (Qt_cmp rfl rfl rfl) ?_
  refine Ow_q rfl rfl rfl (Qt_move rfl) ?_
  refine Ow_caseG rfl rfl rfl ?_ ?_
  · intro h2
    have h2 := dcd_t (h2)
    refine Ow_qw rfl rfl rfl rfl rfl rfl (Qt_move rfl) ?_
    refine Ow_qw rfl rfl rfl rfl rfl rfl (Qt_fieldAddr (m := 1) rfl rfl rfl rfl rfl) ?_
    refine Ow_qw rfl rfl rfl rfl rfl rfl (Qt_load1 (v := (.slice m.lists.A m.lists.l.length m.lists.cp)) rfl rfl rfl (Rdc.blk (.head _) rfl)) ?_
    refine Ow_qw rfl rfl rfl rfl rfl rfl (Qt_len rfl rfl) ?_
    refine Ow_qw rfl rfl rfl rfl rfl rfl (Qt_cmp rfl rfl rfl) ?_
    refine Ow_q rfl rfl rfl (Qt_pick_t rfl rfl) ?_
    refine Ow_q rfl rfl rfl (Qt_assign rfl) ?_
    refine Ow_nil ?_
    refine Cw_ret ?_
    refine ⟨(by first | exact .inl rfl | exact .inr rfl), [(.bool (dcd (n < ((m.lists.l.length : Nat) : Int))))], G, ⟨(.bool (dcd (n < ((m.lists.l.length : Nat) : Int)))), _, rfl, rfl, rfl⟩, .cons _ (.refl _), ?_⟩
    refine ⟨?_, rfl, rfl⟩
    by_cases hin : 0 ≤ n ∧ n < ((m.lists.l.length : Nat) : Int)
    · obtain ⟨y, hy, _⟩ := getI_some hin
      rw [hy] at hr; subst hr; simp [mkRes, dcd_eq]; first | done | omega
    · have q := getI_none (l := m.lists.l) (n := n) (by omega)
      rw [q] at hr; subst hr; simp [mkRes, dcd_eq]; first | done | omega
  · intro h2
    have h2 := dcd_f (h2)
    refine Ow_pass rfl rfl rfl rfl rfl rfl rfl ?_
    refine Ow_pass rfl rfl rfl rfl rfl rfl rfl ?_
    refine Ow_pass rfl rfl rfl rfl rfl rfl rfl ?_
    refine Ow_pass rfl rfl rfl rfl rfl rfl rfl ?_
    refine Ow_pass rfl rfl rfl rfl rfl rfl rfl ?_
    refine Ow_q rfl rfl rfl (Qt_pick_f rfl rfl) ?_
    refine Ow_q rfl rfl rfl (Qt_assign rfl) ?_
    refine Ow_nil ?_
    refine Cw_ret ?_
    refine ⟨(by first | exact .inl rfl | exact .inr rfl), [(.bool false)], G, ⟨(.bool false), _, rfl, rfl, rfl⟩, .cons _ (.refl _), ?_⟩
    refine ⟨?_, rfl, rfl⟩
    by_cases hin : 0 ≤ n ∧ n < ((m.lists.l.length : Nat) : Int)
    · obtain ⟨y, hy, _⟩ := getI_some hin
      rw [hy] at hr; subst hr; simp [mkRes, dcd_eq]; first | done | omega
    · have q := getI_none (l := m.lists.l) (n := n) (by omega)
      rw [q] at hr; subst hr; simp [mkRes, dcd_eq]; first | done | omega

theorem c_granted (m : Mem) (a : Access) (K : Kp) (G : List Ent) (hm : MemOk K m) :
    Fc Try.prog 36 #[(Mem.val m), (Access.val a)] K G (fun v K' G' => v = .bool (grantedS m.abs a) ∧ K' = K ∧ G' = G) := by
  refine Fc_of Try.func36 rfl Try.ntmps36 Try.results36 rfl ?_
  have hmw := Sl.le hm.w
  have hml := Sl.le hm.l
  have hmzw := hm.zw
  have hmzl := hm.zl
  refine Cw_seq ?_
  refine Cw_region ?_
  refine Ow_cons rfl (OpW_box (cs := [(.slice m.words.A m.words.l.length m.words.cp), (.slice m.lists.A m.lists.l.length m.lists.cp), (.int .i64 m.tick)]) rfl rfl rfl (fun b1 => ?_))
  refine Ow_cons rfl (OpW_box (cs := [(.int .i64 a.kind), (.int .i64 a.address), (.int .u64 a.old), (.int .u64 a.new), (.int .i64 a.until_)]) rfl rfl rfl (fun b2 => ?_))
  refine Ow_q rfl rfl rfl (Qt_assign rfl) ?_
  refine Ow_nil ?_
  refine Cw_seq ?_
  refine Cw_seq ?_
  refine Cw_region ?_
  refine Ow_q rfl rfl rfl (Qt_fieldAddr (m := 0) rfl rfl rfl rfl rfl) ?_
  refine Ow_q rfl rfl rfl (Qt_load1 (v := (.int .i64 a.kind)) rfl rfl rfl (Rdc.blk (.head _) rfl)) ?_
  refine Ow_q rfl rfl rfl (Qt_cmp rfl rfl rfl) ?_
  refine Ow_nil ?_
  refine Cw_cond rfl ?_ ?_
  · intro h3
    have h3 := dcd_f (nt_t (h3))
    refine Cw_seq ?_
    refine Cw_region ?_
    refine Ow_q rfl rfl rfl (Qt_fieldAddr (m := 0) rfl rfl rfl rfl rfl) ?_
    refine Ow_q rfl rfl rfl (Qt_load1 (v := (.int .i64 a.kind)) rfl rfl rfl (Rdc.blk (.head _) rfl)) ?_
    refine Ow_q rfl rfl rfl (Qt_cmp rfl rfl rfl) ?_
    refine Ow_q rfl rfl rfl (Qt_move rfl) ?_
    refine Ow_caseG rfl rfl rfl ?_ ?_
    · intro h4
      have h4 := dcd_t (h4)
      refine Ow_qw rfl rfl rfl rfl rfl rfl (Qt_fieldAddr (m := 0) rfl rfl rfl rfl rfl) ?_
      refine Ow_qw rfl rfl rfl rfl rfl rfl (Qt_load1 (v := (.int .i64 a.kind)) rfl rfl rfl (Rdc.blk (.head _) rfl)) ?_
      refine Ow_qw rfl rfl rfl rfl rfl rfl (Qt_cmp rfl rfl rfl) ?_
      refine Ow_q rfl rfl rfl (Qt_pick_t rfl rfl) ?_
      refine Ow_q rfl rfl rfl (Qt_assign rfl) ?_
      refine Ow_nil ?_
      refine Cw_ret ?_
      refine ⟨(by first | exact .inl rfl | exact .inr rfl), [(.bool (dcd (a.kind ≤ 9)))], G, ⟨(.bool (dcd (a.kind ≤ 9))), _, rfl, rfl, rfl⟩, .cons _ (.cons _ (.refl _)), ?_⟩
      exact ⟨by first | (simp_all [mkRes, grantedS, waitS, Mem.abs, dcd_eq]; done) | (exfalso; omega) | (simp [mkRes, grantedS, waitS, Mem.abs, dcd_eq, *]; done) | (simp [mkRes, grantedS, waitS, Mem.abs, dcd_eq, *]; exact decide_eq_decide.2 Iff.rfl) | (simp [mkRes, grantedS, waitS, Mem.abs, dcd_eq, *]; omega), rfl, rfl⟩
    · intro h4
      have h4 := dcd_f (h4)
      refine Ow_pass rfl rfl rfl rfl rfl rfl rfl ?_
      refine Ow_pass rfl rfl rfl rfl rfl rfl rfl ?_
      refine Ow_pass rfl rfl rfl rfl rfl rfl rfl ?_
      refine Ow_q rfl rfl rfl (Qt_pick_f rfl rfl) ?_
      refine Ow_q rfl rfl rfl (Qt_assign rfl) ?_
      refine Ow_nil ?_
      refine Cw_ret ?_
      refine ⟨(by first | exact .inl rfl | exact .inr rfl), [(.bool false)], G, ⟨(.bool false), _, rfl, rfl, rfl⟩, .cons _ (.cons _ (.refl _)), ?_⟩
      exact ⟨by first | (simp_all [mkRes, grantedS, waitS, Mem.abs, dcd_eq]; done) | (exfalso; omega) | (simp [mkRes, grantedS, waitS, Mem.abs, dcd_eq, *]; done) | (simp [mkRes, grantedS, waitS, Mem.abs, dcd_eq, *]; exact decide_eq_decide.2 Iff.rfl) | (simp [mkRes, grantedS, waitS, Mem.abs, dcd_eq, *]; omega), rfl, rfl⟩
  · intro h3
    have h3 := dcd_t (nt_f (h3))
    refine Cw_skip ?_
    refine Cw_seq ?_
    refine Cw_region ?_
    refine Ow_q rfl rfl rfl (Qt_loadA (m := 3) (cs := Mem.cells m) rfl rfl rfl rfl ⟨rfl, Rdc.blk (.tail _ (.head _)) rfl⟩) ?_
    refine Ow_q rfl rfl rfl (Qt_fieldAddr (m := 1) rfl rfl rfl rfl rfl) ?_
    refine Ow_q rfl rfl rfl (Qt_load1 (v := (.int .i64 a.address)) rfl rfl rfl (Rdc.blk (.head _) rfl)) ?_
    rcases hg6 : getI m.words.l a.address with _ | w5
    · skip
      have hb7 := getI_not hg6
      refine Ow_cons rfl (OpW_callP (v0 := (.tuple #[(.int .u64 0), (.bool false)])) rfl Try.call53 rfl rfl (c_word m a.address none hg6 _ _ hm) ?_)
      refine Ow_q rfl rfl rfl (Qt_move rfl) ?_
      refine Ow_q rfl rfl rfl (Qt_extract rfl rfl) ?_
      refine Ow_q rfl rfl rfl (Qt_extract rfl rfl) ?_
      refine Ow_q rfl rfl rfl (Qt_assign rfl) ?_
      refine Ow_q rfl rfl rfl (Qt_assign rfl) ?_
      refine Ow_nil ?_
      refine Cw_seq ?_
      refine Cw_region ?_
      refine Ow_q rfl rfl rfl (Qt_move rfl) ?_
      refine Ow_q rfl rfl rfl (Qt_not rfl) ?_
      refine Ow_q rfl rfl rfl (Qt_move rfl) ?_
      refine Ow_pass rfl rfl rfl rfl rfl rfl rfl ?_
      refine Ow_pass rfl rfl rfl rfl rfl rfl rfl ?_
      refine Ow_pass rfl rfl rfl rfl rfl rfl rfl ?_
      refine Ow_pass rfl rfl rfl rfl rfl rfl rfl ?_
      refine Ow_q rfl rfl rfl (Qt_pick_t rfl rfl) ?_
      refine Ow_q rfl rfl rfl (Qt_move rfl) ?_
      refine Ow_pass rfl rfl rfl rfl rfl rfl rfl ?_
      refine Ow_pass rfl rfl rfl rfl rfl rfl rfl ?_
      refine Ow_pass rfl rfl rfl rfl rfl rfl rfl ?_
      refine Ow_pass rfl rfl rfl rfl rfl rfl rfl ?_
      refine Ow_passU rfl rfl rfl rfl rfl ?_
      refine Ow_passU rfl rfl rfl rfl rfl ?_
      refine Ow_passU rfl rfl rfl rfl rfl ?_
      refine Ow_passU rfl rfl rfl rfl rfl ?_
      refine Ow_passU rfl rfl rfl rfl rfl ?_
      refine Ow_passU rfl rfl rfl rfl rfl ?_
      refine Ow_pass rfl rfl rfl rfl rfl rfl rfl ?_
      refine Ow_q rfl rfl rfl (Qt_pick_t rfl rfl) ?_
      refine Ow_q rfl rfl rfl (Qt_assign rfl) ?_
      refine Ow_nil ?_
      refine Cw_ret ?_
      refine ⟨(by first | exact .inl rfl | exact .inr rfl), [(.bool true)], G, ⟨(.bool true), _, rfl, rfl, rfl⟩, .cons _ (.cons _ (.refl _)), ?_⟩
      exact ⟨by first | (simp_all [mkRes, grantedS, waitS, Mem.abs, dcd_eq]; done) | (exfalso; omega) | (simp [mkRes, grantedS, waitS, Mem.abs, dcd_eq, *]; done) | (simp [mkRes, grantedS, waitS, Mem.abs, dcd_eq, *]; exact decide_eq_decide.2 Iff.rfl) | (simp [mkRes, grantedS, waitS, Mem.abs, dcd_eq, *]; omega), rfl, rfl⟩
    · skip
      have hb7 := getI_get hg6
      have hx8 := hb7.2.2
      have hb7 : 0 ≤ a.address ∧ a.address < ((m.words.l.length : Nat) : Int) := ⟨hb7.1, hb7.2.1⟩
      refine Ow_cons rfl (OpW_callP (v0 := (.tuple #[(.int .u64 w5), (.bool true)])) rfl Try.call53 rfl rfl (c_word m a.address (some w5) hg6 _ _ hm) ?_)
      refine Ow_q rfl rfl rfl (Qt_move rfl) ?_
      refine Ow_q rfl rfl rfl (Qt_extract rfl rfl) ?_
      refine Ow_q rfl rfl rfl (Qt_extract rfl rfl) ?_
      refine Ow_q rfl rfl rfl (Qt_assign rfl) ?_
      refine Ow_q rfl rfl rfl (Qt_assign rfl) ?_
      refine Ow_nil ?_
      refine Cw_seq ?_
      refine Cw_region ?_
      refine Ow_q rfl rfl rfl (Qt_move rfl) ?_
      refine Ow_q rfl rfl rfl (Qt_not rfl) ?_
      refine Ow_q rfl rfl rfl (Qt_move rfl) ?_
      refine Ow_qw rfl rfl rfl rfl rfl rfl (Qt_move rfl) ?_
      refine Ow_qw rfl rfl rfl rfl rfl rfl (Qt_fieldAddr (m := 2) rfl rfl rfl rfl rfl) ?_
      refine Ow_qw rfl rfl rfl rfl rfl rfl (Qt_load1 (v := (.int .u64 a.old)) rfl rfl rfl (Rdc.blk (.head _) rfl)) ?_
      refine Ow_qw rfl rfl rfl rfl rfl rfl (Qt_cmp rfl rfl rfl) ?_
      refine Ow_q rfl rfl rfl (Qt_pick_f rfl rfl) ?_
      refine Ow_q rfl rfl rfl (Qt_move rfl) ?_
      refine Ow_caseG rfl rfl rfl ?_ ?_
      · intro h9
        have h9 := dcd_f (nt_t (h9))
        refine Ow_pass rfl rfl rfl rfl rfl rfl rfl ?_
        refine Ow_pass rfl rfl rfl rfl rfl rfl rfl ?_
        refine Ow_pass rfl rfl rfl rfl rfl rfl rfl ?_
        refine Ow_pass rfl rfl rfl rfl rfl rfl rfl ?_
        refine Ow_passU rfl rfl rfl rfl rfl ?_
        refine Ow_passU rfl rfl rfl rfl rfl ?_
        refine Ow_passU rfl rfl rfl rfl rfl ?_
        refine Ow_passU rfl rfl rfl rfl rfl ?_
        refine Ow_passU rfl rfl rfl rfl rfl ?_
        refine Ow_passU rfl rfl rfl rfl rfl ?_
        refine Ow_pass rfl rfl rfl rfl rfl rfl rfl ?_
        refine Ow_q rfl rfl rfl (Qt_pick_t rfl rfl) ?_
        refine Ow_q rfl rfl rfl (Qt_assign rfl) ?_
        refine Ow_nil ?_
        refine Cw_ret ?_
        refine ⟨(by first | exact .inl rfl | exact .inr rfl), [(.bool true)], G, ⟨(.bool true), _, rfl, rfl, rfl⟩, .cons _ (.cons _ (.refl _)), ?_⟩
        exact ⟨by first | (simp_all [mkRes, grantedS, waitS, Mem.abs, dcd_eq]; done) | (exfalso; omega) | (simp [mkRes, grantedS, waitS, Mem.abs, dcd_eq, *]; done) | (simp [mkRes, grantedS, waitS, Mem.abs, dcd_eq, *]; exact decide_eq_decide.2 Iff.rfl) | (simp [mkRes, grantedS, waitS, Mem.abs, dcd_eq, *]; omega), rfl, rfl⟩
      · intro h9
        have h9 := dcd_t (nt_f (h9))
        refine Ow_qw rfl rfl rfl rfl rfl rfl (Qt_fieldAddr (m := 4) rfl rfl rfl rfl rfl) ?_
        refine Ow_qw rfl rfl rfl rfl rfl rfl (Qt_load1 (v := (.int .i64 a.until_)) rfl rfl rfl (Rdc.blk (.head _) rfl)) ?_
        refine Ow_qw rfl rfl rfl rfl rfl rfl (Qt_cmp rfl rfl rfl) ?_
        refine Ow_qw rfl rfl rfl rfl rfl rfl (Qt_move rfl) ?_
        refine Ow_caseG rfl rfl rfl ?_ ?_
        · intro h10
          have h10 := dcd_t (h10)
          refine Ow_qw rfl rfl rfl rfl rfl rfl (Qt_fieldAddr (m := 4) rfl rfl rfl rfl rfl) ?_
          refine Ow_qw rfl rfl rfl rfl rfl rfl (Qt_load1 (v := (.int .i64 a.until_)) rfl rfl rfl (Rdc.blk (.head _) rfl)) ?_
          refine Ow_qw rfl rfl rfl rfl rfl rfl (Qt_arith (e := IntKind.i64.wrap (a.until_ - 1)) rfl rfl rfl rfl) ?_
          refine Ow_qw rfl rfl rfl rfl rfl rfl (Qt_fieldAddr (m := 2) rfl rfl rfl rfl rfl) ?_
          refine Ow_qw rfl rfl rfl rfl rfl rfl (Qt_load1 (v := (.int .i64 m.tick)) rfl rfl rfl (Rdc.blk (.tail _ (.head _)) rfl)) ?_
          refine Ow_qw rfl rfl rfl rfl rfl rfl (Qt_cmp rfl rfl rfl) ?_
          refine Ow_qw rfl rfl rfl rfl rfl rfl (Qt_pick_t rfl rfl) ?_
          refine Ow_q rfl rfl rfl (Qt_pick_f rfl rfl) ?_
          refine Ow_q rfl rfl rfl (Qt_assign rfl) ?_
          refine Ow_nil ?_
          refine Cw_ret ?_
          refine ⟨(by first | exact .inl rfl | exact .inr rfl), [(.bool (dcd ((IntKind.i64.wrap (a.until_ - 1)) ≤ m.tick)))], G, ⟨(.bool (dcd ((IntKind.i64.wrap (a.until_ - 1)) ≤ m.tick))), _, rfl, rfl, rfl⟩, .cons _ (.cons _ (.refl _)), ?_⟩
          exact ⟨by first | (simp_all [mkRes, grantedS, waitS, Mem.abs, dcd_eq]; done) | (exfalso; omega) | (simp [mkRes, grantedS, waitS, Mem.abs, dcd_eq, *]; done) | (simp [mkRes, grantedS, waitS, Mem.abs, dcd_eq, *]; exact decide_eq_decide.2 Iff.rfl) | (simp [mkRes, grantedS, waitS, Mem.abs, dcd_eq, *]; omega), rfl, rfl⟩
        · intro h10
          have h10 := dcd_f (h10)
          refine Ow_pass rfl rfl rfl rfl rfl rfl rfl ?_
          refine Ow_pass rfl rfl rfl rfl rfl rfl rfl ?_
          refine Ow_pass rfl rfl rfl rfl rfl rfl rfl ?_
          refine Ow_pass rfl rfl rfl rfl rfl rfl rfl ?_
          refine Ow_pass rfl rfl rfl rfl rfl rfl rfl ?_
          refine Ow_pass rfl rfl rfl rfl rfl rfl rfl ?_
          refine Ow_qw rfl rfl rfl rfl rfl rfl (Qt_pick_f rfl rfl) ?_
          refine Ow_q rfl rfl rfl (Qt_pick_f rfl rfl) ?_
          refine Ow_q rfl rfl rfl (Qt_assign rfl) ?_
          refine Ow_nil ?_
          refine Cw_ret ?_
          refine ⟨(by first | exact .inl rfl | exact .inr rfl), [(.bool false)], G, ⟨(.bool false), _, rfl, rfl, rfl⟩, .cons _ (.cons _ (.refl _)), ?_⟩
          exact ⟨by first | (simp_all [mkRes, grantedS, waitS, Mem.abs, dcd_eq]; done) | (exfalso; omega) | (simp [mkRes, grantedS, waitS, Mem.abs, dcd_eq, *]; done) | (simp [mkRes, grantedS, waitS, Mem.abs, dcd_eq, *]; exact decide_eq_decide.2 Iff.rfl) | (simp [mkRes, grantedS, waitS, Mem.abs, dcd_eq, *]; omega), rfl, rfl⟩

theorem c_grantedR (m : Mem) (a : Access) (K : Kp) (G : List Ent) (hm : MemOk K m) :
    Fc Try.prog 37 #[(Mem.val m), (Access.val a)] K G (fun v K' G' => v = .bool (grantedS m.abs a) ∧ K' = K ∧ G' = G) := by
  refine Fc_of Try.func37 rfl Try.ntmps37 Try.results37 rfl ?_
  have hmw := Sl.le hm.w
  have hml := Sl.le hm.l
  have hmzw := hm.zw
  have hmzl := hm.zl
  refine Cw_seq ?_
  refine Cw_region ?_
  refine Ow_cons rfl (OpW_box (cs := [(.slice m.words.A m.words.l.length m.words.cp), (.slice m.lists.A m.lists.l.length m.lists.cp), (.int .i64 m.tick)]) rfl rfl rfl (fun b1 => ?_))
  refine Ow_cons rfl (OpW_box (cs := [(.int .i64 a.kind), (.int .i64 a.address), (.int .u64 a.old), (.int .u64 a.new), (.int .i64 a.until_)]) rfl rfl rfl (fun b2 => ?_))
  refine Ow_q rfl rfl rfl (Qt_assign rfl) ?_
  refine Ow_nil ?_
  refine Cw_seq ?_
  refine Cw_seq ?_
  refine Cw_region ?_
  refine Ow_q rfl rfl rfl (Qt_fieldAddr (m := 0) rfl rfl rfl rfl rfl) ?_
  refine Ow_q rfl rfl rfl (Qt_load1 (v := (.int .i64 a.kind)) rfl rfl rfl (Rdc.blk (.head _) rfl)) ?_
  refine Ow_q rfl rfl rfl (Qt_cmp rfl rfl rfl) ?_
  refine Ow_nil ?_
  refine Cw_cond rfl ?_ ?_
  · intro h3
    have h3 := dcd_t (h3)
    refine Cw_seq ?_
    refine Cw_region_any [.blk b2 24 [(.int .i64 a.kind), (.int .i64 a.address), (.int .u64 a.old), (.int .u64 a.new), (.int .i64 a.until_)], .blk b1 49 [(.slice m.words.A m.words.l.length m.words.cp), (.slice m.lists.A m.lists.l.length m.lists.cp), (.int .i64 m.tick)]] rfl (Inc.cons (.head _) (Inc.cons (.tail _ (.head _)) Inc.nil)) ?_
    refine Aw_q 0 rfl (by kernel_rfl) (by kernel_rfl) (by kernel_rfl) rfl rfl rfl (Qt_loadA (m := 3) (cs := Mem.cells m) rfl rfl rfl rfl ⟨rfl, Rdc.blk (.tail _ (.head _)) rfl⟩) ?_
    refine Aw_q 1 rfl (by kernel_rfl) (by kernel_rfl) (by kernel_rfl) rfl rfl rfl (Qt_fieldAddr (m := 1) rfl rfl rfl rfl rfl) ?_
    refine Aw_q 2 rfl (by kernel_rfl) (by kernel_rfl) (by kernel_rfl) rfl rfl rfl (Qt_load1 (v := (.int .i64 a.address)) rfl rfl rfl (Rdc.blk (.head _) rfl)) ?_
    rcases hg5 : getI m.words.l a.address with _ | w4
    · skip
      have hb6 := getI_not hg5
      refine Aw_one 3 (by kernel_rfl) (Ax_mk rfl rfl (OpW_callP (v0 := (.bool false)) rfl Try.call58 rfl rfl (c_wordR m a.address none hg5 _ _ hm) ⟨(Inc.cons (.head _) (Inc.cons (.tail _ (.head _)) Inc.nil)), ?_⟩))
      refine Aw_q 4 rfl (by kernel_rfl) (by kernel_rfl) (by kernel_rfl) rfl rfl rfl (Qt_not rfl) ?_
      refine Aw_q 5 rfl (by kernel_rfl) (by kernel_rfl) (by kernel_rfl) rfl rfl rfl (Qt_move rfl) ?_
      refine Aw_pass 6 rfl (by kernel_rfl) (by kernel_rfl) (by kernel_rfl) rfl rfl rfl rfl rfl rfl rfl ?_
      refine Aw_pass 7 rfl (by kernel_rfl) (by kernel_rfl) (by kernel_rfl) rfl rfl rfl rfl rfl rfl rfl ?_
      refine Aw_pass 8 rfl (by kernel_rfl) (by kernel_rfl) (by kernel_rfl) rfl rfl rfl rfl rfl rfl rfl ?_
      refine Aw_pass 9 rfl (by kernel_rfl) (by kernel_rfl) (by kernel_rfl) rfl rfl rfl rfl rfl rfl rfl ?_
      refine Aw_pass 10 rfl (by kernel_rfl) (by kernel_rfl) (by kernel_rfl) rfl rfl rfl rfl rfl rfl rfl ?_
      refine Aw_pass 11 rfl (by kernel_rfl) (by kernel_rfl) (by kernel_rfl) rfl rfl rfl rfl rfl rfl rfl ?_
      refine Aw_pass 12 rfl (by kernel_rfl) (by kernel_rfl) (by kernel_rfl) rfl rfl rfl rfl rfl rfl rfl ?_
      refine Aw_pass 13 rfl (by kernel_rfl) (by kernel_rfl) (by kernel_rfl) rfl rfl rfl rfl rfl rfl rfl ?_
      refine Aw_pass 14 rfl (by kernel_rfl) (by kernel_rfl) (by kernel_rfl) rfl rfl rfl rfl rfl rfl rfl ?_
      refine Aw_q 15 rfl (by kernel_rfl) (by kernel_rfl) (by kernel_rfl) rfl rfl rfl (Qt_pick_t rfl rfl) ?_
      refine Aw_q 16 rfl (by kernel_rfl) (by kernel_rfl) (by kernel_rfl) rfl rfl rfl (Qt_move rfl) ?_
      refine Aw_pass 17 rfl (by kernel_rfl) (by kernel_rfl) (by kernel_rfl) rfl rfl rfl rfl rfl rfl rfl ?_
      refine Aw_pass 18 rfl (by kernel_rfl) (by kernel_rfl) (by kernel_rfl) rfl rfl rfl rfl rfl rfl rfl ?_
      refine Aw_pass 19 rfl (by kernel_rfl) (by kernel_rfl) (by kernel_rfl) rfl rfl rfl rfl rfl rfl rfl ?_
      refine Aw_pass 20 rfl (by kernel_rfl) (by kernel_rfl) (by kernel_rfl) rfl rfl rfl rfl rfl rfl rfl ?_
      refine Aw_passU 21 rfl (by kernel_rfl) (by kernel_rfl) (by kernel_rfl) rfl rfl rfl rfl rfl ?_
      refine Aw_passU 22 rfl (by kernel_rfl) (by kernel_rfl) (by kernel_rfl) rfl rfl rfl rfl rfl ?_
      refine Aw_passU 23 rfl (by kernel_rfl) (by kernel_rfl) (by kernel_rfl) rfl rfl rfl rfl rfl ?_
      refine Aw_passU 24 rfl (by kernel_rfl) (by kernel_rfl) (by kernel_rfl) rfl rfl rfl rfl rfl ?_
      refine Aw_passU 25 rfl (by kernel_rfl) (by kernel_rfl) (by kernel_rfl) rfl rfl rfl rfl rfl ?_
      refine Aw_passU 26 rfl (by kernel_rfl) (by kernel_rfl) (by kernel_rfl) rfl rfl rfl rfl rfl ?_
      refine Aw_pass 27 rfl (by kernel_rfl) (by kernel_rfl) (by kernel_rfl) rfl rfl rfl rfl rfl rfl rfl ?_
      refine Aw_q 28 rfl (by kernel_rfl) (by kernel_rfl) (by kernel_rfl) rfl rfl rfl (Qt_pick_t rfl rfl) ?_
      refine Aw_q 29 rfl (by kernel_rfl) (by kernel_rfl) (by kernel_rfl) rfl rfl rfl (Qt_assign rfl) ?_
      refine Aw_done (by kernel_rfl) ?_
      refine Cw_ret ?_
      refine ⟨(by first | exact .inl rfl | exact .inr rfl), [(.bool true)], G, ⟨(.bool true), _, rfl, rfl, rfl⟩, .cons _ (.cons _ (.refl _)), ?_⟩
      exact ⟨by first | (simp_all [mkRes, grantedS, waitS, Mem.abs, dcd_eq]; done) | (exfalso; omega) | (simp [mkRes, grantedS, waitS, Mem.abs, dcd_eq, *]; done) | (simp [mkRes, grantedS, waitS, Mem.abs, dcd_eq, *]; exact decide_eq_decide.2 Iff.rfl) | (simp [mkRes, grantedS, waitS, Mem.abs, dcd_eq, *]; omega), rfl, rfl⟩
    · skip
      have hb6 := getI_get hg5
      have hx7 := hb6.2.2
      have hb6 : 0 ≤ a.address ∧ a.address < ((m.words.l.length : Nat) : Int) := ⟨hb6.1, hb6.2.1⟩
      refine Aw_one 3 (by kernel_rfl) (Ax_mk rfl rfl (OpW_callP (v0 := (.bool true)) rfl Try.call58 rfl rfl (c_wordR m a.address (some w4) hg5 _ _ hm) ⟨(Inc.cons (.head _) (Inc.cons (.tail _ (.head _)) Inc.nil)), ?_⟩))
      refine Aw_q 4 rfl (by kernel_rfl) (by kernel_rfl) (by kernel_rfl) rfl rfl rfl (Qt_not rfl) ?_
      refine Aw_q 5 rfl (by kernel_rfl) (by kernel_rfl) (by kernel_rfl) rfl rfl rfl (Qt_move rfl) ?_
      refine Aw_qw 6 rfl (by kernel_rfl) (by kernel_rfl) (by kernel_rfl) rfl rfl rfl rfl rfl rfl (Qt_fieldAddr (m := 0) rfl rfl rfl rfl rfl) ?_
      refine Aw_qw 7 rfl (by kernel_rfl) (by kernel_rfl) (by kernel_rfl) rfl rfl rfl rfl rfl rfl (Qt_load1 (v := (.slice m.words.A m.words.l.length m.words.cp)) rfl rfl rfl (Rdc.blk (.tail _ (.head _)) rfl)) ?_
      refine Aw_qw 8 rfl (by kernel_rfl) (by kernel_rfl) (by kernel_rfl) rfl rfl rfl rfl rfl rfl (Qt_fieldAddr (m := 1) rfl rfl rfl rfl rfl) ?_
      refine Aw_qw 9 rfl (by kernel_rfl) (by kernel_rfl) (by kernel_rfl) rfl rfl rfl rfl rfl rfl (Qt_load1 (v := (.int .i64 a.address)) rfl rfl rfl (Rdc.blk (.head _) rfl)) ?_
      refine Aw_qw 10 rfl (by kernel_rfl) (by kernel_rfl) (by kernel_rfl) rfl rfl rfl rfl rfl rfl (Qt_ixK (q := (a.address).toNat) rfl rfl rfl rfl rfl hm.w (by omega) (map_get hx7)) ?_
      refine Aw_qw 11 rfl (by kernel_rfl) (by kernel_rfl) (by kernel_rfl) rfl rfl rfl rfl rfl rfl (Qt_load1 (v := (.int .u64 w4)) rfl rfl rfl (Rdc.k (Sl.at hm.w (map_get hx7)) rfl)) ?_
      refine Aw_qw 12 rfl (by kernel_rfl) (by kernel_rfl) (by kernel_rfl) rfl rfl rfl rfl rfl rfl (Qt_fieldAddr (m := 2) rfl rfl rfl rfl rfl) ?_
      refine Aw_qw 13 rfl (by kernel_rfl) (by kernel_rfl) (by kernel_rfl) rfl rfl rfl rfl rfl rfl (Qt_load1 (v := (.int .u64 a.old)) rfl rfl rfl (Rdc.blk (.head _) rfl)) ?_
      refine Aw_qw 14 rfl (by kernel_rfl) (by kernel_rfl) (by kernel_rfl) rfl rfl rfl rfl rfl rfl (Qt_cmp rfl rfl rfl) ?_
      refine Aw_q 15 rfl (by kernel_rfl) (by kernel_rfl) (by kernel_rfl) rfl rfl rfl (Qt_pick_f rfl rfl) ?_
      refine Aw_q 16 rfl (by kernel_rfl) (by kernel_rfl) (by kernel_rfl) rfl rfl rfl (Qt_move rfl) ?_
      refine Aw.case (d := 24) rfl ?_ ?_
      · intro h8
        have h8 := dcd_f (nt_t (h8))
        refine Aw_pass 17 rfl (by kernel_rfl) (by kernel_rfl) (by kernel_rfl) rfl rfl rfl rfl rfl rfl rfl ?_
        refine Aw_pass 18 rfl (by kernel_rfl) (by kernel_rfl) (by kernel_rfl) rfl rfl rfl rfl rfl rfl rfl ?_
        refine Aw_pass 19 rfl (by kernel_rfl) (by kernel_rfl) (by kernel_rfl) rfl rfl rfl rfl rfl rfl rfl ?_
        refine Aw_pass 20 rfl (by kernel_rfl) (by kernel_rfl) (by kernel_rfl) rfl rfl rfl rfl rfl rfl rfl ?_
        refine Aw_passU 21 rfl (by kernel_rfl) (by kernel_rfl) (by kernel_rfl) rfl rfl rfl rfl rfl ?_
        refine Aw_passU 22 rfl (by kernel_rfl) (by kernel_rfl) (by kernel_rfl) rfl rfl rfl rfl rfl ?_
        refine Aw_passU 23 rfl (by kernel_rfl) (by kernel_rfl) (by kernel_rfl) rfl rfl rfl rfl rfl ?_
        refine Aw_passU 24 rfl (by kernel_rfl) (by kernel_rfl) (by kernel_rfl) rfl rfl rfl rfl rfl ?_
        refine Aw_passU 25 rfl (by kernel_rfl) (by kernel_rfl) (by kernel_rfl) rfl rfl rfl rfl rfl ?_
        refine Aw_passU 26 rfl (by kernel_rfl) (by kernel_rfl) (by kernel_rfl) rfl rfl rfl rfl rfl ?_
        refine Aw_pass 27 rfl (by kernel_rfl) (by kernel_rfl) (by kernel_rfl) rfl rfl rfl rfl rfl rfl rfl ?_
        refine Aw_q 28 rfl (by kernel_rfl) (by kernel_rfl) (by kernel_rfl) rfl rfl rfl (Qt_pick_t rfl rfl) ?_
        refine Aw_q 29 rfl (by kernel_rfl) (by kernel_rfl) (by kernel_rfl) rfl rfl rfl (Qt_assign rfl) ?_
        refine Aw_done (by kernel_rfl) ?_
        refine Cw_ret ?_
        refine ⟨(by first | exact .inl rfl | exact .inr rfl), [(.bool true)], G, ⟨(.bool true), _, rfl, rfl, rfl⟩, .cons _ (.cons _ (.refl _)), ?_⟩
        exact ⟨by first | (simp_all [mkRes, grantedS, waitS, Mem.abs, dcd_eq]; done) | (exfalso; omega) | (simp [mkRes, grantedS, waitS, Mem.abs, dcd_eq, *]; done) | (simp [mkRes, grantedS, waitS, Mem.abs, dcd_eq, *]; exact decide_eq_decide.2 Iff.rfl) | (simp [mkRes, grantedS, waitS, Mem.abs, dcd_eq, *]; omega), rfl, rfl⟩
      · intro h8
        have h8 := dcd_t (nt_f (h8))
        refine Aw_qw 17 rfl (by kernel_rfl) (by kernel_rfl) (by kernel_rfl) rfl rfl rfl rfl rfl rfl (Qt_fieldAddr (m := 4) rfl rfl rfl rfl rfl) ?_
        refine Aw_qw 18 rfl (by kernel_rfl) (by kernel_rfl) (by kernel_rfl) rfl rfl rfl rfl rfl rfl (Qt_load1 (v := (.int .i64 a.until_)) rfl rfl rfl (Rdc.blk (.head _) rfl)) ?_
        refine Aw_qw 19 rfl (by kernel_rfl) (by kernel_rfl) (by kernel_rfl) rfl rfl rfl rfl rfl rfl (Qt_cmp rfl rfl rfl) ?_
        refine Aw_qw 20 rfl (by kernel_rfl) (by kernel_rfl) (by kernel_rfl) rfl rfl rfl rfl rfl rfl (Qt_move rfl) ?_
        refine Aw.case (d := 28) rfl ?_ ?_
        · intro h9
          have h9 := dcd_t (h9)
          refine Aw_qw 21 rfl (by kernel_rfl) (by kernel_rfl) (by kernel_rfl) rfl rfl rfl rfl rfl rfl (Qt_fieldAddr (m := 4) rfl rfl rfl rfl rfl) ?_
          refine Aw_qw 22 rfl (by kernel_rfl) (by kernel_rfl) (by kernel_rfl) rfl rfl rfl rfl rfl rfl (Qt_load1 (v := (.int .i64 a.until_)) rfl rfl rfl (Rdc.blk (.head _) rfl)) ?_
          refine Aw_qw 23 rfl (by kernel_rfl) (by kernel_rfl) (by kernel_rfl) rfl rfl rfl rfl rfl rfl (Qt_arith (e := IntKind.i64.wrap (a.until_ - 1)) rfl rfl rfl rfl) ?_
          refine Aw_qw 24 rfl (by kernel_rfl) (by kernel_rfl) (by kernel_rfl) rfl rfl rfl rfl rfl rfl (Qt_fieldAddr (m := 2) rfl rfl rfl rfl rfl) ?_
          refine Aw_qw 25 rfl (by kernel_rfl) (by kernel_rfl) (by kernel_rfl) rfl rfl rfl rfl rfl rfl (Qt_load1 (v := (.int .i64 m.tick)) rfl rfl rfl (Rdc.blk (.tail _ (.head _)) rfl)) ?_
          refine Aw_qw 26 rfl (by kernel_rfl) (by kernel_rfl) (by kernel_rfl) rfl rfl rfl rfl rfl rfl (Qt_cmp rfl rfl rfl) ?_
          refine Aw_qw 27 rfl (by kernel_rfl) (by kernel_rfl) (by kernel_rfl) rfl rfl rfl rfl rfl rfl (Qt_pick_t rfl rfl) ?_
          refine Aw_q 28 rfl (by kernel_rfl) (by kernel_rfl) (by kernel_rfl) rfl rfl rfl (Qt_pick_f rfl rfl) ?_
          refine Aw_q 29 rfl (by kernel_rfl) (by kernel_rfl) (by kernel_rfl) rfl rfl rfl (Qt_assign rfl) ?_
          refine Aw_done (by kernel_rfl) ?_
          refine Cw_ret ?_
          refine ⟨(by first | exact .inl rfl | exact .inr rfl), [(.bool (dcd ((IntKind.i64.wrap (a.until_ - 1)) ≤ m.tick)))], G, ⟨(.bool (dcd ((IntKind.i64.wrap (a.until_ - 1)) ≤ m.tick))), _, rfl, rfl, rfl⟩, .cons _ (.cons _ (.refl _)), ?_⟩
          exact ⟨by first | (simp_all [mkRes, grantedS, waitS, Mem.abs, dcd_eq]; done) | (exfalso; omega) | (simp [mkRes, grantedS, waitS, Mem.abs, dcd_eq, *]; done) | (simp [mkRes, grantedS, waitS, Mem.abs, dcd_eq, *]; exact decide_eq_decide.2 Iff.rfl) | (simp [mkRes, grantedS, waitS, Mem.abs, dcd_eq, *]; omega), rfl, rfl⟩
        · intro h9
          have h9 := dcd_f (h9)
          refine Aw_pass 21 rfl (by kernel_rfl) (by kernel_rfl) (by kernel_rfl) rfl rfl rfl rfl rfl rfl rfl ?_
          refine Aw_pass 22 rfl (by kernel_rfl) (by kernel_rfl) (by kernel_rfl) rfl rfl rfl rfl rfl rfl rfl ?_
          refine Aw_pass 23 rfl (by kernel_rfl) (by kernel_rfl) (by kernel_rfl) rfl rfl rfl rfl rfl rfl rfl ?_
          refine Aw_pass 24 rfl (by kernel_rfl) (by kernel_rfl) (by kernel_rfl) rfl rfl rfl rfl rfl rfl rfl ?_
          refine Aw_pass 25 rfl (by kernel_rfl) (by kernel_rfl) (by kernel_rfl) rfl rfl rfl rfl rfl rfl rfl ?_
          refine Aw_pass 26 rfl (by kernel_rfl) (by kernel_rfl) (by kernel_rfl) rfl rfl rfl rfl rfl rfl rfl ?_
          refine Aw_qw 27 rfl (by kernel_rfl) (by kernel_rfl) (by kernel_rfl) rfl rfl rfl rfl rfl rfl (Qt_pick_f rfl rfl) ?_
          refine Aw_q 28 rfl (by kernel_rfl) (by kernel_rfl) (by kernel_rfl) rfl rfl rfl (Qt_pick_f rfl rfl) ?_
          refine Aw_q 29 rfl (by kernel_rfl) (by kernel_rfl) (by kernel_rfl) rfl rfl rfl (Qt_assign rfl) ?_
          refine Aw_done (by kernel_rfl) ?_
          refine Cw_ret ?_
          refine ⟨(by first | exact .inl rfl | exact .inr rfl), [(.bool false)], G, ⟨(.bool false), _, rfl, rfl, rfl⟩, .cons _ (.cons _ (.refl _)), ?_⟩
          exact ⟨by first | (simp_all [mkRes, grantedS, waitS, Mem.abs, dcd_eq]; done) | (exfalso; omega) | (simp [mkRes, grantedS, waitS, Mem.abs, dcd_eq, *]; done) | (simp [mkRes, grantedS, waitS, Mem.abs, dcd_eq, *]; exact decide_eq_decide.2 Iff.rfl) | (simp [mkRes, grantedS, waitS, Mem.abs, dcd_eq, *]; omega), rfl, rfl⟩
  · intro h3
    have h3 := dcd_f (h3)
    refine Cw_skip ?_
    refine Cw_seq ?_
    refine Cw_region ?_
    refine Ow_q rfl rfl rfl (Qt_fieldAddr (m := 0) rfl rfl rfl rfl rfl) ?_
    refine Ow_q rfl rfl rfl (Qt_load1 (v := (.int .i64 a.kind)) rfl rfl rfl (Rdc.blk (.head _) rfl)) ?_
    refine Ow_q rfl rfl rfl (Qt_cmp rfl rfl rfl) ?_
    refine Ow_q rfl rfl rfl (Qt_move rfl) ?_
    refine Ow_caseG rfl rfl rfl ?_ ?_
    · intro h10
      have h10 := dcd_t (h10)
      refine Ow_qw rfl rfl rfl rfl rfl rfl (Qt_fieldAddr (m := 0) rfl rfl rfl rfl rfl) ?_
      refine Ow_qw rfl rfl rfl rfl rfl rfl (Qt_load1 (v := (.int .i64 a.kind)) rfl rfl rfl (Rdc.blk (.head _) rfl)) ?_
      refine Ow_qw rfl rfl rfl rfl rfl rfl (Qt_cmp rfl rfl rfl) ?_
      refine Ow_q rfl rfl rfl (Qt_pick_t rfl rfl) ?_
      refine Ow_q rfl rfl rfl (Qt_assign rfl) ?_
      refine Ow_nil ?_
      refine Cw_ret ?_
      refine ⟨(by first | exact .inl rfl | exact .inr rfl), [(.bool (dcd (a.kind ≤ 9)))], G, ⟨(.bool (dcd (a.kind ≤ 9))), _, rfl, rfl, rfl⟩, .cons _ (.cons _ (.refl _)), ?_⟩
      exact ⟨by first | (simp_all [mkRes, grantedS, waitS, Mem.abs, dcd_eq]; done) | (exfalso; omega) | (simp [mkRes, grantedS, waitS, Mem.abs, dcd_eq, *]; done) | (simp [mkRes, grantedS, waitS, Mem.abs, dcd_eq, *]; exact decide_eq_decide.2 Iff.rfl) | (simp [mkRes, grantedS, waitS, Mem.abs, dcd_eq, *]; omega), rfl, rfl⟩
    · intro h10
      have h10 := dcd_f (h10)
      refine Ow_pass rfl rfl rfl rfl rfl rfl rfl ?_
      refine Ow_pass rfl rfl rfl rfl rfl rfl rfl ?_
      refine Ow_pass rfl rfl rfl rfl rfl rfl rfl ?_
      refine Ow_q rfl rfl rfl (Qt_pick_f rfl rfl) ?_
      refine Ow_q rfl rfl rfl (Qt_assign rfl) ?_
      refine Ow_nil ?_
      refine Cw_ret ?_
      refine ⟨(by first | exact .inl rfl | exact .inr rfl), [(.bool false)], G, ⟨(.bool false), _, rfl, rfl, rfl⟩, .cons _ (.cons _ (.refl _)), ?_⟩
      exact ⟨by first | (simp_all [mkRes, grantedS, waitS, Mem.abs, dcd_eq]; done) | (exfalso; omega) | (simp [mkRes, grantedS, waitS, Mem.abs, dcd_eq, *]; done) | (simp [mkRes, grantedS, waitS, Mem.abs, dcd_eq, *]; exact decide_eq_decide.2 Iff.rfl) | (simp [mkRes, grantedS, waitS, Mem.abs, dcd_eq, *]; omega), rfl, rfl⟩

end Go.Ghl
