/- Contracts of functions, walked: printed by program. -/
import Derived.Test.YtgkmiemclhaahaaProg
import Derived.Test.YtgkmiemclhaahaaGhlMore
import Derived.Test.YtgkmiemclhaahaaSABase
namespace Go.Ghl
open Go.Proofs
set_option linter.unusedSimpArgs false
set_option linter.unusedVariables false

theorem c_same2 (A : Option Addr) (cp : Nat) (l : List Int) (B : Option Addr) (cq : Nat) (m : List Int) (K : Kp) (G : List Ent) (hl : Sl K (.slice A l.length cp) 1 (l.map i64c)) (hm : Sl K (.slice B m.length cq) 1 (m.map i64c)) :
    Fc Try.prog 41 #[(.slice A l.length cp), (.slice B m.length cq)] K G (fun v K' G' => v = .bool (decide (l = m)) ∧ K' = K ∧ G' = G) := by
  refine Fc_of Try.func41 rfl Try.ntmps41 Try.results41 rfl ?_
  have hll := Sl.le hl
  have hml := Sl.le hm
  refine Cw_seq ?_
  refine Cw_region ?_
  refine Ow_q rfl rfl rfl (Qt_assign rfl) ?_
  refine Ow_nil ?_
  refine Cw_seq ?_
  refine Cw_seq ?_
  refine Cw_region ?_
  refine Ow_q rfl rfl rfl (Qt_move rfl) ?_
  refine Ow_q rfl rfl rfl (Qt_len rfl rfl) ?_
  refine Ow_q rfl rfl rfl (Qt_move rfl) ?_
  refine Ow_q rfl rfl rfl (Qt_len rfl rfl) ?_
  refine Ow_q rfl rfl rfl (Qt_cmp rfl rfl rfl) ?_
  refine Ow_nil ?_
  refine Cw_cond rfl ?_ ?_
  · intro h1
    have h1 := dcd_f (nt_t (h1))
    refine Cw_seq ?_
    refine Cw_region ?_
    refine Ow_q rfl rfl rfl (Qt_assign rfl) ?_
    refine Ow_nil ?_
    refine Cw_ret ?_
    refine ⟨(by first | exact .inl rfl | exact .inr rfl), [(.bool false)], G, ⟨(.bool false), _, rfl, rfl, rfl⟩, .refl _, ?_⟩
    exact ⟨by simp only [mkRes]; congr 1; refine (decide_eq_false ?_).symm; rintro rfl; simp_all, rfl, rfl⟩
  · intro h1
    have h1 := dcd_t (nt_f (h1))
    refine Cw_skip ?_
    refine Cw_seq ?_
    refine Cw_seq ?_
    refine Cw_region ?_
    refine Ow_q rfl rfl rfl (Qt_assign rfl) ?_
    refine Ow_nil ?_
    refine Cw_block ?_
    refine Cw_loop (S := Nat) (fun s env' K' G' => ∃ (k : Nat), l.length - k = s ∧ [(0, (.slice A l.length cp)), (1, (.slice B m.length cq)), (5, (.int .i64 ((k : Nat) : Int)))] = env' ∧ K = K' ∧ G = G' ∧ k ≤ l.length ∧ ∀ j, j < k → l[j]? = m[j]?) (fun s => s) (l.length - 0) [(0, (.slice A l.length cp)), (1, (.slice B m.length cq)), (5, (.int .i64 ((0 : Nat) : Int)))] (G)
      ⟨0, rfl, rfl, rfl, rfl, (Nat.zero_le _), (fun j h => absurd h (by omega))⟩ ⟨rfl, rfl, rfl, trivial⟩ (.refl _) ?_
    rintro s _ _ _ - ⟨k, rfl, rfl, rfl, rfl, hk, hj⟩
    refine Cw_seq ?_
    refine Cw_seq ?_
    refine Cw_region ?_
    refine Ow_q rfl rfl rfl (Qt_move rfl) ?_
    refine Ow_q rfl rfl rfl (Qt_move rfl) ?_
    refine Ow_q rfl rfl rfl (Qt_len rfl rfl) ?_
    refine Ow_q rfl rfl rfl (Qt_cmp rfl rfl rfl) ?_
    refine Ow_nil ?_
    refine Cw_cond rfl ?_ ?_
    · intro h2
      have h2 := dcd_t (h2)
      refine Cw_skip ?_
      refine Cw_seq ?_
      refine Cw_block ?_
      refine Cw_seq ?_
      refine Cw_region_any [] rfl Inc.nil ?_
      refine Aw_q 0 rfl (by kernel_rfl) (by kernel_rfl) (by kernel_rfl) rfl rfl rfl (Qt_move rfl) ?_
      refine Aw_q 1 rfl (by kernel_rfl) (by kernel_rfl) (by kernel_rfl) rfl rfl rfl (Qt_move rfl) ?_
      obtain ⟨x3, hx4⟩ : ∃ x, l[k]? = some x := ⟨_, List.getElem?_eq_getElem (by first | omega | (simp only [List.length_append, List.length_cons, List.length_nil, List.length_replicate, List.length_set]; omega) | (simp; omega))⟩
      refine Aw_q 2 rfl (by kernel_rfl) (by kernel_rfl) (by kernel_rfl) rfl rfl rfl (Qt_ixK (q := k) rfl rfl rfl rfl rfl hl rfl (map_get hx4)) ?_
      refine Aw_q 3 rfl (by kernel_rfl) (by kernel_rfl) (by kernel_rfl) rfl rfl rfl (Qt_load1 (v := (.int .i64 x3)) rfl rfl rfl (Rdc.k (Sl.at hl (map_get hx4)) rfl)) ?_
      refine Aw_q 4 rfl (by kernel_rfl) (by kernel_rfl) (by kernel_rfl) rfl rfl rfl (Qt_move rfl) ?_
      refine Aw_q 5 rfl (by kernel_rfl) (by kernel_rfl) (by kernel_rfl) rfl rfl rfl (Qt_move rfl) ?_
      obtain ⟨x5, hx6⟩ : ∃ x, m[k]? = some x := ⟨_, List.getElem?_eq_getElem (by first | omega | (simp only [List.length_append, List.length_cons, List.length_nil, List.length_replicate, List.length_set]; omega) | (simp; omega))⟩
      refine Aw_q 6 rfl (by kernel_rfl) (by kernel_rfl) (by kernel_rfl) rfl rfl rfl (Qt_ixK (q := k) rfl rfl rfl rfl rfl hm rfl (map_get hx6)) ?_
      refine Aw_q 7 rfl (by kernel_rfl) (by kernel_rfl) (by kernel_rfl) rfl rfl rfl (Qt_load1 (v := (.int .i64 x5)) rfl rfl rfl (Rdc.k (Sl.at hm (map_get hx6)) rfl)) ?_
      refine Aw_q 8 rfl (by kernel_rfl) (by kernel_rfl) (by kernel_rfl) rfl rfl rfl (Qt_cmp rfl rfl rfl) ?_
      refine Aw_done (by kernel_rfl) ?_
      refine Cw_cond rfl ?_ ?_
      · intro h7
        have h7 := dcd_f (nt_t (h7))
        refine Cw_seq ?_
        refine Cw_region ?_
        refine Ow_q rfl rfl rfl (Qt_assign rfl) ?_
        refine Ow_nil ?_
        refine Cw_ret ?_
        refine ⟨(by first | exact .inl rfl | exact .inr rfl), [(.bool false)], G, ⟨(.bool false), _, rfl, rfl, rfl⟩, .refl _, ?_⟩
        exact ⟨by simp only [mkRes]; congr 1; refine (decide_eq_false ?_).symm; rintro rfl; rw [hx4] at hx6; cases hx6; simp_all, rfl, rfl⟩
      · intro h7
        have h7 := dcd_t (nt_f (h7))
        refine Cw_skip ?_
        refine Cw_region ?_
        refine Ow_q rfl rfl rfl (Qt_move rfl) ?_
        refine Ow_q rfl rfl rfl (Qt_arith (e := (((k : Nat) : Int) + 1)) rfl rfl rfl (wrap_eq (by omega) (by omega))) ?_
        refine Ow_q rfl rfl rfl (Qt_assign rfl) ?_
        refine Ow_nil ?_
        refine ⟨_, [(0, (.slice A l.length cp)), (1, (.slice B m.length cq)), (5, (.int .i64 (((k + 1) : Nat) : Int)))], G, ⟨rfl, rfl, rfl, trivial⟩, (.refl _), (by first | omega | (simp only [List.length_append, List.length_cons, List.length_nil]; omega)), (k + 1), rfl, rfl, rfl, rfl, (by omega), (same_step hj (by rw [hx4, hx6]; simp [*]))⟩
    · intro h2
      have h2 := dcd_f (h2)
      refine Cw_exit ?_
      refine Cw_seq ?_
      refine Cw_region ?_
      refine Ow_q rfl rfl rfl (Qt_assign rfl) ?_
      refine Ow_nil ?_
      refine Cw_ret ?_
      refine ⟨(by first | exact .inl rfl | exact .inr rfl), [(.bool true)], G, ⟨(.bool true), _, rfl, rfl, rfl⟩, .refl _, ?_⟩
      exact ⟨by simp only [mkRes]; congr 1; exact (decide_eq_true (same_end hj (by omega) (by omega))).symm, rfl, rfl⟩

theorem c_sameW (A : Option Addr) (cp : Nat) (l : List Int) (B : Option Addr) (cq : Nat) (m : List Int) (K : Kp) (G : List Ent) (hl : Sl K (.slice A l.length cp) 1 (l.map u64c)) (hm : Sl K (.slice B m.length cq) 1 (m.map u64c)) :
    Fc Try.prog 60 #[(.slice A l.length cp), (.slice B m.length cq)] K G (fun v K' G' => v = .bool (decide (l = m)) ∧ K' = K ∧ G' = G) := by
  refine Fc_of Try.func60 rfl Try.ntmps60 Try.results60 rfl ?_
  have hll := Sl.le hl
  have hml := Sl.le hm
  refine Cw_seq ?_
  refine Cw_region ?_
  refine Ow_q rfl rfl rfl (Qt_assign rfl) ?_
  refine Ow_nil ?_
  refine Cw_seq ?_
  refine Cw_seq ?_
  refine Cw_region ?_
  refine Ow_q rfl rfl rfl (Qt_move rfl) ?_
  refine Ow_q rfl rfl rfl (Qt_len rfl rfl) ?_
  refine Ow_q rfl rfl rfl (Qt_move rfl) ?_
  refine Ow_q rfl rfl rfl (Qt_len rfl rfl) ?_
  refine Ow_q rfl rfl rfl (Qt_cmp rfl rfl rfl) ?_
  refine Ow_nil ?_
  refine Cw_cond rfl ?_ ?_
  · intro h1
    have h1 := dcd_f (nt_t (h1))
    refine Cw_seq ?_
    refine Cw_region ?_
    refine Ow_q rfl rfl rfl (Qt_assign rfl) ?_
    refine Ow_nil ?_
    refine Cw_ret ?_
    refine ⟨(by first | exact .inl rfl | exact .inr rfl), [(.bool false)], G, ⟨(.bool false), _, rfl, rfl, rfl⟩, .refl _, ?_⟩
    exact ⟨by simp only [mkRes]; congr 1; refine (decide_eq_false ?_).symm; rintro rfl; simp_all, rfl, rfl⟩
  · intro h1
    have h1 := dcd_t (nt_f (h1))
    refine Cw_skip ?_
    refine Cw_seq ?_
    refine Cw_seq ?_
    refine Cw_region ?_
    refine Ow_q rfl rfl rfl (Qt_assign rfl) ?_
    refine Ow_nil ?_
    refine Cw_block ?_
    refine Cw_loop (S := Nat) (fun s env' K' G' => ∃ (k : Nat), l.length - k = s ∧ [(0, (.slice A l.length cp)), (1, (.slice B m.length cq)), (5, (.int .i64 ((k : Nat) : Int)))] = env' ∧ K = K' ∧ G = G' ∧ k ≤ l.length ∧ ∀ j, j < k → l[j]? = m[j]?) (fun s => s) (l.length - 0) [(0, (.slice A l.length cp)), (1, (.slice B m.length cq)), (5, (.int .i64 ((0 : Nat) : Int)))] (G)
      ⟨0, rfl, rfl, rfl, rfl, (Nat.zero_le _), (fun j h => absurd h (by omega))⟩ ⟨rfl, rfl, rfl, trivial⟩ (.refl _) ?_
    rintro s _ _ _ - ⟨k, rfl, rfl, rfl, rfl, hk, hj⟩
    refine Cw_seq ?_
    refine Cw_seq ?_
    refine Cw_region ?_
    refine Ow_q rfl rfl rfl (Qt_move rfl) ?_
    refine Ow_q rfl rfl rfl (Qt_move rfl) ?_
    refine Ow_q rfl rfl rfl (Qt_len rfl rfl) ?_
    refine Ow_q rfl rfl rfl (Qt_cmp rfl rfl rfl) ?_
    refine Ow_nil ?_
    refine Cw_cond rfl ?_ ?_
    · intro h2
      have h2 := dcd_t (h2)
      refine Cw_skip ?_
      refine Cw_seq ?_
      refine Cw_block ?_
      refine Cw_seq ?_
      refine Cw_region_any [] rfl Inc.nil ?_
      refine Aw_q 0 rfl (by kernel_rfl) (by kernel_rfl) (by kernel_rfl) rfl rfl rfl (Qt_move rfl) ?_
      refine Aw_q 1 rfl (by kernel_rfl) (by kernel_rfl) (by kernel_rfl) rfl rfl rfl (Qt_move rfl) ?_
      obtain ⟨x3, hx4⟩ : ∃ x, l[k]? = some x := ⟨_, List.getElem?_eq_getElem (by first | omega | (simp only [List.length_append, List.length_cons, List.length_nil, List.length_replicate, List.length_set]; omega) | (simp; omega))⟩
      refine Aw_q 2 rfl (by kernel_rfl) (by kernel_rfl) (by kernel_rfl) rfl rfl rfl (Qt_ixK (q := k) rfl rfl rfl rfl rfl hl rfl (map_get hx4)) ?_
      refine Aw_q 3 rfl (by kernel_rfl) (by kernel_rfl) (by kernel_rfl) rfl rfl rfl (Qt_load1 (v := (.int .u64 x3)) rfl rfl rfl (Rdc.k (Sl.at hl (map_get hx4)) rfl)) ?_
      refine Aw_q 4 rfl (by kernel_rfl) (by kernel_rfl) (by kernel_rfl) rfl rfl rfl (Qt_move rfl) ?_
      refine Aw_q 5 rfl (by kernel_rfl) (by kernel_rfl) (by kernel_rfl) rfl rfl rfl (Qt_move rfl) ?_
      obtain ⟨x5, hx6⟩ : ∃ x, m[k]? = some x := ⟨_, List.getElem?_eq_getElem (by first | omega | (simp only [List.length_append, List.length_cons, List.length_nil, List.length_replicate, List.length_set]; omega) | (simp; omega))⟩
      refine Aw_q 6 rfl (by kernel_rfl) (by kernel_rfl) (by kernel_rfl) rfl rfl rfl (Qt_ixK (q := k) rfl rfl rfl rfl rfl hm rfl (map_get hx6)) ?_
      refine Aw_q 7 rfl (by kernel_rfl) (by kernel_rfl) (by kernel_rfl) rfl rfl rfl (Qt_load1 (v := (.int .u64 x5)) rfl rfl rfl (Rdc.k (Sl.at hm (map_get hx6)) rfl)) ?_
      refine Aw_q 8 rfl (by kernel_rfl) (by kernel_rfl) (by kernel_rfl) rfl rfl rfl (Qt_cmp rfl rfl rfl) ?_
      refine Aw_done (by kernel_rfl) ?_
      refine Cw_cond rfl ?_ ?_
      · intro h7
        have h7 := dcd_f (nt_t (h7))
        refine Cw_seq ?_
        refine Cw_region ?_
        refine Ow_q rfl rfl rfl (Qt_assign rfl) ?_
        refine Ow_nil ?_
        refine Cw_ret ?_
        refine ⟨(by first | exact .inl rfl | exact .inr rfl), [(.bool false)], G, ⟨(.bool false), _, rfl, rfl, rfl⟩, .refl _, ?_⟩
        exact ⟨by simp only [mkRes]; congr 1; refine (decide_eq_false ?_).symm; rintro rfl; rw [hx4] at hx6; cases hx6; simp_all, rfl, rfl⟩
      · intro h7
        have h7 := dcd_t (nt_f (h7))
        refine Cw_skip ?_
        refine Cw_region ?_
        refine Ow_q rfl rfl rfl (Qt_move rfl) ?_
        refine Ow_q rfl rfl rfl (Qt_arith (e := (((k : Nat) : Int) + 1)) rfl rfl rfl (wrap_eq (by omega) (by omega))) ?_
        refine Ow_q rfl rfl rfl (Qt_assign rfl) ?_
        refine Ow_nil ?_
        refine ⟨_, [(0, (.slice A l.length cp)), (1, (.slice B m.length cq)), (5, (.int .i64 (((k + 1) : Nat) : Int)))], G, ⟨rfl, rfl, rfl, trivial⟩, (.refl _), (by first | omega | (simp only [List.length_append, List.length_cons, List.length_nil]; omega)), (k + 1), rfl, rfl, rfl, rfl, (by omega), (same_step hj (by rw [hx4, hx6]; simp [*]))⟩
    · intro h2
      have h2 := dcd_f (h2)
      refine Cw_exit ?_
      refine Cw_seq ?_
      refine Cw_region ?_
      refine Ow_q rfl rfl rfl (Qt_assign rfl) ?_
      refine Ow_nil ?_
      refine Cw_ret ?_
      refine ⟨(by first | exact .inl rfl | exact .inr rfl), [(.bool true)], G, ⟨(.bool true), _, rfl, rfl, rfl⟩, .refl _, ?_⟩
      exact ⟨by simp only [mkRes]; congr 1; exact (decide_eq_true (same_end hj (by omega) (by omega))).symm, rfl, rfl⟩

theorem c_sameMem (m p : Mem) (K : Kp) (G : List Ent) (hm : MemOk K m) (hp : MemOk K p) :
    Fc Try.prog 38 #[(Mem.val m), (Mem.val p)] K G (fun v K' G' => v = .bool (decide (m.abs = p.abs)) ∧ K' = K ∧ G' = G) := by
  refine Fc_of Try.func38 rfl Try.ntmps38 Try.results38 rfl ?_
  have hmw := Sl.le hm.w
  have hml := Sl.le hm.l
  have hmzw := hm.zw
  have hmzl := hm.zl
  have hpw := Sl.le hp.w
  have hpl := Sl.le hp.l
  have hpzw := hp.zw
  have hpzl := hp.zl
  refine Cw_seq ?_
  refine Cw_region ?_
  refine Ow_cons rfl (OpW_box (cs := [(.slice m.words.A m.words.l.length m.words.cp), (.slice m.lists.A m.lists.l.length m.lists.cp), (.int .i64 m.tick)]) rfl rfl rfl (fun b1 => ?_))
  refine Ow_cons rfl (OpW_box (cs := [(.slice p.words.A p.words.l.length p.words.cp), (.slice p.lists.A p.lists.l.length p.lists.cp), (.int .i64 p.tick)]) rfl rfl rfl (fun b2 => ?_))
  refine Ow_q rfl rfl rfl (Qt_assign rfl) ?_
  refine Ow_nil ?_
  refine Cw_seq ?_
  refine Cw_seq ?_
  refine Cw_region ?_
  refine Ow_q rfl rfl rfl (Qt_fieldAddr (m := 2) rfl rfl rfl rfl rfl) ?_
  refine Ow_q rfl rfl rfl (Qt_load1 (v := (.int .i64 m.tick)) rfl rfl rfl (Rdc.blk (.tail _ (.head _)) rfl)) ?_
  refine Ow_q rfl rfl rfl (Qt_fieldAddr (m := 2) rfl rfl rfl rfl rfl) ?_
  refine Ow_q rfl rfl rfl (Qt_load1 (v := (.int .i64 p.tick)) rfl rfl rfl (Rdc.blk (.head _) rfl)) ?_
  refine Ow_q rfl rfl rfl (Qt_cmp rfl rfl rfl) ?_
  refine Ow_q rfl rfl rfl (Qt_move rfl) ?_
  refine Ow_caseG rfl rfl rfl ?_ ?_
  · intro h3
    have h3 := dcd_f (nt_t (h3))
    refine Ow_pass rfl rfl rfl rfl rfl rfl rfl ?_
    refine Ow_pass rfl rfl rfl rfl rfl rfl rfl ?_
    refine Ow_pass rfl rfl rfl rfl rfl rfl rfl ?_
    refine Ow_pass rfl rfl rfl rfl rfl rfl rfl ?_
    refine Ow_pass rfl rfl rfl rfl rfl rfl rfl ?_
    refine Ow_pass rfl rfl rfl rfl rfl rfl rfl ?_
    refine Ow_q rfl rfl rfl (Qt_pick_t rfl rfl) ?_
    refine Ow_q rfl rfl rfl (Qt_move rfl) ?_
    refine Ow_pass rfl rfl rfl rfl rfl rfl rfl ?_
    refine Ow_pass rfl rfl rfl rfl rfl rfl rfl ?_
    refine Ow_pass rfl rfl rfl rfl rfl rfl rfl ?_
    refine Ow_pass rfl rfl rfl rfl rfl rfl rfl ?_
    refine Ow_pass rfl rfl rfl rfl rfl rfl rfl ?_
    refine Ow_pass rfl rfl rfl rfl rfl rfl rfl ?_
    refine Ow_pass rfl rfl rfl rfl rfl rfl rfl ?_
    refine Ow_q rfl rfl rfl (Qt_pick_t rfl rfl) ?_
    refine Ow_nil ?_
    refine Cw_cond_t rfl ?_
    refine Cw_seq ?_
    refine Cw_region ?_
    refine Ow_q rfl rfl rfl (Qt_assign rfl) ?_
    refine Ow_nil ?_
    refine Cw_ret ?_
    refine ⟨(by first | exact .inl rfl | exact .inr rfl), [(.bool false)], G, ⟨(.bool false), _, rfl, rfl, rfl⟩, .cons _ (.cons _ (.refl _)), ?_⟩
    refine ⟨?_, rfl, rfl⟩
    simp only [mkRes]; congr 1; refine (decide_eq_false fun e => ?_).symm
    have e1 := mem_ne e
    have e4 := congrArg List.length e1.2.2
    simp only [List.length_map] at e4
    first | omega | (simp_all; done)
  · intro h3
    have h3 := dcd_t (nt_f (h3))
    refine Ow_qw rfl rfl rfl rfl rfl rfl (Qt_fieldAddr (m := 0) rfl rfl rfl rfl rfl) ?_
    refine Ow_qw rfl rfl rfl rfl rfl rfl (Qt_load1 (v := (.slice m.words.A m.words.l.length m.words.cp)) rfl rfl rfl (Rdc.blk (.tail _ (.head _)) rfl)) ?_
    refine Ow_qw rfl rfl rfl rfl rfl rfl (Qt_fieldAddr (m := 0) rfl rfl rfl rfl rfl) ?_
    refine Ow_qw rfl rfl rfl rfl rfl rfl (Qt_load1 (v := (.slice p.words.A p.words.l.length p.words.cp)) rfl rfl rfl (Rdc.blk (.head _) rfl)) ?_
    refine Ow_want rfl rfl rfl rfl (OpW_callP (v0 := (.bool (decide (m.words.l = p.words.l)))) rfl Try.call60 rfl rfl (c_sameW m.words.A m.words.cp m.words.l p.words.A p.words.cp p.words.l _ _ hm.w hp.w) ?_)
    refine Ow_qw rfl rfl rfl rfl rfl rfl (Qt_not rfl) ?_
    refine Ow_q rfl rfl rfl (Qt_pick_f rfl rfl) ?_
    refine Ow_q rfl rfl rfl (Qt_move rfl) ?_
    refine Ow_caseG rfl rfl rfl ?_ ?_
    · intro h4
      have h4 := nt_t (h4)
      refine Ow_pass rfl rfl rfl rfl rfl rfl rfl ?_
      refine Ow_pass rfl rfl rfl rfl rfl rfl rfl ?_
      refine Ow_pass rfl rfl rfl rfl rfl rfl rfl ?_
      refine Ow_pass rfl rfl rfl rfl rfl rfl rfl ?_
      refine Ow_pass rfl rfl rfl rfl rfl rfl rfl ?_
      refine Ow_pass rfl rfl rfl rfl rfl rfl rfl ?_
      refine Ow_pass rfl rfl rfl rfl rfl rfl rfl ?_
      refine Ow_q rfl rfl rfl (Qt_pick_t rfl rfl) ?_
      refine Ow_nil ?_
      refine Cw_cond_t rfl ?_
      refine Cw_seq ?_
      refine Cw_region ?_
      refine Ow_q rfl rfl rfl (Qt_assign rfl) ?_
      refine Ow_nil ?_
      refine Cw_ret ?_
      refine ⟨(by first | exact .inl rfl | exact .inr rfl), [(.bool false)], G, ⟨(.bool false), _, rfl, rfl, rfl⟩, .cons _ (.cons _ (.refl _)), ?_⟩
      refine ⟨?_, rfl, rfl⟩
      simp only [mkRes]; congr 1; refine (decide_eq_false fun e => ?_).symm
      have e1 := mem_ne e
      have e4 := congrArg List.length e1.2.2
      simp only [List.length_map] at e4
      first | omega | (simp_all; done)
    · intro h4
      have h4 := nt_f (h4)
      refine Ow_qw rfl rfl rfl rfl rfl rfl (Qt_fieldAddr (m := 1) rfl rfl rfl rfl rfl) ?_
      refine Ow_qw rfl rfl rfl rfl rfl rfl (Qt_load1 (v := (.slice m.lists.A m.lists.l.length m.lists.cp)) rfl rfl rfl (Rdc.blk (.tail _ (.head _)) rfl)) ?_
      refine Ow_qw rfl rfl rfl rfl rfl rfl (Qt_len rfl rfl) ?_
      refine Ow_qw rfl rfl rfl rfl rfl rfl (Qt_fieldAddr (m := 1) rfl rfl rfl rfl rfl) ?_
      refine Ow_qw rfl rfl rfl rfl rfl rfl (Qt_load1 (v := (.slice p.lists.A p.lists.l.length p.lists.cp)) rfl rfl rfl (Rdc.blk (.head _) rfl)) ?_
      refine Ow_qw rfl rfl rfl rfl rfl rfl (Qt_len rfl rfl) ?_
      refine Ow_qw rfl rfl rfl rfl rfl rfl (Qt_cmp rfl rfl rfl) ?_
      refine Ow_q rfl rfl rfl (Qt_pick_f rfl rfl) ?_
      refine Ow_nil ?_
      refine Cw_cond rfl ?_ ?_
      · intro h5
        have h5 := dcd_f (nt_t (h5))
        refine Cw_seq ?_
        refine Cw_region ?_
        refine Ow_q rfl rfl rfl (Qt_assign rfl) ?_
        refine Ow_nil ?_
        refine Cw_ret ?_
        refine ⟨(by first | exact .inl rfl | exact .inr rfl), [(.bool false)], G, ⟨(.bool false), _, rfl, rfl, rfl⟩, .cons _ (.cons _ (.refl _)), ?_⟩
        refine ⟨?_, rfl, rfl⟩
        simp only [mkRes]; congr 1; refine (decide_eq_false fun e => ?_).symm
        have e1 := mem_ne e
        have e4 := congrArg List.length e1.2.2
        simp only [List.length_map] at e4
        first | omega | (simp_all; done)
      · intro h5
        have h5 := dcd_t (nt_f (h5))
        refine Cw_skip ?_
        refine Cw_seq ?_
        refine Cw_seq ?_
        refine Cw_region ?_
        refine Ow_q rfl rfl rfl (Qt_assign rfl) ?_
        refine Ow_nil ?_
        refine Cw_block ?_
        refine Cw_loop (S := Nat) (fun s env' K' G' => ∃ (k : Nat), m.lists.l.length - k = s ∧ [(2, (.pointer (some ((⟨b1, 0, none⟩ : Addr).add 0)))), (3, (.pointer (some ((⟨b2, 0, none⟩ : Addr).add 0)))), (5, (.int .i64 ((k : Nat) : Int)))] = env' ∧ K = K' ∧ .blk b2 49 [(.slice p.words.A p.words.l.length p.words.cp), (.slice p.lists.A p.lists.l.length p.lists.cp), (.int .i64 p.tick)] :: .blk b1 49 [(.slice m.words.A m.words.l.length m.words.cp), (.slice m.lists.A m.lists.l.length m.lists.cp), (.int .i64 m.tick)] :: G = G' ∧ k ≤ m.lists.l.length ∧ ∀ j, j < k → (m.lists.l.map SI.l)[j]? = (p.lists.l.map SI.l)[j]?) (fun s => s) (m.lists.l.length - 0) [(2, (.pointer (some ((⟨b1, 0, none⟩ : Addr).add 0)))), (3, (.pointer (some ((⟨b2, 0, none⟩ : Addr).add 0)))), (5, (.int .i64 ((0 : Nat) : Int)))] (.blk b2 49 [(.slice p.words.A p.words.l.length p.words.cp), (.slice p.lists.A p.lists.l.length p.lists.cp), (.int .i64 p.tick)] :: .blk b1 49 [(.slice m.words.A m.words.l.length m.words.cp), (.slice m.lists.A m.lists.l.length m.lists.cp), (.int .i64 m.tick)] :: G)
          ⟨0, rfl, rfl, rfl, rfl, (Nat.zero_le _), (fun j h => absurd h (by omega))⟩ ⟨rfl, rfl, rfl, trivial⟩ (.cons_cons _ (.cons_cons _ (.refl _))) ?_
        rintro s _ _ _ - ⟨k, rfl, rfl, rfl, rfl, hk, hj⟩
        refine Cw_seq ?_
        refine Cw_seq ?_
        refine Cw_region ?_
        refine Ow_q rfl rfl rfl (Qt_move rfl) ?_
        refine Ow_q rfl rfl rfl (Qt_fieldAddr (m := 1) rfl rfl rfl rfl rfl) ?_
        refine Ow_q rfl rfl rfl (Qt_load1 (v := (.slice m.lists.A m.lists.l.length m.lists.cp)) rfl rfl rfl (Rdc.blk (.tail _ (.head _)) rfl)) ?_
        refine Ow_q rfl rfl rfl (Qt_len rfl rfl) ?_
        refine Ow_q rfl rfl rfl (Qt_cmp rfl rfl rfl) ?_
        refine Ow_nil ?_
        refine Cw_cond rfl ?_ ?_
        · intro h6
          have h6 := dcd_t (h6)
          refine Cw_skip ?_
          refine Cw_seq ?_
          refine Cw_block ?_
          refine Cw_seq ?_
          refine Cw_region_any [.blk b2 49 [(.slice p.words.A p.words.l.length p.words.cp), (.slice p.lists.A p.lists.l.length p.lists.cp), (.int .i64 p.tick)], .blk b1 49 [(.slice m.words.A m.words.l.length m.words.cp), (.slice m.lists.A m.lists.l.length m.lists.cp), (.int .i64 m.tick)]] rfl (Inc.cons (.head _) (Inc.cons (.tail _ (.head _)) Inc.nil)) ?_
          refine Aw_q 0 rfl (by kernel_rfl) (by kernel_rfl) (by kernel_rfl) rfl rfl rfl (Qt_fieldAddr (m := 1) rfl rfl rfl rfl rfl) ?_
          refine Aw_q 1 rfl (by kernel_rfl) (by kernel_rfl) (by kernel_rfl) rfl rfl rfl (Qt_load1 (v := (.slice m.lists.A m.lists.l.length m.lists.cp)) rfl rfl rfl (Rdc.blk (.tail _ (.head _)) rfl)) ?_
          refine Aw_q 2 rfl (by kernel_rfl) (by kernel_rfl) (by kernel_rfl) rfl rfl rfl (Qt_move rfl) ?_
          obtain ⟨x7, hx8⟩ : ∃ x, m.lists.l[k]? = some x := ⟨_, List.getElem?_eq_getElem (by first | omega | (simp only [List.length_append, List.length_cons, List.length_nil, List.length_replicate, List.length_set]; omega) | (simp; omega))⟩
          have hs_x7 := (hm.x _ (List.mem_of_getElem? hx8)).1
          have hz9 := (hm.x _ (List.mem_of_getElem? hx8)).2
          have hl10 := Sl.le hs_x7
          refine Aw_q 3 rfl (by kernel_rfl) (by kernel_rfl) (by kernel_rfl) rfl rfl rfl (Qt_ixK (q := k) rfl rfl rfl rfl rfl hm.l rfl (map_get hx8)) ?_
          refine Aw_q 4 rfl (by kernel_rfl) (by kernel_rfl) (by kernel_rfl) rfl rfl rfl (Qt_load1 (v := (.slice x7.A x7.l.length x7.cp)) rfl rfl rfl (Rdc.k (Sl.at hm.l (map_get hx8)) rfl)) ?_
          refine Aw_q 5 rfl (by kernel_rfl) (by kernel_rfl) (by kernel_rfl) rfl rfl rfl (Qt_fieldAddr (m := 1) rfl rfl rfl rfl rfl) ?_
          refine Aw_q 6 rfl (by kernel_rfl) (by kernel_rfl) (by kernel_rfl) rfl rfl rfl (Qt_load1 (v := (.slice p.lists.A p.lists.l.length p.lists.cp)) rfl rfl rfl (Rdc.blk (.head _) rfl)) ?_
          refine Aw_q 7 rfl (by kernel_rfl) (by kernel_rfl) (by kernel_rfl) rfl rfl rfl (Qt_move rfl) ?_
          obtain ⟨x11, hx12⟩ : ∃ x, p.lists.l[k]? = some x := ⟨_, List.getElem?_eq_getElem (by first | omega | (simp only [List.length_append, List.length_cons, List.length_nil, List.length_replicate, List.length_set]; omega) | (simp; omega))⟩
          have hs_x11 := (hp.x _ (List.mem_of_getElem? hx12)).1
          have hz13 := (hp.x _ (List.mem_of_getElem? hx12)).2
          have hl14 := Sl.le hs_x11
          refine Aw_q 8 rfl (by kernel_rfl) (by kernel_rfl) (by kernel_rfl) rfl rfl rfl (Qt_ixK (q := k) rfl rfl rfl rfl rfl hp.l rfl (map_get hx12)) ?_
          refine Aw_q 9 rfl (by kernel_rfl) (by kernel_rfl) (by kernel_rfl) rfl rfl rfl (Qt_load1 (v := (.slice x11.A x11.l.length x11.cp)) rfl rfl rfl (Rdc.k (Sl.at hp.l (map_get hx12)) rfl)) ?_
          refine Aw_one 10 (by kernel_rfl) (Ax_mk rfl rfl (OpW_callP (v0 := (.bool (decide (x7.l = x11.l)))) rfl Try.call41 rfl rfl (c_same2 x7.A x7.cp x7.l x11.A x11.cp x11.l _ _ hs_x7 hs_x11) ⟨(Inc.cons (.head _) (Inc.cons (.tail _ (.head _)) Inc.nil)), ?_⟩))
          refine Aw_q 11 rfl (by kernel_rfl) (by kernel_rfl) (by kernel_rfl) rfl rfl rfl (Qt_not rfl) ?_
          refine Aw_done (by kernel_rfl) ?_
          refine Cw_cond rfl ?_ ?_
          · intro h15
            have h15 := nt_t (h15)
            refine Cw_seq ?_
            refine Cw_region ?_
            refine Ow_q rfl rfl rfl (Qt_assign rfl) ?_
            refine Ow_nil ?_
            refine Cw_ret ?_
            refine ⟨(by first | exact .inl rfl | exact .inr rfl), [(.bool false)], G, ⟨(.bool false), _, rfl, rfl, rfl⟩, .cons _ (.cons _ (.refl _)), ?_⟩
            refine ⟨?_, rfl, rfl⟩
            simp only [mkRes]; congr 1; refine (decide_eq_false fun e => ?_).symm
            have e3 := congrArg (fun l => l[k]?) (mem_ne e).2.2
            simp only [List.getElem?_map, hx8, hx12, Option.map_some] at e3
            simp_all
          · intro h15
            have h15 := nt_f (h15)
            refine Cw_skip ?_
            refine Cw_region ?_
            refine Ow_q rfl rfl rfl (Qt_move rfl) ?_
            refine Ow_q rfl rfl rfl (Qt_arith (e := (((k : Nat) : Int) + 1)) rfl rfl rfl (wrap_eq (by omega) (by omega))) ?_
            refine Ow_q rfl rfl rfl (Qt_assign rfl) ?_
            refine Ow_nil ?_
            refine ⟨_, [(2, (.pointer (some ((⟨b1, 0, none⟩ : Addr).add 0)))), (3, (.pointer (some ((⟨b2, 0, none⟩ : Addr).add 0)))), (5, (.int .i64 (((k + 1) : Nat) : Int)))], .blk b2 49 [(.slice p.words.A p.words.l.length p.words.cp), (.slice p.lists.A p.lists.l.length p.lists.cp), (.int .i64 p.tick)] :: .blk b1 49 [(.slice m.words.A m.words.l.length m.words.cp), (.slice m.lists.A m.lists.l.length m.lists.cp), (.int .i64 m.tick)] :: G, ⟨rfl, rfl, rfl, trivial⟩, (.cons_cons _ (.cons_cons _ (.refl _))), (by first | omega | (simp only [List.length_append, List.length_cons, List.length_nil]; omega)), (k + 1), rfl, rfl, rfl, rfl, (by omega), (same_step hj (by simp only [List.getElem?_map, hx8, hx12, Option.map_some]; simp_all))⟩
        · intro h6
          have h6 := dcd_f (h6)
          refine Cw_exit ?_
          refine Cw_seq ?_
          refine Cw_region ?_
          refine Ow_q rfl rfl rfl (Qt_assign rfl) ?_
          refine Ow_nil ?_
          refine Cw_ret ?_
          refine ⟨(by first | exact .inl rfl | exact .inr rfl), [(.bool true)], G, ⟨(.bool true), _, rfl, rfl, rfl⟩, .cons _ (.cons _ (.refl _)), ?_⟩
          refine ⟨?_, rfl, rfl⟩
          simp only [mkRes]; congr 1; refine (decide_eq_true (mem_eq (by first | assumption | simp_all) (by first | assumption | simp_all) (same_end hj (by simp; omega) (by simp; omega)))).symm

theorem c_sameAns (b d : Answer) (K : Kp) (G : List Ent) (hb : AnsOk K b) (hd : AnsOk K d) :
    Fc Try.prog 39 #[(Answer.val b), (Answer.val d)] K G (fun v K' G' => v = .bool (decide (b.abs = d.abs)) ∧ K' = K ∧ G' = G) := by
  refine Fc_of Try.func39 rfl Try.ntmps39 Try.results39 rfl ?_
  refine Cw_seq ?_
  refine Cw_region ?_
  refine Ow_cons rfl (OpW_box (cs := [(.int .u64 b.value), (.bool b.ok), (.bool b.late), (.slice b.list.A b.list.l.length b.list.cp)]) rfl rfl rfl (fun b1 => ?_))
  refine Ow_cons rfl (OpW_box (cs := [(.int .u64 d.value), (.bool d.ok), (.bool d.late), (.slice d.list.A d.list.l.length d.list.cp)]) rfl rfl rfl (fun b2 => ?_))
  refine Ow_q rfl rfl rfl (Qt_assign rfl) ?_
  refine Ow_nil ?_
  refine Cw_seq ?_
  refine Cw_region ?_
  refine Ow_q rfl rfl rfl (Qt_fieldAddr (m := 0) rfl rfl rfl rfl rfl) ?_
  refine Ow_q rfl rfl rfl (Qt_load1 (v := (.int .u64 b.value)) rfl rfl rfl (Rdc.blk (.tail _ (.head _)) rfl)) ?_
  refine Ow_q rfl rfl rfl (Qt_fieldAddr (m := 0) rfl rfl rfl rfl rfl) ?_
  refine Ow_q rfl rfl rfl (Qt_load1 (v := (.int .u64 d.value)) rfl rfl rfl (Rdc.blk (.head _) rfl)) ?_
  refine Ow_q rfl rfl rfl (Qt_cmp rfl rfl rfl) ?_
  refine Ow_q rfl rfl rfl (Qt_move rfl) ?_
  refine Ow_caseG rfl rfl rfl ?_ ?_
  · intro h3
    have h3 := dcd_t (h3)
    refine Ow_qw rfl rfl rfl rfl rfl rfl (Qt_fieldAddr (m := 1) rfl rfl rfl rfl rfl) ?_
    refine Ow_qw rfl rfl rfl rfl rfl rfl (Qt_load1 (v := (.bool b.ok)) rfl rfl rfl (Rdc.blk (.tail _ (.head _)) rfl)) ?_
    refine Ow_qw rfl rfl rfl rfl rfl rfl (Qt_fieldAddr (m := 1) rfl rfl rfl rfl rfl) ?_
    refine Ow_qw rfl rfl rfl rfl rfl rfl (Qt_load1 (v := (.bool d.ok)) rfl rfl rfl (Rdc.blk (.head _) rfl)) ?_
    refine Ow_qw rfl rfl rfl rfl rfl rfl (Qt_eqB rfl rfl rfl) ?_
    refine Ow_q rfl rfl rfl (Qt_pick_t rfl rfl) ?_
    refine Ow_q rfl rfl rfl (Qt_move rfl) ?_
    refine Ow_caseG rfl rfl rfl ?_ ?_
    · intro h4
      refine Ow_qw rfl rfl rfl rfl rfl rfl (Qt_fieldAddr (m := 2) rfl rfl rfl rfl rfl) ?_
      refine Ow_qw rfl rfl rfl rfl rfl rfl (Qt_load1 (v := (.bool b.late)) rfl rfl rfl (Rdc.blk (.tail _ (.head _)) rfl)) ?_
      refine Ow_qw rfl rfl rfl rfl rfl rfl (Qt_fieldAddr (m := 2) rfl rfl rfl rfl rfl) ?_
      refine Ow_qw rfl rfl rfl rfl rfl rfl (Qt_load1 (v := (.bool d.late)) rfl rfl rfl (Rdc.blk (.head _) rfl)) ?_
      refine Ow_qw rfl rfl rfl rfl rfl rfl (Qt_eqB rfl rfl rfl) ?_
      refine Ow_q rfl rfl rfl (Qt_pick_t rfl rfl) ?_
      refine Ow_q rfl rfl rfl (Qt_move rfl) ?_
      refine Ow_caseG rfl rfl rfl ?_ ?_
      · intro h5
        refine Ow_qw rfl rfl rfl rfl rfl rfl (Qt_fieldAddr (m := 3) rfl rfl rfl rfl rfl) ?_
        refine Ow_qw rfl rfl rfl rfl rfl rfl (Qt_load1 (v := (.slice b.list.A b.list.l.length b.list.cp)) rfl rfl rfl (Rdc.blk (.tail _ (.head _)) rfl)) ?_
        refine Ow_qw rfl rfl rfl rfl rfl rfl (Qt_fieldAddr (m := 3) rfl rfl rfl rfl rfl) ?_
        refine Ow_qw rfl rfl rfl rfl rfl rfl (Qt_load1 (v := (.slice d.list.A d.list.l.length d.list.cp)) rfl rfl rfl (Rdc.blk (.head _) rfl)) ?_
        refine Ow_want rfl rfl rfl rfl (OpW_callP (v0 := (.bool (decide (b.list.l = d.list.l)))) rfl Try.call41 rfl rfl (c_same2 b.list.A b.list.cp b.list.l d.list.A d.list.cp d.list.l _ _ hb.l hd.l) ?_)
        refine Ow_q rfl rfl rfl (Qt_pick_t rfl rfl) ?_
        refine Ow_q rfl rfl rfl (Qt_assign rfl) ?_
        refine Ow_nil ?_
        refine Cw_ret ?_
        refine ⟨(by first | exact .inl rfl | exact .inr rfl), [(.bool (decide (b.list.l = d.list.l)))], G, ⟨(.bool (decide (b.list.l = d.list.l))), _, rfl, rfl, rfl⟩, .cons _ (.cons _ (.refl _)), ?_⟩
        exact ⟨by simp only [mkRes]; congr 1; simp_all [Answer.abs, An.mk.injEq, dcd_eq], rfl, rfl⟩
      · intro h5
        refine Ow_pass rfl rfl rfl rfl rfl rfl rfl ?_
        refine Ow_pass rfl rfl rfl rfl rfl rfl rfl ?_
        refine Ow_pass rfl rfl rfl rfl rfl rfl rfl ?_
        refine Ow_pass rfl rfl rfl rfl rfl rfl rfl ?_
        refine Ow_pass rfl rfl rfl rfl rfl rfl rfl ?_
        refine Ow_q rfl rfl rfl (Qt_pick_f rfl rfl) ?_
        refine Ow_q rfl rfl rfl (Qt_assign rfl) ?_
        refine Ow_nil ?_
        refine Cw_ret ?_
        refine ⟨(by first | exact .inl rfl | exact .inr rfl), [(.bool false)], G, ⟨(.bool false), _, rfl, rfl, rfl⟩, .cons _ (.cons _ (.refl _)), ?_⟩
        exact ⟨by simp only [mkRes]; congr 1; simp_all [Answer.abs, An.mk.injEq, dcd_eq], rfl, rfl⟩
    · intro h4
      refine Ow_pass rfl rfl rfl rfl rfl rfl rfl ?_
      refine Ow_pass rfl rfl rfl rfl rfl rfl rfl ?_
      refine Ow_pass rfl rfl rfl rfl rfl rfl rfl ?_
      refine Ow_pass rfl rfl rfl rfl rfl rfl rfl ?_
      refine Ow_pass rfl rfl rfl rfl rfl rfl rfl ?_
      refine Ow_q rfl rfl rfl (Qt_pick_f rfl rfl) ?_
      refine Ow_q rfl rfl rfl (Qt_move rfl) ?_
      refine Ow_pass rfl rfl rfl rfl rfl rfl rfl ?_
      refine Ow_pass rfl rfl rfl rfl rfl rfl rfl ?_
      refine Ow_pass rfl rfl rfl rfl rfl rfl rfl ?_
      refine Ow_pass rfl rfl rfl rfl rfl rfl rfl ?_
      refine Ow_pass rfl rfl rfl rfl rfl rfl rfl ?_
      refine Ow_q rfl rfl rfl (Qt_pick_f rfl rfl) ?_
      refine Ow_q rfl rfl rfl (Qt_assign rfl) ?_
      refine Ow_nil ?_
      refine Cw_ret ?_
      refine ⟨(by first | exact .inl rfl | exact .inr rfl), [(.bool false)], G, ⟨(.bool false), _, rfl, rfl, rfl⟩, .cons _ (.cons _ (.refl _)), ?_⟩
      exact ⟨by simp only [mkRes]; congr 1; simp_all [Answer.abs, An.mk.injEq, dcd_eq], rfl, rfl⟩
  · intro h3
    have h3 := dcd_f (h3)
    refine Ow_pass rfl rfl rfl rfl rfl rfl rfl ?_
    refine Ow_pass rfl rfl rfl rfl rfl rfl rfl ?_
    refine Ow_pass rfl rfl rfl rfl rfl rfl rfl ?_
    refine Ow_pass rfl rfl rfl rfl rfl rfl rfl ?_
    refine Ow_pass rfl rfl rfl rfl rfl rfl rfl ?_
    refine Ow_q rfl rfl rfl (Qt_pick_f rfl rfl) ?_
    refine Ow_q rfl rfl rfl (Qt_move rfl) ?_
    refine Ow_pass rfl rfl rfl rfl rfl rfl rfl ?_
    refine Ow_pass rfl rfl rfl rfl rfl rfl rfl ?_
    refine Ow_pass rfl rfl rfl rfl rfl rfl rfl ?_
    refine Ow_pass rfl rfl rfl rfl rfl rfl rfl ?_
    refine Ow_pass rfl rfl rfl rfl rfl rfl rfl ?_
    refine Ow_q rfl rfl rfl (Qt_pick_f rfl rfl) ?_
    refine Ow_q rfl rfl rfl (Qt_move rfl) ?_
    refine Ow_pass rfl rfl rfl rfl rfl rfl rfl ?_
    refine Ow_pass rfl rfl rfl rfl rfl rfl rfl ?_
    refine Ow_pass rfl rfl rfl rfl rfl rfl rfl ?_
    refine Ow_pass rfl rfl rfl rfl rfl rfl rfl ?_
    refine Ow_pass rfl rfl rfl rfl rfl rfl rfl ?_
    refine Ow_q rfl rfl rfl (Qt_pick_f rfl rfl) ?_
    refine Ow_q rfl rfl rfl (Qt_assign rfl) ?_
    refine Ow_nil ?_
    refine Cw_ret ?_
    refine ⟨(by first | exact .inl rfl | exact .inr rfl), [(.bool false)], G, ⟨(.bool false), _, rfl, rfl, rfl⟩, .cons _ (.cons _ (.refl _)), ?_⟩
    exact ⟨by simp only [mkRes]; congr 1; simp_all [Answer.abs, An.mk.injEq, dcd_eq], rfl, rfl⟩

theorem c_index (A : Option Addr) (cp : Nat) (l : List Int) (x r : Int) (hr : ixS l x = r) (K : Kp) (G : List Ent) (hl : Sl K (.slice A l.length cp) 1 (l.map i64c)) :
    Fc Try.prog 61 #[(.slice A l.length cp), (.int .i64 x)] K G (fun v K' G' => v = .int .i64 r ∧ K' = K ∧ G' = G) := by
  refine Fc_of Try.func61 rfl Try.ntmps61 Try.results61 rfl ?_
  have hll := Sl.le hl
  refine Cw_seq ?_
  refine Cw_region ?_
  refine Ow_q rfl rfl rfl (Qt_assign rfl) ?_
  refine Ow_nil ?_
  refine Cw_seq ?_
  refine Cw_seq ?_
  refine Cw_region ?_
  refine Ow_q rfl rfl rfl (Qt_move rfl) ?_
  refine Ow_q rfl rfl rfl (Qt_len rfl rfl) ?_
  refine Ow_q rfl rfl rfl (Qt_move rfl) ?_
  refine Ow_nil ?_
  refine Cw_block ?_
  refine Cw_loop (S := Nat) (fun s env' K' G' => ∃ (k : Nat), l.length - k = s ∧ [(0, (.slice A l.length cp)), (1, (.int .i64 x)), (7, (.int .i64 ((l.length : Nat) : Int))), (8, (.int .i64 ((k : Nat) : Int)))] = env' ∧ K = K' ∧ G = G' ∧ k ≤ l.length ∧ ∀ j, j < k → l[j]? ≠ some x) (fun s => s) (l.length - 0) [(0, (.slice A l.length cp)), (1, (.int .i64 x)), (7, (.int .i64 ((l.length : Nat) : Int))), (8, (.int .i64 ((0 : Nat) : Int)))] (G)
    ⟨0, rfl, rfl, rfl, rfl, (Nat.zero_le _), (fun j h => absurd h (by omega))⟩ ⟨rfl, rfl, rfl, rfl, trivial⟩ (.refl _) ?_
  rintro s _ _ _ - ⟨k, rfl, rfl, rfl, rfl, hk, hj⟩
  refine Cw_seq ?_
  refine Cw_region ?_
  refine Ow_q rfl rfl rfl (Qt_cmp rfl rfl rfl) ?_
  refine Ow_nil ?_
  refine Cw_seq ?_
  refine Cw_cond rfl ?_ ?_
  · intro h1
    have h1 := dcd_t (h1)
    refine Cw_skip ?_
    refine Cw_seq ?_
    refine Cw_block ?_
    refine Cw_seq ?_
    refine Cw_region ?_
    refine Ow_q rfl rfl rfl (Qt_move rfl) ?_
    refine Ow_q rfl rfl rfl (Qt_assign rfl) ?_
    refine Ow_nil ?_
    refine Cw_seq ?_
    refine Cw_region ?_
    refine Ow_q rfl rfl rfl (Qt_move rfl) ?_
    refine Ow_q rfl rfl rfl (Qt_move rfl) ?_
    refine Ow_q rfl rfl rfl (Qt_move rfl) ?_
    obtain ⟨x2, hx3⟩ : ∃ x, l[k]? = some x := ⟨_, List.getElem?_eq_getElem (by first | omega | (simp only [List.length_append, List.length_cons, List.length_nil, List.length_replicate, List.length_set]; omega) | (simp; omega))⟩
    refine Ow_q rfl rfl rfl (Qt_ixK (q := k) rfl rfl rfl rfl rfl hl rfl (map_get hx3)) ?_
    refine Ow_q rfl rfl rfl (Qt_load1 (v := (.int .i64 x2)) rfl rfl rfl (Rdc.k (Sl.at hl (map_get hx3)) rfl)) ?_
    refine Ow_q rfl rfl rfl (Qt_cmp rfl rfl rfl) ?_
    refine Ow_nil ?_
    refine Cw_cond rfl ?_ ?_
    · intro h4
      have h4 := dcd_t (h4)
      refine Cw_seq ?_
      refine Cw_region ?_
      refine Ow_q rfl rfl rfl (Qt_move rfl) ?_
      refine Ow_q rfl rfl rfl (Qt_assign rfl) ?_
      refine Ow_nil ?_
      refine Cw_ret ?_
      refine ⟨(by first | exact .inl rfl | exact .inr rfl), [(.int .i64 ((k : Nat) : Int))], G, ⟨(.int .i64 ((k : Nat) : Int)), _, rfl, rfl, rfl⟩, .refl _, ?_⟩
      obtain ⟨q1, q2⟩ := idxOf_at hj (show l[k]? = some x by simp_all)
      rw [ixS, if_pos q1, q2] at hr
      exact ⟨by rw [← hr]; rfl, rfl, rfl⟩
    · intro h4
      have h4 := dcd_f (h4)
      refine Cw_skip ?_
      refine Cw_region ?_
      refine Ow_q rfl rfl rfl (Qt_arith (e := (((k : Nat) : Int) + 1)) rfl rfl rfl (wrap_eq (by omega) (by omega))) ?_
      refine Ow_q rfl rfl rfl (Qt_move rfl) ?_
      refine Ow_nil ?_
      refine ⟨_, [(0, (.slice A l.length cp)), (1, (.int .i64 x)), (7, (.int .i64 ((l.length : Nat) : Int))), (8, (.int .i64 (((k + 1) : Nat) : Int)))], G, ⟨rfl, rfl, rfl, rfl, trivial⟩, (.refl _), (by first | omega | (simp only [List.length_append, List.length_cons, List.length_nil]; omega)), (k + 1), rfl, rfl, rfl, rfl, (by omega), (ne_step hj hx3 (fun e => by simp_all))⟩
  · intro h1
    have h1 := dcd_f (h1)
    refine Cw_exit ?_
    refine Cw_seq ?_
    refine Cw_region ?_
    refine Ow_q rfl rfl rfl (Qt_assign rfl) ?_
    refine Ow_nil ?_
    refine Cw_ret ?_
    refine ⟨(by first | exact .inl rfl | exact .inr rfl), [(.int .i64 (-1))], G, ⟨(.int .i64 (-1)), _, rfl, rfl, rfl⟩, .refl _, ?_⟩
    have q1 := not_mem_of hj (by omega)
    rw [ixS, if_neg q1] at hr
    exact ⟨by rw [← hr]; rfl, rfl, rfl⟩

theorem c_cloneI (A : Option Addr) (cp : Nat) (L : List Int) (K : Kp) (G : List Ent) (hl : Sl K (.slice A L.length cp) 1 (L.map i64c)) (hz : L.length ≤ 1000000) :
    Fc Try.prog 62 #[(.slice A L.length cp)] K G (fun v K' G' => ∃ A' cp', v = .slice A' L.length cp' ∧ (0 < L.length → ∃ a, A' = some a) ∧ K = K' ∧ G' = .row (.slice A' L.length cp') 3 1 ((L.map i64c).flatten) :: G) := by
  refine Fc_of Try.func62 rfl Try.ntmps62 Try.results62 rfl ?_
  have hll := Sl.le hl
  refine Cw_seq ?_
  refine Cw_region ?_
  refine Ow_q rfl rfl rfl (Qt_assign rfl) ?_
  refine Ow_nil ?_
  refine Cw_seq ?_
  refine Cw_seq ?_
  refine Cw_region ?_
  refine Ow_q rfl rfl rfl (Qt_move rfl) ?_
  refine Ow_q rfl rfl rfl (Qt_eqNil rfl rfl rfl) ?_
  refine Ow_nil ?_
  refine Cw_cond rfl ?_ ?_
  · intro h1
    refine Cw_seq ?_
    have hL0 : L = [] := List.eq_nil_of_length_eq_zero (Sl.none0 hl (by assumption))
    refine Cw.nilRow 3 1 ?_
    refine Cw_region ?_
    refine Ow_q rfl rfl rfl (Qt_assign rfl) ?_
    refine Ow_nil ?_
    refine Cw_ret ?_
    refine ⟨(by first | exact .inl rfl | exact .inr rfl), [(.slice none 0 0)], .row (.slice none 0 0) 3 1 (((([] : List Int)).map i64c).flatten) :: G, ⟨(.slice none 0 0), _, rfl, rfl, rfl⟩, .cons_cons _ (.refl _), ?_⟩
    subst hL0
    exact ⟨none, 0, rfl, fun h => absurd h (by simp), rfl, rfl⟩
  · intro h1
    refine Cw_skip ?_
    refine Cw_seq ?_
    refine Cw_region ?_
    refine Ow_cons rfl (OpW_buildSlice0 rfl rfl rfl rfl rfl (fun a2 => ?_))
    refine Ow_q rfl rfl rfl (Qt_move rfl) ?_
    refine Ow_cons rfl (OpW_appendT (bytes := 8) (L := ([] : List Int)) (M := L) Enc.i64 rfl rfl rfl (.head _) (Src.slT hl) rfl rfl rfl rfl rfl rfl rfl rfl rfl (by first | omega | (simp only [List.length_append, List.length_cons, List.length_nil, List.length_replicate, List.length_set]; omega) | (simp; omega)) (by first | omega | (simp only [List.length_append, List.length_cons, List.length_nil, List.length_replicate, List.length_set]; omega) | (simp; omega)) ?_)
    intro A3 cp4 hA5
    refine ⟨_, .here, ?_⟩
    refine Ow_q rfl rfl rfl (Qt_assign rfl) ?_
    refine Ow_nil ?_
    refine Cw_ret ?_
    refine ⟨(by first | exact .inl rfl | exact .inr rfl), [(.slice A3 ((([] : List Int) ++ L).length) cp4)], .row (.slice A3 ((([] : List Int) ++ L).length) cp4) 3 1 ((((([] : List Int) ++ L)).map i64c).flatten) :: G, ⟨(.slice A3 ((([] : List Int) ++ L).length) cp4), _, rfl, rfl, rfl⟩, .cons_cons _ (.refl _), ?_⟩
    exact ⟨_, _, rfl, by assumption, rfl, rfl⟩

theorem c_cloneU (A : Option Addr) (cp : Nat) (L : List Int) (K : Kp) (G : List Ent) (hl : Sl K (.slice A L.length cp) 1 (L.map u64c)) (hz : L.length ≤ 1000000) :
    Fc Try.prog 65 #[(.slice A L.length cp)] K G (fun v K' G' => ∃ A' cp', v = .slice A' L.length cp' ∧ (0 < L.length → ∃ a, A' = some a) ∧ K = K' ∧ G' = .row (.slice A' L.length cp') 22 1 ((L.map u64c).flatten) :: G) := by
  refine Fc_of Try.func65 rfl Try.ntmps65 Try.results65 rfl ?_
  have hll := Sl.le hl
  refine Cw_seq ?_
  refine Cw_region ?_
  refine Ow_q rfl rfl rfl (Qt_assign rfl) ?_
  refine Ow_nil ?_
  refine Cw_seq ?_
  refine Cw_seq ?_
  refine Cw_region ?_
  refine Ow_q rfl rfl rfl (Qt_move rfl) ?_
  refine Ow_q rfl rfl rfl (Qt_eqNil rfl rfl rfl) ?_
  refine Ow_nil ?_
  refine Cw_cond rfl ?_ ?_
  · intro h1
    refine Cw_seq ?_
    have hL0 : L = [] := List.eq_nil_of_length_eq_zero (Sl.none0 hl (by assumption))
    refine Cw.nilRow 22 1 ?_
    refine Cw_region ?_
    refine Ow_q rfl rfl rfl (Qt_assign rfl) ?_
    refine Ow_nil ?_
    refine Cw_ret ?_
    refine ⟨(by first | exact .inl rfl | exact .inr rfl), [(.slice none 0 0)], .row (.slice none 0 0) 22 1 (((([] : List Int)).map u64c).flatten) :: G, ⟨(.slice none 0 0), _, rfl, rfl, rfl⟩, .cons_cons _ (.refl _), ?_⟩
    subst hL0
    exact ⟨none, 0, rfl, fun h => absurd h (by simp), rfl, rfl⟩
  · intro h1
    refine Cw_skip ?_
    refine Cw_seq ?_
    refine Cw_region ?_
    refine Ow_cons rfl (OpW_buildSlice0 rfl rfl rfl rfl rfl (fun a2 => ?_))
    refine Ow_q rfl rfl rfl (Qt_move rfl) ?_
    refine Ow_cons rfl (OpW_appendT (bytes := 8) (L := ([] : List Int)) (M := L) Enc.u64 rfl rfl rfl (.head _) (Src.slT hl) rfl rfl rfl rfl rfl rfl rfl rfl rfl (by first | omega | (simp only [List.length_append, List.length_cons, List.length_nil, List.length_replicate, List.length_set]; omega) | (simp; omega)) (by first | omega | (simp only [List.length_append, List.length_cons, List.length_nil, List.length_replicate, List.length_set]; omega) | (simp; omega)) ?_)
    intro A3 cp4 hA5
    refine ⟨_, .here, ?_⟩
    refine Ow_q rfl rfl rfl (Qt_assign rfl) ?_
    refine Ow_nil ?_
    refine Cw_ret ?_
    refine ⟨(by first | exact .inl rfl | exact .inr rfl), [(.slice A3 ((([] : List Int) ++ L).length) cp4)], .row (.slice A3 ((([] : List Int) ++ L).length) cp4) 22 1 ((((([] : List Int) ++ L)).map u64c).flatten) :: G, ⟨(.slice A3 ((([] : List Int) ++ L).length) cp4), _, rfl, rfl, rfl⟩, .cons_cons _ (.refl _), ?_⟩
    exact ⟨_, _, rfl, by assumption, rfl, rfl⟩

theorem c_cloneS (A : Option Addr) (cp : Nat) (L : List SI) (K : Kp) (G : List Ent) (hl : Sl K (.slice A L.length cp) 1 (L.map SI.cells)) (hz : L.length ≤ 1000000) (hx : SlAll K i64c L) :
    Fc Try.prog 64 #[(.slice A L.length cp)] K G (fun v K' G' => ∃ A' cp', v = .slice A' L.length cp' ∧ (0 < L.length → ∃ a, A' = some a) ∧ K = K' ∧ G' = .row (.slice A' L.length cp') 38 1 ((L.map SI.cells).flatten) :: G) := by
  refine Fc_of Try.func64 rfl Try.ntmps64 Try.results64 rfl ?_
  have hll := Sl.le hl
  refine Cw_seq ?_
  refine Cw_region ?_
  refine Ow_q rfl rfl rfl (Qt_assign rfl) ?_
  refine Ow_nil ?_
  refine Cw_seq ?_
  refine Cw_seq ?_
  refine Cw_region ?_
  refine Ow_q rfl rfl rfl (Qt_move rfl) ?_
  refine Ow_q rfl rfl rfl (Qt_eqNil rfl rfl rfl) ?_
  refine Ow_nil ?_
  refine Cw_cond rfl ?_ ?_
  · intro h1
    refine Cw_seq ?_
    have hL0 : L = [] := List.eq_nil_of_length_eq_zero (Sl.none0 hl (by assumption))
    refine Cw.nilRow 38 1 ?_
    refine Cw_region ?_
    refine Ow_q rfl rfl rfl (Qt_assign rfl) ?_
    refine Ow_nil ?_
    refine Cw_ret ?_
    refine ⟨(by first | exact .inl rfl | exact .inr rfl), [(.slice none 0 0)], .row (.slice none 0 0) 38 1 (((([] : List SI)).map SI.cells).flatten) :: G, ⟨(.slice none 0 0), _, rfl, rfl, rfl⟩, .cons_cons _ (.refl _), ?_⟩
    subst hL0
    exact ⟨none, 0, rfl, fun h => absurd h (by simp), rfl, rfl⟩
  · intro h1
    refine Cw_skip ?_
    refine Cw_seq ?_
    refine Cw_region ?_
    have hX2 : SlAll K i64c [] := SlAll.nil
    refine Ow_cons rfl (OpW_buildSlice0 rfl rfl rfl rfl rfl (fun a3 => ?_))
    refine Ow_q rfl rfl rfl (Qt_move rfl) ?_
    have hX7 := SlAll.append hX2 hx
    refine Ow_cons rfl (OpW_appendT (bytes := 24) (L := ([] : List SI)) (M := L) Enc.si rfl rfl rfl (.head _) (Src.slT hl) rfl rfl rfl rfl rfl rfl rfl rfl rfl (by first | omega | (simp only [List.length_append, List.length_cons, List.length_nil, List.length_replicate, List.length_set]; omega) | (simp; omega)) (by first | omega | (simp only [List.length_append, List.length_cons, List.length_nil, List.length_replicate, List.length_set]; omega) | (simp; omega)) ?_)
    intro A4 cp5 hA6
    refine ⟨_, .here, ?_⟩
    refine Ow_q rfl rfl rfl (Qt_assign rfl) ?_
    refine Ow_nil ?_
    refine Cw_ret ?_
    refine ⟨(by first | exact .inl rfl | exact .inr rfl), [(.slice A4 ((([] : List SI) ++ L).length) cp5)], .row (.slice A4 ((([] : List SI) ++ L).length) cp5) 38 1 ((((([] : List SI) ++ L)).map SI.cells).flatten) :: G, ⟨(.slice A4 ((([] : List SI) ++ L).length) cp5), _, rfl, rfl, rfl⟩, .cons_cons _ (.refl _), ?_⟩
    exact ⟨_, _, rfl, by assumption, rfl, rfl⟩

end Go.Ghl
