/- Contracts of functions, walked: printed by program. -/
import Derived.Test.YtgkmiemclhaahaaProg
import Derived.Test.YtgkmiemclhaahaaGhlMore
import Derived.Test.YtgkmiemclhaahaaSAMez
namespace Go.Ghl
open Go.Proofs
set_option linter.unusedSimpArgs false
set_option linter.unusedVariables false

def atomic (k : Int) : Bool := decide (k ≥ 1) && decide (k ≤ 4)

theorem c_atomic (k : Int) (K : Kp) (G : List Ent)  :
    Fc Try.prog 43 #[(.int .i64 k)] K G (fun v K' G' => v = (.bool (atomic k)) ∧ K' = K ∧ G' = G) := by
  refine Fc_of Try.func43 rfl Try.ntmps43 Try.results43 rfl ?_
  refine Cw_seq ?_
  refine Cw_region ?_
  refine Ow_q rfl rfl rfl (Qt_assign rfl) ?_
  refine Ow_nil ?_
  refine Cw_seq ?_
  refine Cw_region ?_
  refine Ow_q rfl rfl rfl (Qt_move rfl) ?_
  refine Ow_q rfl rfl rfl (Qt_cmp rfl rfl rfl) ?_
  refine Ow_q rfl rfl rfl (Qt_move rfl) ?_
  refine Ow_caseG rfl rfl rfl ?_ ?_
  · intro h1
    have h1 := dcd_t (h1)
    refine Ow_qw rfl rfl rfl rfl rfl rfl (Qt_move rfl) ?_
    refine Ow_qw rfl rfl rfl rfl rfl rfl (Qt_cmp rfl rfl rfl) ?_
    refine Ow_q rfl rfl rfl (Qt_pick_t rfl rfl) ?_
    refine Ow_q rfl rfl rfl (Qt_assign rfl) ?_
    refine Ow_nil ?_
    refine Cw_ret ?_
    refine ⟨(by first | exact .inl rfl | exact .inr rfl), [(.bool (dcd (k ≤ 4)))], G, ⟨(.bool (dcd (k ≤ 4))), _, rfl, rfl, rfl⟩, .refl _, ?_⟩
    exact ⟨by first | (simp [mkRes, dcd_eq, atomic, atomic, *]; done) | (simp_all [mkRes, dcd_eq, atomic, atomic]; done), rfl, rfl⟩
  · intro h1
    have h1 := dcd_f (h1)
    refine Ow_pass rfl rfl rfl rfl rfl rfl rfl ?_
    refine Ow_pass rfl rfl rfl rfl rfl rfl rfl ?_
    refine Ow_q rfl rfl rfl (Qt_pick_f rfl rfl) ?_
    refine Ow_q rfl rfl rfl (Qt_assign rfl) ?_
    refine Ow_nil ?_
    refine Cw_ret ?_
    refine ⟨(by first | exact .inl rfl | exact .inr rfl), [(.bool false)], G, ⟨(.bool false), _, rfl, rfl, rfl⟩, .refl _, ?_⟩
    exact ⟨by first | (simp [mkRes, dcd_eq, atomic, atomic, *]; done) | (simp_all [mkRes, dcd_eq, atomic, atomic]; done), rfl, rfl⟩

theorem c_atomicR (k : Int) (K : Kp) (G : List Ent)  :
    Fc Try.prog 44 #[(.int .i64 k)] K G (fun v K' G' => v = (.bool (atomic k)) ∧ K' = K ∧ G' = G) := by
  refine Fc_of Try.func44 rfl Try.ntmps44 Try.results44 rfl ?_
  refine Cw_seq ?_
  refine Cw_region ?_
  refine Ow_q rfl rfl rfl (Qt_assign rfl) ?_
  refine Ow_nil ?_
  refine Cw_seq ?_
  refine Cw_region ?_
  refine Ow_q rfl rfl rfl (Qt_move rfl) ?_
  refine Ow_q rfl rfl rfl (Qt_cmp rfl rfl rfl) ?_
  refine Ow_q rfl rfl rfl (Qt_move rfl) ?_
  refine Ow_caseG rfl rfl rfl ?_ ?_
  · intro h1
    have h1 := dcd_t (h1)
    refine Ow_qw rfl rfl rfl rfl rfl rfl (Qt_move rfl) ?_
    refine Ow_qw rfl rfl rfl rfl rfl rfl (Qt_cmp rfl rfl rfl) ?_
    refine Ow_q rfl rfl rfl (Qt_pick_t rfl rfl) ?_
    refine Ow_q rfl rfl rfl (Qt_assign rfl) ?_
    refine Ow_nil ?_
    refine Cw_ret ?_
    refine ⟨(by first | exact .inl rfl | exact .inr rfl), [(.bool (dcd (k ≤ 4)))], G, ⟨(.bool (dcd (k ≤ 4))), _, rfl, rfl, rfl⟩, .refl _, ?_⟩
    exact ⟨by first | (simp [mkRes, dcd_eq, atomic, atomic, *]; done) | (simp_all [mkRes, dcd_eq, atomic, atomic]; done), rfl, rfl⟩
  · intro h1
    have h1 := dcd_f (h1)
    refine Ow_pass rfl rfl rfl rfl rfl rfl rfl ?_
    refine Ow_pass rfl rfl rfl rfl rfl rfl rfl ?_
    refine Ow_q rfl rfl rfl (Qt_pick_f rfl rfl) ?_
    refine Ow_q rfl rfl rfl (Qt_assign rfl) ?_
    refine Ow_nil ?_
    refine Cw_ret ?_
    refine ⟨(by first | exact .inl rfl | exact .inr rfl), [(.bool false)], G, ⟨(.bool false), _, rfl, rfl, rfl⟩, .refl _, ?_⟩
    exact ⟨by first | (simp [mkRes, dcd_eq, atomic, atomic, *]; done) | (simp_all [mkRes, dcd_eq, atomic, atomic]; done), rfl, rfl⟩

set_option maxHeartbeats 1000000 in
theorem c_awake4  (K : Kp) (G : List Ent)  :
    Fc Try.prog 30 #[] K G (fun v K' G' => v = .bool true ∧ G = G') := by
  refine Fc_of Try.func30 rfl Try.ntmps30 Try.results30 rfl ?_
  refine Cw_seq ?_
  refine Cw_region ?_
  refine Ow_q rfl rfl rfl (Qt_assign rfl) ?_
  refine Ow_nil ?_
  refine Cw_seq ?_
  refine Cw_region ?_
  refine Ow_cons rfl (OpW_buildSliceX (xs := (([0]).map u64c).flatten) rfl rfl rfl rfl rfl rfl rfl rfl rfl rfl rfl (fun a1 => ?_))
  refine Ow_q rfl rfl rfl (Qt_build (cs := Mem.cells (Mem.mk (SI.mk (some a1) 1 [0]) (SS.mk none 0 []) 0)) rfl rfl rfl rfl rfl rfl) ?_
  refine Ow_cons rfl (OpW_alloc (cs := [(.slice none 0 0), (.slice none 0 0), (.int .i64 0)]) rfl rfl rfl rfl (fun b2 => ?_))
  refine Ow_cons rfl (OpW_store (vs := [(.slice (some a1) 1 1), (.slice none 0 0), (.int .i64 0)]) (all' := [(.slice (some a1) 1 1), (.slice none 0 0), (.int .i64 0)]) rfl rfl rfl rfl rfl .here rfl rfl rfl ?_)
  refine Ow_nil ?_
  refine Cw_seq ?_
  refine Cw_region ?_
  refine Ow_q rfl rfl rfl (Qt_build (cs := Access.cells (Access.mk 3 0 0 1 0)) rfl rfl rfl rfl rfl rfl) ?_
  refine Ow_cons rfl (OpW_alloc (cs := [(.int .i64 0), (.int .i64 0), (.int .u64 0), (.int .u64 0), (.int .i64 0)]) rfl rfl rfl rfl (fun b3 => ?_))
  refine Ow_cons rfl (OpW_store (vs := [(.int .i64 3), (.int .i64 0), (.int .u64 0), (.int .u64 1), (.int .i64 0)]) (all' := [(.int .i64 3), (.int .i64 0), (.int .u64 0), (.int .u64 1), (.int .i64 0)]) rfl rfl rfl rfl rfl .here rfl rfl rfl ?_)
  refine Ow_nil ?_
  refine Cw_seq ?_
  refine Cw_region ?_
  refine Ow_q rfl rfl rfl (Qt_loadA (m := 3) (cs := Mem.cells (Mem.mk (SI.mk (some a1) 1 [0]) (SS.mk none 0 []) 0)) rfl rfl rfl rfl ⟨rfl, Rdc.blk (.tail _ (.head _)) rfl⟩) ?_
  refine Ow_q rfl rfl rfl (Qt_loadA (m := 5) (cs := Access.cells (Access.mk 3 0 0 1 0)) rfl rfl rfl rfl ⟨rfl, Rdc.blk (.head _) rfl⟩) ?_
  refine Ow.settleT Enc.u64 rfl (.there (.there (.here))) ?_
  intro K4 hK5 hs6
  have hl7 := Sl.le hs6
  refine Ow_cons rfl (OpW_call rfl Try.call34 rfl rfl (c_apply (Mem.mk (SI.mk (some a1) 1 [0]) (SS.mk none 0 []) 0) (Access.mk 3 0 0 1 0) _ _ ⟨hs6, (Sl.nil _ _), SlAll.nil, (by first | omega | (simp only [List.length_append, List.length_cons, List.length_nil, List.length_replicate, List.length_set]; omega) | (simp; omega)), (by first | omega | (simp only [List.length_append, List.length_cons, List.length_nil, List.length_replicate, List.length_set]; omega) | (simp; omega))⟩) ?_)
  rintro _ K10 _ hK11 ⟨m8, b9, rfl, rfl, hm12, hb13, he14⟩
  have he141 : m8.abs = (applyS (Mem.mk (SI.mk (some a1) 1 [0]) (SS.mk none 0 []) 0).abs (Access.mk 3 0 0 1 0)).1 := by rw [← he14]
  have he142 : b9.abs = (applyS (Mem.mk (SI.mk (some a1) 1 [0]) (SS.mk none 0 []) 0).abs (Access.mk 3 0 0 1 0)).2 := by rw [← he14]
  have hs15 := hs6.mono hK11
  have hm12w := Sl.le hm12.w
  have hm12l := Sl.le hm12.l
  have hm12zw := hm12.zw
  have hm12zl := hm12.zl
  refine Ow_q rfl rfl rfl (Qt_move rfl) ?_
  refine Ow_q rfl rfl rfl (Qt_extract rfl rfl) ?_
  refine Ow_q rfl rfl rfl (Qt_extract rfl rfl) ?_
  refine Ow_q rfl rfl rfl (Qt_extract rfl rfl) ?_
  refine Ow_cons rfl (OpW_alloc (cs := [(.int .u64 0), (.bool false), (.bool false), (.slice none 0 0)]) rfl rfl rfl rfl (fun b16 => ?_))
  refine Ow_cons rfl (OpW_store (vs := [(.slice m8.words.A m8.words.l.length m8.words.cp), (.slice m8.lists.A m8.lists.l.length m8.lists.cp), (.int .i64 m8.tick)]) (all' := [(.slice m8.words.A m8.words.l.length m8.words.cp), (.slice m8.lists.A m8.lists.l.length m8.lists.cp), (.int .i64 m8.tick)]) rfl rfl rfl rfl rfl (.there (.there .here)) rfl rfl rfl ?_)
  refine Ow_cons rfl (OpW_store (vs := [(.int .u64 b9.value), (.bool b9.ok), (.bool b9.late), (.slice b9.list.A b9.list.l.length b9.list.cp)]) (all' := [(.int .u64 b9.value), (.bool b9.ok), (.bool b9.late), (.slice b9.list.A b9.list.l.length b9.list.cp)]) rfl rfl rfl rfl rfl .here rfl rfl rfl ?_)
  refine Ow_q rfl rfl rfl (Qt_assign rfl) ?_
  refine Ow_nil ?_
  refine Cw_seq ?_
  refine Cw_region ?_
  refine Ow_q rfl rfl rfl (Qt_loadA (m := 3) (cs := Mem.cells m8) rfl rfl rfl rfl ⟨rfl, Rdc.blk (.tail _ (.tail _ (.head _))) rfl⟩) ?_
  refine Ow_q rfl rfl rfl (Qt_loadA (m := 5) (cs := Access.cells (Access.mk 3 0 0 1 0)) rfl rfl rfl rfl ⟨rfl, Rdc.blk (.tail _ (.head _)) rfl⟩) ?_
  refine Ow_cons rfl (OpW_call rfl Try.call34 rfl rfl (c_apply m8 (Access.mk 3 0 0 1 0) _ _ hm12) ?_)
  rintro _ K19 _ hK20 ⟨m17, b18, rfl, rfl, hm21, hb22, he23⟩
  have he231 : m17.abs = (applyS m8.abs (Access.mk 3 0 0 1 0)).1 := by rw [← he23]
  have he232 : b18.abs = (applyS m8.abs (Access.mk 3 0 0 1 0)).2 := by rw [← he23]
  have hs24 := hs15.mono hK20
  have hs25 := hb13.mono hK20
  have hs26 := hm12.mono hK20
  have hm21w := Sl.le hm21.w
  have hm21l := Sl.le hm21.l
  have hm21zw := hm21.zw
  have hm21zl := hm21.zl
  refine Ow_q rfl rfl rfl (Qt_move rfl) ?_
  refine Ow_q rfl rfl rfl (Qt_extract rfl rfl) ?_
  refine Ow_q rfl rfl rfl (Qt_extract rfl rfl) ?_
  refine Ow_q rfl rfl rfl (Qt_extract rfl rfl) ?_
  refine Ow_cons rfl (OpW_alloc (cs := [(.slice none 0 0), (.slice none 0 0), (.int .i64 0)]) rfl rfl rfl rfl (fun b27 => ?_))
  refine Ow_cons rfl (OpW_alloc (cs := [(.int .u64 0), (.bool false), (.bool false), (.slice none 0 0)]) rfl rfl rfl rfl (fun b28 => ?_))
  refine Ow_cons rfl (OpW_store (vs := [(.slice m17.words.A m17.words.l.length m17.words.cp), (.slice m17.lists.A m17.lists.l.length m17.lists.cp), (.int .i64 m17.tick)]) (all' := [(.slice m17.words.A m17.words.l.length m17.words.cp), (.slice m17.lists.A m17.lists.l.length m17.lists.cp), (.int .i64 m17.tick)]) rfl rfl rfl rfl rfl (.there .here) rfl rfl rfl ?_)
  refine Ow_cons rfl (OpW_store (vs := [(.int .u64 b18.value), (.bool b18.ok), (.bool b18.late), (.slice b18.list.A b18.list.l.length b18.list.cp)]) (all' := [(.int .u64 b18.value), (.bool b18.ok), (.bool b18.late), (.slice b18.list.A b18.list.l.length b18.list.cp)]) rfl rfl rfl rfl rfl .here rfl rfl rfl ?_)
  refine Ow_q rfl rfl rfl (Qt_assign rfl) ?_
  refine Ow_nil ?_
  refine Cw_seq ?_
  refine Cw_region ?_
  refine Ow_q rfl rfl rfl (Qt_move rfl) ?_
  refine Ow_q rfl rfl rfl (Qt_move rfl) ?_
  refine Ow_caseG rfl rfl rfl ?_ ?_
  · intro h29
    refine Ow_qw rfl rfl rfl rfl rfl rfl (Qt_fieldAddr (m := 1) rfl rfl rfl rfl rfl) ?_
    refine Ow_qw rfl rfl rfl rfl rfl rfl (Qt_load1 (v := (.bool b9.ok)) rfl rfl rfl (Rdc.blk (.tail _ (.tail _ (.head _))) rfl)) ?_
    refine Ow_q rfl rfl rfl (Qt_pick_t rfl rfl) ?_
    refine Ow_q rfl rfl rfl (Qt_move rfl) ?_
    refine Ow_caseG rfl rfl rfl ?_ ?_
    · intro h30
      refine Ow_qw rfl rfl rfl rfl rfl rfl (Qt_fieldAddr (m := 0) rfl rfl rfl rfl rfl) ?_
      refine Ow_qw rfl rfl rfl rfl rfl rfl (Qt_load1 (v := (.int .u64 b9.value)) rfl rfl rfl (Rdc.blk (.tail _ (.tail _ (.head _))) rfl)) ?_
      refine Ow_qw rfl rfl rfl rfl rfl rfl (Qt_cmp rfl rfl rfl) ?_
      refine Ow_q rfl rfl rfl (Qt_pick_t rfl rfl) ?_
      refine Ow_q rfl rfl rfl (Qt_move rfl) ?_
      refine Ow_caseG rfl rfl rfl ?_ ?_
      · intro h31
        have h31 := dcd_t (h31)
        refine Ow_qw rfl rfl rfl rfl rfl rfl (Qt_move rfl) ?_
        refine Ow_q rfl rfl rfl (Qt_pick_t rfl rfl) ?_
        refine Ow_q rfl rfl rfl (Qt_move rfl) ?_
        refine Ow_caseG rfl rfl rfl ?_ ?_
        · intro h32
          refine Ow_qw rfl rfl rfl rfl rfl rfl (Qt_fieldAddr (m := 1) rfl rfl rfl rfl rfl) ?_
          refine Ow_qw rfl rfl rfl rfl rfl rfl (Qt_load1 (v := (.bool b18.ok)) rfl rfl rfl (Rdc.blk (.head _) rfl)) ?_
          refine Ow_qw rfl rfl rfl rfl rfl rfl (Qt_not rfl) ?_
          refine Ow_q rfl rfl rfl (Qt_pick_t rfl rfl) ?_
          refine Ow_q rfl rfl rfl (Qt_move rfl) ?_
          refine Ow_caseG rfl rfl rfl ?_ ?_
          · intro h33
            have h33 := nt_t (h33)
            refine Ow_qw rfl rfl rfl rfl rfl rfl (Qt_fieldAddr (m := 0) rfl rfl rfl rfl rfl) ?_
            refine Ow_qw rfl rfl rfl rfl rfl rfl (Qt_load1 (v := (.int .u64 b18.value)) rfl rfl rfl (Rdc.blk (.head _) rfl)) ?_
            refine Ow_qw rfl rfl rfl rfl rfl rfl (Qt_cmp rfl rfl rfl) ?_
            refine Ow_q rfl rfl rfl (Qt_pick_t rfl rfl) ?_
            refine Ow_q rfl rfl rfl (Qt_assign rfl) ?_
            refine Ow_nil ?_
            refine Cw_ret ?_
            refine ⟨(by first | exact .inl rfl | exact .inr rfl), [(.bool (dcd (b18.value = 1)))], G, ⟨(.bool (dcd (b18.value = 1))), _, rfl, rfl, rfl⟩, .cons _ (.cons _ (.cons _ (.cons _ (.cons _ (.refl _))))), ?_⟩
            exact ⟨by first | rfl | (exfalso; simp_all [dcd_eq, Nat.not_lt_of_le, List.erase_of_not_mem, listS, wordS, applyS, Mem.abs, getI_map, Answer.abs, an0, changeL, List.map_set, erase_idx, mkRes, grantedS, waitS, getI, An.mk.injEq]; done) | (simp_all [dcd_eq, Nat.not_lt_of_le, List.erase_of_not_mem, listS, wordS, applyS, Mem.abs, getI_map, Answer.abs, an0, changeL, List.map_set, erase_idx, mkRes, grantedS, waitS, getI, An.mk.injEq]; done), rfl⟩
          · intro h33
            have h33 := nt_f (h33)
            refine Ow_pass rfl rfl rfl rfl rfl rfl rfl ?_
            refine Ow_pass rfl rfl rfl rfl rfl rfl rfl ?_
            refine Ow_pass rfl rfl rfl rfl rfl rfl rfl ?_
            refine Ow_q rfl rfl rfl (Qt_pick_f rfl rfl) ?_
            refine Ow_q rfl rfl rfl (Qt_assign rfl) ?_
            refine Ow_nil ?_
            refine Cw_ret ?_
            refine ⟨(by first | exact .inl rfl | exact .inr rfl), [(.bool false)], G, ⟨(.bool false), _, rfl, rfl, rfl⟩, .cons _ (.cons _ (.cons _ (.cons _ (.cons _ (.refl _))))), ?_⟩
            exact ⟨by first | rfl | (exfalso; simp_all [dcd_eq, Nat.not_lt_of_le, List.erase_of_not_mem, listS, wordS, applyS, Mem.abs, getI_map, Answer.abs, an0, changeL, List.map_set, erase_idx, mkRes, grantedS, waitS, getI, An.mk.injEq]; done) | (simp_all [dcd_eq, Nat.not_lt_of_le, List.erase_of_not_mem, listS, wordS, applyS, Mem.abs, getI_map, Answer.abs, an0, changeL, List.map_set, erase_idx, mkRes, grantedS, waitS, getI, An.mk.injEq]; done), rfl⟩
        · intro h32
          refine Ow_pass rfl rfl rfl rfl rfl rfl rfl ?_
          refine Ow_pass rfl rfl rfl rfl rfl rfl rfl ?_
          refine Ow_pass rfl rfl rfl rfl rfl rfl rfl ?_
          refine Ow_q rfl rfl rfl (Qt_pick_f rfl rfl) ?_
          refine Ow_q rfl rfl rfl (Qt_move rfl) ?_
          refine Ow_pass rfl rfl rfl rfl rfl rfl rfl ?_
          refine Ow_pass rfl rfl rfl rfl rfl rfl rfl ?_
          refine Ow_pass rfl rfl rfl rfl rfl rfl rfl ?_
          refine Ow_q rfl rfl rfl (Qt_pick_f rfl rfl) ?_
          refine Ow_q rfl rfl rfl (Qt_assign rfl) ?_
          refine Ow_nil ?_
          refine Cw_ret ?_
          refine ⟨(by first | exact .inl rfl | exact .inr rfl), [(.bool false)], G, ⟨(.bool false), _, rfl, rfl, rfl⟩, .cons _ (.cons _ (.cons _ (.cons _ (.cons _ (.refl _))))), ?_⟩
          exact ⟨by first | rfl | (exfalso; simp_all [dcd_eq, Nat.not_lt_of_le, List.erase_of_not_mem, listS, wordS, applyS, Mem.abs, getI_map, Answer.abs, an0, changeL, List.map_set, erase_idx, mkRes, grantedS, waitS, getI, An.mk.injEq]; done) | (simp_all [dcd_eq, Nat.not_lt_of_le, List.erase_of_not_mem, listS, wordS, applyS, Mem.abs, getI_map, Answer.abs, an0, changeL, List.map_set, erase_idx, mkRes, grantedS, waitS, getI, An.mk.injEq]; done), rfl⟩
      · intro h31
        have h31 := dcd_f (h31)
        refine Ow_pass rfl rfl rfl rfl rfl rfl rfl ?_
        refine Ow_q rfl rfl rfl (Qt_pick_f rfl rfl) ?_
        refine Ow_q rfl rfl rfl (Qt_move rfl) ?_
        refine Ow_pass rfl rfl rfl rfl rfl rfl rfl ?_
        refine Ow_pass rfl rfl rfl rfl rfl rfl rfl ?_
        refine Ow_pass rfl rfl rfl rfl rfl rfl rfl ?_
        refine Ow_q rfl rfl rfl (Qt_pick_f rfl rfl) ?_
        refine Ow_q rfl rfl rfl (Qt_move rfl) ?_
        refine Ow_pass rfl rfl rfl rfl rfl rfl rfl ?_
        refine Ow_pass rfl rfl rfl rfl rfl rfl rfl ?_
        refine Ow_pass rfl rfl rfl rfl rfl rfl rfl ?_
        refine Ow_q rfl rfl rfl (Qt_pick_f rfl rfl) ?_
        refine Ow_q rfl rfl rfl (Qt_assign rfl) ?_
        refine Ow_nil ?_
        refine Cw_ret ?_
        refine ⟨(by first | exact .inl rfl | exact .inr rfl), [(.bool false)], G, ⟨(.bool false), _, rfl, rfl, rfl⟩, .cons _ (.cons _ (.cons _ (.cons _ (.cons _ (.refl _))))), ?_⟩
        exact ⟨by first | rfl | (exfalso; simp_all [dcd_eq, Nat.not_lt_of_le, List.erase_of_not_mem, listS, wordS, applyS, Mem.abs, getI_map, Answer.abs, an0, changeL, List.map_set, erase_idx, mkRes, grantedS, waitS, getI, An.mk.injEq]; done) | (simp_all [dcd_eq, Nat.not_lt_of_le, List.erase_of_not_mem, listS, wordS, applyS, Mem.abs, getI_map, Answer.abs, an0, changeL, List.map_set, erase_idx, mkRes, grantedS, waitS, getI, An.mk.injEq]; done), rfl⟩
    · intro h30
      refine Ow_pass rfl rfl rfl rfl rfl rfl rfl ?_
      refine Ow_pass rfl rfl rfl rfl rfl rfl rfl ?_
      refine Ow_pass rfl rfl rfl rfl rfl rfl rfl ?_
      refine Ow_q rfl rfl rfl (Qt_pick_f rfl rfl) ?_
      refine Ow_q rfl rfl rfl (Qt_move rfl) ?_
      refine Ow_pass rfl rfl rfl rfl rfl rfl rfl ?_
      refine Ow_q rfl rfl rfl (Qt_pick_f rfl rfl) ?_
      refine Ow_q rfl rfl rfl (Qt_move rfl) ?_
      refine Ow_pass rfl rfl rfl rfl rfl rfl rfl ?_
      refine Ow_pass rfl rfl rfl rfl rfl rfl rfl ?_
      refine Ow_pass rfl rfl rfl rfl rfl rfl rfl ?_
      refine Ow_q rfl rfl rfl (Qt_pick_f rfl rfl) ?_
      refine Ow_q rfl rfl rfl (Qt_move rfl) ?_
      refine Ow_pass rfl rfl rfl rfl rfl rfl rfl ?_
      refine Ow_pass rfl rfl rfl rfl rfl rfl rfl ?_
      refine Ow_pass rfl rfl rfl rfl rfl rfl rfl ?_
      refine Ow_q rfl rfl rfl (Qt_pick_f rfl rfl) ?_
      refine Ow_q rfl rfl rfl (Qt_assign rfl) ?_
      refine Ow_nil ?_
      refine Cw_ret ?_
      refine ⟨(by first | exact .inl rfl | exact .inr rfl), [(.bool false)], G, ⟨(.bool false), _, rfl, rfl, rfl⟩, .cons _ (.cons _ (.cons _ (.cons _ (.cons _ (.refl _))))), ?_⟩
      exact ⟨by first | rfl | (exfalso; simp_all [dcd_eq, Nat.not_lt_of_le, List.erase_of_not_mem, listS, wordS, applyS, Mem.abs, getI_map, Answer.abs, an0, changeL, List.map_set, erase_idx, mkRes, grantedS, waitS, getI, An.mk.injEq]; done) | (simp_all [dcd_eq, Nat.not_lt_of_le, List.erase_of_not_mem, listS, wordS, applyS, Mem.abs, getI_map, Answer.abs, an0, changeL, List.map_set, erase_idx, mkRes, grantedS, waitS, getI, An.mk.injEq]; done), rfl⟩
  · intro h29
    refine Ow_pass rfl rfl rfl rfl rfl rfl rfl ?_
    refine Ow_pass rfl rfl rfl rfl rfl rfl rfl ?_
    refine Ow_q rfl rfl rfl (Qt_pick_f rfl rfl) ?_
    refine Ow_q rfl rfl rfl (Qt_move rfl) ?_
    refine Ow_pass rfl rfl rfl rfl rfl rfl rfl ?_
    refine Ow_pass rfl rfl rfl rfl rfl rfl rfl ?_
    refine Ow_pass rfl rfl rfl rfl rfl rfl rfl ?_
    refine Ow_q rfl rfl rfl (Qt_pick_f rfl rfl) ?_
    refine Ow_q rfl rfl rfl (Qt_move rfl) ?_
    refine Ow_pass rfl rfl rfl rfl rfl rfl rfl ?_
    refine Ow_q rfl rfl rfl (Qt_pick_f rfl rfl) ?_
    refine Ow_q rfl rfl rfl (Qt_move rfl) ?_
    refine Ow_pass rfl rfl rfl rfl rfl rfl rfl ?_
    refine Ow_pass rfl rfl rfl rfl rfl rfl rfl ?_
    refine Ow_pass rfl rfl rfl rfl rfl rfl rfl ?_
    refine Ow_q rfl rfl rfl (Qt_pick_f rfl rfl) ?_
    refine Ow_q rfl rfl rfl (Qt_move rfl) ?_
    refine Ow_pass rfl rfl rfl rfl rfl rfl rfl ?_
    refine Ow_pass rfl rfl rfl rfl rfl rfl rfl ?_
    refine Ow_pass rfl rfl rfl rfl rfl rfl rfl ?_
    refine Ow_q rfl rfl rfl (Qt_pick_f rfl rfl) ?_
    refine Ow_q rfl rfl rfl (Qt_assign rfl) ?_
    refine Ow_nil ?_
    refine Cw_ret ?_
    refine ⟨(by first | exact .inl rfl | exact .inr rfl), [(.bool false)], G, ⟨(.bool false), _, rfl, rfl, rfl⟩, .cons _ (.cons _ (.cons _ (.cons _ (.cons _ (.refl _))))), ?_⟩
    exact ⟨by first | rfl | (exfalso; simp_all [dcd_eq, Nat.not_lt_of_le, List.erase_of_not_mem, listS, wordS, applyS, Mem.abs, getI_map, Answer.abs, an0, changeL, List.map_set, erase_idx, mkRes, grantedS, waitS, getI, An.mk.injEq]; done) | (simp_all [dcd_eq, Nat.not_lt_of_le, List.erase_of_not_mem, listS, wordS, applyS, Mem.abs, getI_map, Answer.abs, an0, changeL, List.map_set, erase_idx, mkRes, grantedS, waitS, getI, An.mk.injEq]; done), rfl⟩

end Go.Ghl
