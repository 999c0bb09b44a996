/- Contracts of functions, walked: printed by program. -/
import Derived.Test.YtgkmiemclhaahaaProg
import Derived.Test.YtgkmiemclhaahaaGhlMore
import Derived.Test.YtgkmiemclhaahaaSAMey
namespace Go.Ghl
open Go.Proofs
set_option linter.unusedSimpArgs false
set_option linter.unusedVariables false

set_option maxHeartbeats 1000000 in
theorem c_list (m : Mem) (a : Access) (hk : 7 ≤ a.kind ∧ a.kind ≤ 9) (K : Kp) (G : List Ent) (hm : MemOk K m) :
    Fc Try.prog 52 #[(Mem.val m), (Access.val a)] K G (fun v K' G' => ∃ m' b, v = .tuple #[Mem.val m', Answer.val b] ∧ G = G' ∧ MemOk K' m' ∧ AnsOk K' b ∧ (m'.abs, b.abs) = listS m.abs a) := by
  refine Fc_of Try.func52 rfl Try.ntmps52 Try.results52 rfl ?_
  have hmw := Sl.le hm.w
  have hml := Sl.le hm.l
  have hmzw := hm.zw
  have hmzl := hm.zl
  refine Cw_seq ?_
  refine Cw_region ?_
  refine Ow_cons rfl (OpW_box (cs := [(.slice m.words.A m.words.l.length m.words.cp), (.slice m.lists.A m.lists.l.length m.lists.cp), (.int .i64 m.tick)]) rfl rfl rfl (fun b1 => ?_))
  refine Ow_cons rfl (OpW_box (cs := [(.int .i64 a.kind), (.int .i64 a.address), (.int .u64 a.old), (.int .u64 a.new), (.int .i64 a.until_)]) rfl rfl rfl (fun b2 => ?_))
  refine Ow_cons rfl (OpW_alloc (cs := [(.slice none 0 0), (.slice none 0 0), (.int .i64 0)]) rfl rfl rfl rfl (fun b3 => ?_))
  refine Ow_cons rfl (OpW_alloc (cs := [(.int .u64 0), (.bool false), (.bool false), (.slice none 0 0)]) rfl rfl rfl rfl (fun b4 => ?_))
  refine Ow_nil ?_
  refine Cw_seq ?_
  refine Cw_seq ?_
  refine Cw_region ?_
  refine Ow_q rfl rfl rfl (Qt_fieldAddr (m := 1) rfl rfl rfl rfl rfl) ?_
  refine Ow_q rfl rfl rfl (Qt_load1 (v := (.int .i64 a.address)) rfl rfl rfl (Rdc.blk (.tail _ (.tail _ (.head _))) rfl)) ?_
  refine Ow_q rfl rfl rfl (Qt_cmp rfl rfl rfl) ?_
  refine Ow_q rfl rfl rfl (Qt_move rfl) ?_
  refine Ow_caseG rfl rfl rfl ?_ ?_
  · intro h5
    have h5 := dcd_t (h5)
    refine Ow_pass rfl rfl rfl rfl rfl rfl rfl ?_
    refine Ow_pass rfl rfl rfl rfl rfl rfl rfl ?_
    refine Ow_pass rfl rfl rfl rfl rfl rfl rfl ?_
    refine Ow_pass rfl rfl rfl rfl rfl rfl rfl ?_
    refine Ow_pass rfl rfl rfl rfl rfl rfl rfl ?_
    refine Ow_pass rfl rfl rfl rfl rfl rfl rfl ?_
    refine Ow_q rfl rfl rfl (Qt_pick_t rfl rfl) ?_
    refine Ow_nil ?_
    refine Cw_cond_t rfl ?_
    refine Cw_seq ?_
    refine Cw_region ?_
    refine Ow_q rfl rfl rfl (Qt_loadA (m := 3) (cs := Mem.cells m) rfl rfl rfl rfl ⟨rfl, Rdc.blk (.tail _ (.tail _ (.tail _ (.head _)))) rfl⟩) ?_
    refine Ow_q rfl rfl rfl (Qt_build (cs := Answer.cells (Answer.mk 0 false false (SI.mk none 0 []))) rfl rfl rfl rfl rfl rfl) ?_
    refine Ow_cons rfl (OpW_store (vs := [(.slice m.words.A m.words.l.length m.words.cp), (.slice m.lists.A m.lists.l.length m.lists.cp), (.int .i64 m.tick)]) (all' := [(.slice m.words.A m.words.l.length m.words.cp), (.slice m.lists.A m.lists.l.length m.lists.cp), (.int .i64 m.tick)]) rfl rfl rfl rfl rfl (.there .here) rfl rfl rfl ?_)
    refine Ow_cons rfl (OpW_store (vs := [(.int .u64 0), (.bool false), (.bool false), (.slice none 0 0)]) (all' := [(.int .u64 0), (.bool false), (.bool false), (.slice none 0 0)]) rfl rfl rfl rfl rfl .here rfl rfl rfl ?_)
    refine Ow_nil ?_
    refine Cw_ret ?_
    refine ⟨(by first | exact .inl rfl | exact .inr rfl), [(Mem.val m), (Answer.val (Answer.mk 0 false false (SI.mk none 0 [])))], G, ⟨(Mem.val m), _, rfl, ⟨_, 3, Mem.cells m, rfl, rfl, rfl, rfl, ⟨rfl, Rdc.blk (.tail _ (.head _)) rfl⟩, rfl⟩, ⟨(Answer.val (Answer.mk 0 false false (SI.mk none 0 []))), _, rfl, ⟨_, 4, Answer.cells (Answer.mk 0 false false (SI.mk none 0 [])), rfl, rfl, rfl, rfl, ⟨rfl, Rdc.blk (.head _) rfl⟩, rfl⟩, rfl⟩⟩, .cons _ (.cons _ (.cons _ (.cons _ (.refl _)))), ?_⟩
    have q := getI_none (l := m.lists.l) (n := a.address) (by omega)
    exact ⟨m, (Answer.mk 0 false false (SI.mk none 0 [])), rfl, rfl, hm, ⟨(Sl.nil _ _)⟩, by first | (simp [dcd_eq, Nat.not_lt_of_le, List.erase_of_not_mem, listS, wordS, applyS, Mem.abs, getI_map, Answer.abs, an0, changeL, List.map_set, erase_idx, mkRes, q, *]; done) | (simp_all [dcd_eq, Nat.not_lt_of_le, List.erase_of_not_mem, listS, wordS, applyS, Mem.abs, getI_map, Answer.abs, an0, changeL, List.map_set, erase_idx, mkRes]; done)⟩
  · intro h5
    have h5 := dcd_f (h5)
    refine Ow_qw rfl rfl rfl rfl rfl rfl (Qt_fieldAddr (m := 1) rfl rfl rfl rfl rfl) ?_
    refine Ow_qw rfl rfl rfl rfl rfl rfl (Qt_load1 (v := (.int .i64 a.address)) rfl rfl rfl (Rdc.blk (.tail _ (.tail _ (.head _))) rfl)) ?_
    refine Ow_qw rfl rfl rfl rfl rfl rfl (Qt_fieldAddr (m := 1) rfl rfl rfl rfl rfl) ?_
    refine Ow_qw rfl rfl rfl rfl rfl rfl (Qt_load1 (v := (.slice m.lists.A m.lists.l.length m.lists.cp)) rfl rfl rfl (Rdc.blk (.tail _ (.tail _ (.tail _ (.head _)))) rfl)) ?_
    refine Ow_qw rfl rfl rfl rfl rfl rfl (Qt_len rfl rfl) ?_
    refine Ow_qw rfl rfl rfl rfl rfl rfl (Qt_cmp rfl rfl rfl) ?_
    refine Ow_q rfl rfl rfl (Qt_pick_f rfl rfl) ?_
    refine Ow_nil ?_
    refine Cw_cond rfl ?_ ?_
    · intro h6
      have h6 := dcd_t (h6)
      refine Cw_seq ?_
      refine Cw_region ?_
      refine Ow_q rfl rfl rfl (Qt_loadA (m := 3) (cs := Mem.cells m) rfl rfl rfl rfl ⟨rfl, Rdc.blk (.tail _ (.tail _ (.tail _ (.head _)))) rfl⟩) ?_
      refine Ow_q rfl rfl rfl (Qt_build (cs := Answer.cells (Answer.mk 0 false false (SI.mk none 0 []))) rfl rfl rfl rfl rfl rfl) ?_
      refine Ow_cons rfl (OpW_store (vs := [(.slice m.words.A m.words.l.length m.words.cp), (.slice m.lists.A m.lists.l.length m.lists.cp), (.int .i64 m.tick)]) (all' := [(.slice m.words.A m.words.l.length m.words.cp), (.slice m.lists.A m.lists.l.length m.lists.cp), (.int .i64 m.tick)]) rfl rfl rfl rfl rfl (.there .here) rfl rfl rfl ?_)
      refine Ow_cons rfl (OpW_store (vs := [(.int .u64 0), (.bool false), (.bool false), (.slice none 0 0)]) (all' := [(.int .u64 0), (.bool false), (.bool false), (.slice none 0 0)]) rfl rfl rfl rfl rfl .here rfl rfl rfl ?_)
      refine Ow_nil ?_
      refine Cw_ret ?_
      refine ⟨(by first | exact .inl rfl | exact .inr rfl), [(Mem.val m), (Answer.val (Answer.mk 0 false false (SI.mk none 0 [])))], G, ⟨(Mem.val m), _, rfl, ⟨_, 3, Mem.cells m, rfl, rfl, rfl, rfl, ⟨rfl, Rdc.blk (.tail _ (.head _)) rfl⟩, rfl⟩, ⟨(Answer.val (Answer.mk 0 false false (SI.mk none 0 []))), _, rfl, ⟨_, 4, Answer.cells (Answer.mk 0 false false (SI.mk none 0 [])), rfl, rfl, rfl, rfl, ⟨rfl, Rdc.blk (.head _) rfl⟩, rfl⟩, rfl⟩⟩, .cons _ (.cons _ (.cons _ (.cons _ (.refl _)))), ?_⟩
      have q := getI_none (l := m.lists.l) (n := a.address) (by omega)
      exact ⟨m, (Answer.mk 0 false false (SI.mk none 0 [])), rfl, rfl, hm, ⟨(Sl.nil _ _)⟩, by first | (simp [dcd_eq, Nat.not_lt_of_le, List.erase_of_not_mem, listS, wordS, applyS, Mem.abs, getI_map, Answer.abs, an0, changeL, List.map_set, erase_idx, mkRes, q, *]; done) | (simp_all [dcd_eq, Nat.not_lt_of_le, List.erase_of_not_mem, listS, wordS, applyS, Mem.abs, getI_map, Answer.abs, an0, changeL, List.map_set, erase_idx, mkRes]; done)⟩
    · intro h6
      have h6 := dcd_f (h6)
      refine Cw_skip ?_
      refine Cw_seq ?_
      refine Cw_region ?_
      refine Ow_q rfl rfl rfl (Qt_fieldAddr (m := 1) rfl rfl rfl rfl rfl) ?_
      refine Ow_q rfl rfl rfl (Qt_load1 (v := (.slice m.lists.A m.lists.l.length m.lists.cp)) rfl rfl rfl (Rdc.blk (.tail _ (.tail _ (.tail _ (.head _)))) rfl)) ?_
      refine Ow_q rfl rfl rfl (Qt_fieldAddr (m := 1) rfl rfl rfl rfl rfl) ?_
      refine Ow_q rfl rfl rfl (Qt_load1 (v := (.int .i64 a.address)) rfl rfl rfl (Rdc.blk (.tail _ (.tail _ (.head _))) rfl)) ?_
      obtain ⟨x7, hx8⟩ : ∃ x, m.lists.l[(a.address).toNat]? = some x := ⟨_, List.getElem?_eq_getElem (by first | omega | (simp only [List.length_append, List.length_cons, List.length_nil, List.length_replicate, List.length_set]; omega) | (simp; omega))⟩
      have hs_x7 := (hm.x _ (List.mem_of_getElem? hx8)).1
      have hz9 := (hm.x _ (List.mem_of_getElem? hx8)).2
      have hl10 := Sl.le hs_x7
      refine Ow_q rfl rfl rfl (Qt_ixK (q := (a.address).toNat) rfl rfl rfl rfl rfl hm.l (by omega) (map_get hx8)) ?_
      refine Ow_q rfl rfl rfl (Qt_load1 (v := (.slice x7.A x7.l.length x7.cp)) rfl rfl rfl (Rdc.k (Sl.at hm.l (map_get hx8)) rfl)) ?_
      refine Ow_q rfl rfl rfl (Qt_assign rfl) ?_
      refine Ow_nil ?_
      refine Cw_seq ?_
      refine Cw_seq ?_
      refine Cw_region ?_
      refine Ow_q rfl rfl rfl (Qt_fieldAddr (m := 0) rfl rfl rfl rfl rfl) ?_
      refine Ow_q rfl rfl rfl (Qt_load1 (v := (.int .i64 a.kind)) rfl rfl rfl (Rdc.blk (.tail _ (.tail _ (.head _))) rfl)) ?_
      refine Ow_q rfl rfl rfl (Qt_cmp rfl rfl rfl) ?_
      refine Ow_nil ?_
      refine Cw_cond rfl ?_ ?_
      · intro h11
        have h11 := dcd_t (h11)
        refine Cw_seq ?_
        refine Cw_region ?_
        refine Ow_q rfl rfl rfl (Qt_loadA (m := 3) (cs := Mem.cells m) rfl rfl rfl rfl ⟨rfl, Rdc.blk (.tail _ (.tail _ (.tail _ (.head _)))) rfl⟩) ?_
        refine Ow_q rfl rfl rfl (Qt_move rfl) ?_
        refine Ow_q rfl rfl rfl (Qt_build (cs := Answer.cells (Answer.mk 0 false false x7)) rfl rfl rfl rfl rfl rfl) ?_
        refine Ow_cons rfl (OpW_store (vs := [(.slice m.words.A m.words.l.length m.words.cp), (.slice m.lists.A m.lists.l.length m.lists.cp), (.int .i64 m.tick)]) (all' := [(.slice m.words.A m.words.l.length m.words.cp), (.slice m.lists.A m.lists.l.length m.lists.cp), (.int .i64 m.tick)]) rfl rfl rfl rfl rfl (.there .here) rfl rfl rfl ?_)
        refine Ow_cons rfl (OpW_store (vs := [(.int .u64 0), (.bool false), (.bool false), (.slice x7.A x7.l.length x7.cp)]) (all' := [(.int .u64 0), (.bool false), (.bool false), (.slice x7.A x7.l.length x7.cp)]) rfl rfl rfl rfl rfl .here rfl rfl rfl ?_)
        refine Ow_nil ?_
        refine Cw_ret ?_
        refine ⟨(by first | exact .inl rfl | exact .inr rfl), [(Mem.val m), (Answer.val (Answer.mk 0 false false x7))], G, ⟨(Mem.val m), _, rfl, ⟨_, 3, Mem.cells m, rfl, rfl, rfl, rfl, ⟨rfl, Rdc.blk (.tail _ (.head _)) rfl⟩, rfl⟩, ⟨(Answer.val (Answer.mk 0 false false x7)), _, rfl, ⟨_, 4, Answer.cells (Answer.mk 0 false false x7), rfl, rfl, rfl, rfl, ⟨rfl, Rdc.blk (.head _) rfl⟩, rfl⟩, rfl⟩⟩, .cons _ (.cons _ (.cons _ (.cons _ (.refl _)))), ?_⟩
        have q := getI_of (l := m.lists.l) (n := a.address) (by omega) hx8
        have q3 : (m.lists.l.map SI.l).set a.address.toNat x7.l = m.lists.l.map SI.l := set_get (by simp [hx8])
        rcases (show x7.l.length < 1000 ∨ ¬ x7.l.length < 1000 by omega) with q4 | q4 <;> first | (exfalso; omega) | (exact ⟨m, (Answer.mk 0 false false x7), rfl, rfl, hm, ⟨hs_x7⟩, by first | (simp [dcd_eq, Nat.not_lt_of_le, List.erase_of_not_mem, listS, wordS, applyS, Mem.abs, getI_map, Answer.abs, an0, changeL, List.map_set, erase_idx, mkRes, q, *]; done) | (simp_all [dcd_eq, Nat.not_lt_of_le, List.erase_of_not_mem, listS, wordS, applyS, Mem.abs, getI_map, Answer.abs, an0, changeL, List.map_set, erase_idx, mkRes]; done)⟩)
      · intro h11
        have h11 := dcd_f (h11)
        refine Cw_skip ?_
        refine Cw_seq ?_
        refine Cw_region ?_
        refine Ow_q rfl rfl rfl (Qt_fieldAddr (m := 3) rfl rfl rfl rfl rfl) ?_
        refine Ow_q rfl rfl rfl (Qt_load1 (v := (.int .u64 a.new)) rfl rfl rfl (Rdc.blk (.tail _ (.tail _ (.head _))) rfl)) ?_
        refine Ow_q rfl rfl rfl (Qt_conv (c := IntKind.i64.wrap a.new) rfl rfl rfl rfl) ?_
        refine Ow_q rfl rfl rfl (Qt_assign rfl) ?_
        refine Ow_nil ?_
        refine Cw_seq ?_
        refine Cw_region ?_
        refine Ow_q rfl rfl rfl (Qt_move rfl) ?_
        refine Ow_q rfl rfl rfl (Qt_move rfl) ?_
        rcases idx_cases x7.l (IntKind.i64.wrap a.new) with hm12 | hm12
        · skip
          refine Ow_cons rfl (OpW_callP (v0 := (.int .i64 (-1))) rfl Try.call61 rfl rfl (c_index x7.A x7.cp x7.l (IntKind.i64.wrap a.new) (-1) (by rw [ixS, if_neg hm12]) _ _ hs_x7) ?_)
          refine Ow_q rfl rfl rfl (Qt_assign rfl) ?_
          refine Ow_nil ?_
          refine Cw_seq ?_
          refine Cw_block ?_
          refine Cw_seq ?_
          refine Cw_region ?_
          refine Ow_q rfl rfl rfl (Qt_fieldAddr (m := 0) rfl rfl rfl rfl rfl) ?_
          refine Ow_q rfl rfl rfl (Qt_load1 (v := (.int .i64 a.kind)) rfl rfl rfl (Rdc.blk (.tail _ (.tail _ (.head _))) rfl)) ?_
          refine Ow_q rfl rfl rfl (Qt_cmp rfl rfl rfl) ?_
          refine Ow_q rfl rfl rfl (Qt_move rfl) ?_
          refine Ow_caseG rfl rfl rfl ?_ ?_
          · intro h13
            have h13 := dcd_t (h13)
            refine Ow_qw rfl rfl rfl rfl rfl rfl (Qt_move rfl) ?_
            refine Ow_qw rfl rfl rfl rfl rfl rfl (Qt_len rfl rfl) ?_
            refine Ow_qw rfl rfl rfl rfl rfl rfl (Qt_cmp rfl rfl rfl) ?_
            refine Ow_q rfl rfl rfl (Qt_pick_t rfl rfl) ?_
            refine Ow_q rfl rfl rfl (Qt_assign rfl) ?_
            refine Ow_nil ?_
            refine Cw_cond rfl ?_ ?_
            · intro h14
              have h14 := dcd_t (h14)
              refine Cw_region ?_
              refine Ow_q rfl rfl rfl (Qt_move rfl) ?_
              refine Ow_cons rfl (OpW_call rfl Try.call62 rfl rfl (c_cloneI x7.A x7.cp x7.l _ _ hs_x7 (by first | omega | (simp only [List.length_append, List.length_cons, List.length_nil, List.length_replicate, List.length_set]; omega) | (simp; omega))) ?_)
              rintro _ _ _ - ⟨A15, cp16, rfl, hA17, rfl, rfl⟩
              refine Ow_q rfl rfl rfl (Qt_move rfl) ?_
              refine Ow_cons rfl (OpW_buildSliceX (xs := (([IntKind.i64.wrap a.new]).map i64c).flatten) rfl rfl rfl rfl rfl rfl rfl rfl rfl rfl rfl (fun a18 => ?_))
              refine Ow_cons rfl (OpW_appendT (bytes := 8) (L := x7.l) (M := [IntKind.i64.wrap a.new]) Enc.i64 rfl rfl rfl (.tail _ (.head _)) (Src.row (.head _)) (by first | rfl | (simp; done) | (simp; omega)) rfl rfl rfl rfl rfl rfl rfl rfl (by first | omega | (simp only [List.length_append, List.length_cons, List.length_nil, List.length_replicate, List.length_set]; omega) | (simp; omega)) (by first | omega | (simp only [List.length_append, List.length_cons, List.length_nil, List.length_replicate, List.length_set]; omega) | (simp; omega)) ?_)
              intro A19 cp20 hA21
              obtain ⟨a22, rfl⟩ := hA21 (by first | (simp; done) | (simp; omega))
              refine ⟨_, (.there .here), ?_⟩
              refine Ow_q rfl rfl rfl (Qt_assign rfl) ?_
              refine Ow_nil ?_
              refine Cw_seq ?_
              refine Cw_region ?_
              refine Ow_q rfl rfl rfl (Qt_fieldAddr (m := 1) rfl rfl rfl rfl rfl) ?_
              refine Ow_q rfl rfl rfl (Qt_load1 (v := (.slice m.lists.A m.lists.l.length m.lists.cp)) rfl rfl rfl (Rdc.blk (.tail _ (.tail _ (.tail _ (.tail _ (.tail _ (.head _)))))) rfl)) ?_
              refine Ow_cons rfl (OpW_call rfl Try.call64 rfl rfl (c_cloneS m.lists.A m.lists.cp m.lists.l _ _ hm.l (by first | omega | (simp only [List.length_append, List.length_cons, List.length_nil, List.length_replicate, List.length_set]; omega) | (simp; omega)) hm.x) ?_)
              rintro _ _ _ - ⟨A23, cp24, rfl, hA25, rfl, rfl⟩
              obtain ⟨a26, rfl⟩ := hA25 (by first | omega | (simp only [List.length_append, List.length_cons, List.length_nil, List.length_replicate, List.length_set]; omega) | (simp; omega))
              refine Ow_q rfl rfl rfl (Qt_fieldAddr (m := 1) rfl rfl rfl rfl rfl) ?_
              refine Ow_cons rfl (OpW_store (vs := [(.slice (some a26) m.lists.l.length cp24)]) (all' := [(.slice m.words.A m.words.l.length m.words.cp), (.slice (some a26) m.lists.l.length cp24), (.int .i64 m.tick)]) rfl rfl rfl rfl rfl (.there (.there (.there (.there (.there (.there .here)))))) rfl rfl rfl ?_)
              refine Ow_nil ?_
              refine Cw_seq ?_
              refine Cw_region ?_
              refine Ow_q rfl rfl rfl (Qt_fieldAddr (m := 1) rfl rfl rfl rfl rfl) ?_
              refine Ow_q rfl rfl rfl (Qt_load1 (v := (.slice (some a26) m.lists.l.length cp24)) rfl rfl rfl (Rdc.blk (.tail _ (.tail _ (.tail _ (.tail _ (.tail _ (.tail _ (.head _))))))) rfl)) ?_
              refine Ow_q rfl rfl rfl (Qt_fieldAddr (m := 1) rfl rfl rfl rfl rfl) ?_
              refine Ow_q rfl rfl rfl (Qt_load1 (v := (.int .i64 a.address)) rfl rfl rfl (Rdc.blk (.tail _ (.tail _ (.tail _ (.tail _ (.tail _ (.head _)))))) rfl)) ?_
              refine Ow_q rfl rfl rfl (Qt_move rfl) ?_
              refine Ow_q rfl rfl rfl (Qt_ixG (q := (a.address).toNat) (o := ((a.address).toNat) * 1 + 0) rfl rfl rfl rfl rfl (by omega) (by first | omega | (simp only [List.length_append, List.length_cons, List.length_nil, List.length_replicate, List.length_set]; omega) | (simp; omega)) rfl) ?_
              refine Ow.settleT Enc.i64 rfl (.there (.there (.here))) ?_
              intro K27 hK28 hs29
              have hs30 := hm.mono hK28
              have hs31 := hs_x7.mono hK28
              have hl32 := Sl.le hs29
              have hX33 := SlAll.set (y := (SI.mk (some a22) cp20 (x7.l ++ [IntKind.i64.wrap a.new]))) hs30.x ((a.address).toNat) hs29 (by first | omega | (simp only [List.length_append, List.length_cons, List.length_nil, List.length_replicate, List.length_set]; omega) | (simp; omega))
              refine Ow_cons rfl (OpW_storeRowT (q := ((a.address).toNat)) (off := 0) (vs := [(.slice (some a22) ((x7.l ++ [IntKind.i64.wrap a.new]).length) cp20)]) (L := m.lists.l) (z' := (SI.mk (some a22) cp20 (x7.l ++ [IntKind.i64.wrap a.new]))) Enc.si rfl rfl rfl rfl rfl hx8 rfl rfl rfl .here ?_)
              refine Ow_nil ?_
              refine Cw_seq ?_
              refine Cw_region ?_
              refine Ow_q rfl rfl rfl (Qt_loadA (m := 3) (cs := Mem.cells (Mem.mk m.words (SS.mk (some a26) cp24 m.lists.l) m.tick)) rfl rfl rfl rfl ⟨rfl, Rdc.blk (.tail _ (.tail _ (.tail _ (.tail _ (.tail _ (.head _)))))) rfl⟩) ?_
              refine Ow_q rfl rfl rfl (Qt_move rfl) ?_
              refine Ow_q rfl rfl rfl (Qt_len rfl rfl) ?_
              refine Ow_q rfl rfl rfl (Qt_conv (c := (((x7.l ++ [IntKind.i64.wrap a.new]).length : Nat) : Int)) rfl rfl rfl (IntWalk.u64_in _ (by omega))) ?_
              refine Ow_q rfl rfl rfl (Qt_build (cs := Answer.cells (Answer.mk (((x7.l ++ [IntKind.i64.wrap a.new]).length : Nat) : Int) false false (SI.mk none 0 []))) rfl rfl rfl rfl rfl rfl) ?_
              refine Ow_cons rfl (OpW_store (vs := [(.slice m.words.A m.words.l.length m.words.cp), (.slice (some a26) m.lists.l.length cp24), (.int .i64 m.tick)]) (all' := [(.slice m.words.A m.words.l.length m.words.cp), (.slice (some a26) m.lists.l.length cp24), (.int .i64 m.tick)]) rfl rfl rfl rfl rfl (.there (.there (.there .here))) rfl rfl rfl ?_)
              refine Ow_cons rfl (OpW_store (vs := [(.int .u64 (((x7.l ++ [IntKind.i64.wrap a.new]).length : Nat) : Int)), (.bool false), (.bool false), (.slice none 0 0)]) (all' := [(.int .u64 (((x7.l ++ [IntKind.i64.wrap a.new]).length : Nat) : Int)), (.bool false), (.bool false), (.slice none 0 0)]) rfl rfl rfl rfl rfl (.there (.there .here)) rfl rfl rfl ?_)
              refine Ow_nil ?_
              rw [show (Value.slice (some a26) m.lists.l.length cp24) = (Value.slice (some a26) ((m.lists.l.set ((a.address).toNat) (SI.mk (some a22) cp20 (x7.l ++ [IntKind.i64.wrap a.new]))).length) cp24) by simp]
              refine Cw.settleT Enc.si rfl (.here) ?_
              intro K34 hK35 hs36
              have hs37 := hs30.mono hK35
              have hs38 := hs31.mono hK35
              have hs39 := hs29.mono hK35
              have hs40 := hX33.mono hK35
              have hl41 := Sl.le hs36
              refine Cw.settleT Enc.i64 rfl (.here) ?_
              intro K42 hK43 hs44
              have hs45 := hs37.mono hK43
              have hs46 := hs38.mono hK43
              have hs47 := hs39.mono hK43
              have hs48 := hs40.mono hK43
              have hs49 := hs36.mono hK43
              have hl50 := Sl.le hs44
              refine Cw_ret ?_
              refine ⟨(by first | exact .inl rfl | exact .inr rfl), [(Mem.val (Mem.mk m.words (SS.mk (some a26) cp24 (m.lists.l.set ((a.address).toNat) (SI.mk (some a22) cp20 (x7.l ++ [IntKind.i64.wrap a.new])))) m.tick)), (Answer.val (Answer.mk (((x7.l ++ [IntKind.i64.wrap a.new]).length : Nat) : Int) false false (SI.mk none 0 [])))], G, ⟨(Mem.val (Mem.mk m.words (SS.mk (some a26) cp24 (m.lists.l.set ((a.address).toNat) (SI.mk (some a22) cp20 (x7.l ++ [IntKind.i64.wrap a.new])))) m.tick)), _, rfl, ⟨_, 3, Mem.cells (Mem.mk m.words (SS.mk (some a26) cp24 (m.lists.l.set ((a.address).toNat) (SI.mk (some a22) cp20 (x7.l ++ [IntKind.i64.wrap a.new])))) m.tick), rfl, rfl, rfl, rfl, ⟨rfl, Rdc.blk (.tail _ (.head _)) rfl⟩, rfl⟩, ⟨(Answer.val (Answer.mk (((x7.l ++ [IntKind.i64.wrap a.new]).length : Nat) : Int) false false (SI.mk none 0 []))), _, rfl, ⟨_, 4, Answer.cells (Answer.mk (((x7.l ++ [IntKind.i64.wrap a.new]).length : Nat) : Int) false false (SI.mk none 0 [])), rfl, rfl, rfl, rfl, ⟨rfl, Rdc.blk (.head _) rfl⟩, rfl⟩, rfl⟩⟩, .cons _ (.cons _ (.cons _ (.cons _ (.refl _)))), ?_⟩
              have q := getI_of (l := m.lists.l) (n := a.address) (by omega) hx8
              have q3 : (m.lists.l.map SI.l).set a.address.toNat x7.l = m.lists.l.map SI.l := set_get (by simp [hx8])
              rcases (show x7.l.length < 1000 ∨ ¬ x7.l.length < 1000 by omega) with q4 | q4 <;> first | (exfalso; omega) | (exact ⟨(Mem.mk m.words (SS.mk (some a26) cp24 (m.lists.l.set ((a.address).toNat) (SI.mk (some a22) cp20 (x7.l ++ [IntKind.i64.wrap a.new])))) m.tick), (Answer.mk (((x7.l ++ [IntKind.i64.wrap a.new]).length : Nat) : Int) false false (SI.mk none 0 [])), rfl, rfl, ⟨hs45.w, hs49, hs48, (by first | omega | (simp only [List.length_append, List.length_cons, List.length_nil, List.length_replicate, List.length_set]; omega) | (simp; omega)), (by first | omega | (simp only [List.length_append, List.length_cons, List.length_nil, List.length_replicate, List.length_set]; omega) | (simp; omega))⟩, ⟨(Sl.nil _ _)⟩, by first | (simp [dcd_eq, Nat.not_lt_of_le, List.erase_of_not_mem, listS, wordS, applyS, Mem.abs, getI_map, Answer.abs, an0, changeL, List.map_set, erase_idx, mkRes, q, *]; done) | (simp_all [dcd_eq, Nat.not_lt_of_le, List.erase_of_not_mem, listS, wordS, applyS, Mem.abs, getI_map, Answer.abs, an0, changeL, List.map_set, erase_idx, mkRes]; done)⟩)
            · intro h14
              have h14 := dcd_f (h14)
              refine Cw_seq ?_
              refine Cw_region ?_
              refine Ow_q rfl rfl rfl (Qt_fieldAddr (m := 0) rfl rfl rfl rfl rfl) ?_
              refine Ow_q rfl rfl rfl (Qt_load1 (v := (.int .i64 a.kind)) rfl rfl rfl (Rdc.blk (.tail _ (.tail _ (.head _))) rfl)) ?_
              refine Ow_q rfl rfl rfl (Qt_cmp rfl rfl rfl) ?_
              refine Ow_q rfl rfl rfl (Qt_move rfl) ?_
              refine Ow_caseG rfl rfl rfl ?_ ?_
              · intro h51
                have h51 := dcd_t (h51)
                refine Ow_qw rfl rfl rfl rfl rfl rfl (Qt_move rfl) ?_
                refine Ow_qw rfl rfl rfl rfl rfl rfl (Qt_cmp rfl rfl rfl) ?_
                refine Ow_q rfl rfl rfl (Qt_pick_t rfl rfl) ?_
                refine Ow_q rfl rfl rfl (Qt_assign rfl) ?_
                refine Ow_nil ?_
                refine Cw_cond_kf rfl (dcd_neg (by decide)) ?_
                refine Cw_seq ?_
                refine Cw_region ?_
                refine Ow_q rfl rfl rfl (Qt_loadA (m := 3) (cs := Mem.cells m) rfl rfl rfl rfl ⟨rfl, Rdc.blk (.tail _ (.tail _ (.tail _ (.head _)))) rfl⟩) ?_
                refine Ow_q rfl rfl rfl (Qt_move rfl) ?_
                refine Ow_q rfl rfl rfl (Qt_len rfl rfl) ?_
                refine Ow_q rfl rfl rfl (Qt_conv (c := ((x7.l.length : Nat) : Int)) rfl rfl rfl (IntWalk.u64_in _ (by omega))) ?_
                refine Ow_q rfl rfl rfl (Qt_build (cs := Answer.cells (Answer.mk ((x7.l.length : Nat) : Int) false false (SI.mk none 0 []))) rfl rfl rfl rfl rfl rfl) ?_
                refine Ow_cons rfl (OpW_store (vs := [(.slice m.words.A m.words.l.length m.words.cp), (.slice m.lists.A m.lists.l.length m.lists.cp), (.int .i64 m.tick)]) (all' := [(.slice m.words.A m.words.l.length m.words.cp), (.slice m.lists.A m.lists.l.length m.lists.cp), (.int .i64 m.tick)]) rfl rfl rfl rfl rfl (.there .here) rfl rfl rfl ?_)
                refine Ow_cons rfl (OpW_store (vs := [(.int .u64 ((x7.l.length : Nat) : Int)), (.bool false), (.bool false), (.slice none 0 0)]) (all' := [(.int .u64 ((x7.l.length : Nat) : Int)), (.bool false), (.bool false), (.slice none 0 0)]) rfl rfl rfl rfl rfl .here rfl rfl rfl ?_)
                refine Ow_nil ?_
                refine Cw_ret ?_
                refine ⟨(by first | exact .inl rfl | exact .inr rfl), [(Mem.val m), (Answer.val (Answer.mk ((x7.l.length : Nat) : Int) false false (SI.mk none 0 [])))], G, ⟨(Mem.val m), _, rfl, ⟨_, 3, Mem.cells m, rfl, rfl, rfl, rfl, ⟨rfl, Rdc.blk (.tail _ (.head _)) rfl⟩, rfl⟩, ⟨(Answer.val (Answer.mk ((x7.l.length : Nat) : Int) false false (SI.mk none 0 []))), _, rfl, ⟨_, 4, Answer.cells (Answer.mk ((x7.l.length : Nat) : Int) false false (SI.mk none 0 [])), rfl, rfl, rfl, rfl, ⟨rfl, Rdc.blk (.head _) rfl⟩, rfl⟩, rfl⟩⟩, .cons _ (.cons _ (.cons _ (.cons _ (.refl _)))), ?_⟩
                have q := getI_of (l := m.lists.l) (n := a.address) (by omega) hx8
                have q3 : (m.lists.l.map SI.l).set a.address.toNat x7.l = m.lists.l.map SI.l := set_get (by simp [hx8])
                rcases (show x7.l.length < 1000 ∨ ¬ x7.l.length < 1000 by omega) with q4 | q4 <;> first | (exfalso; omega) | (exact ⟨m, (Answer.mk ((x7.l.length : Nat) : Int) false false (SI.mk none 0 [])), rfl, rfl, hm, ⟨(Sl.nil _ _)⟩, by first | (simp [dcd_eq, Nat.not_lt_of_le, List.erase_of_not_mem, listS, wordS, applyS, Mem.abs, getI_map, Answer.abs, an0, changeL, List.map_set, erase_idx, mkRes, q, *]; done) | (simp_all [dcd_eq, Nat.not_lt_of_le, List.erase_of_not_mem, listS, wordS, applyS, Mem.abs, getI_map, Answer.abs, an0, changeL, List.map_set, erase_idx, mkRes]; done)⟩)
              · intro h51
                have h51 := dcd_f (h51)
                refine Ow_pass rfl rfl rfl rfl rfl rfl rfl ?_
                refine Ow_pass rfl rfl rfl rfl rfl rfl rfl ?_
                refine Ow_q rfl rfl rfl (Qt_pick_f rfl rfl) ?_
                refine Ow_q rfl rfl rfl (Qt_assign rfl) ?_
                refine Ow_nil ?_
                refine Cw_cond_f rfl ?_
                refine Cw_seq ?_
                refine Cw_region ?_
                refine Ow_q rfl rfl rfl (Qt_loadA (m := 3) (cs := Mem.cells m) rfl rfl rfl rfl ⟨rfl, Rdc.blk (.tail _ (.tail _ (.tail _ (.head _)))) rfl⟩) ?_
                refine Ow_q rfl rfl rfl (Qt_move rfl) ?_
                refine Ow_q rfl rfl rfl (Qt_len rfl rfl) ?_
                refine Ow_q rfl rfl rfl (Qt_conv (c := ((x7.l.length : Nat) : Int)) rfl rfl rfl (IntWalk.u64_in _ (by omega))) ?_
                refine Ow_q rfl rfl rfl (Qt_build (cs := Answer.cells (Answer.mk ((x7.l.length : Nat) : Int) false false (SI.mk none 0 []))) rfl rfl rfl rfl rfl rfl) ?_
                refine Ow_cons rfl (OpW_store (vs := [(.slice m.words.A m.words.l.length m.words.cp), (.slice m.lists.A m.lists.l.length m.lists.cp), (.int .i64 m.tick)]) (all' := [(.slice m.words.A m.words.l.length m.words.cp), (.slice m.lists.A m.lists.l.length m.lists.cp), (.int .i64 m.tick)]) rfl rfl rfl rfl rfl (.there .here) rfl rfl rfl ?_)
                refine Ow_cons rfl (OpW_store (vs := [(.int .u64 ((x7.l.length : Nat) : Int)), (.bool false), (.bool false), (.slice none 0 0)]) (all' := [(.int .u64 ((x7.l.length : Nat) : Int)), (.bool false), (.bool false), (.slice none 0 0)]) rfl rfl rfl rfl rfl .here rfl rfl rfl ?_)
                refine Ow_nil ?_
                refine Cw_ret ?_
                refine ⟨(by first | exact .inl rfl | exact .inr rfl), [(Mem.val m), (Answer.val (Answer.mk ((x7.l.length : Nat) : Int) false false (SI.mk none 0 [])))], G, ⟨(Mem.val m), _, rfl, ⟨_, 3, Mem.cells m, rfl, rfl, rfl, rfl, ⟨rfl, Rdc.blk (.tail _ (.head _)) rfl⟩, rfl⟩, ⟨(Answer.val (Answer.mk ((x7.l.length : Nat) : Int) false false (SI.mk none 0 []))), _, rfl, ⟨_, 4, Answer.cells (Answer.mk ((x7.l.length : Nat) : Int) false false (SI.mk none 0 [])), rfl, rfl, rfl, rfl, ⟨rfl, Rdc.blk (.head _) rfl⟩, rfl⟩, rfl⟩⟩, .cons _ (.cons _ (.cons _ (.cons _ (.refl _)))), ?_⟩
                have q := getI_of (l := m.lists.l) (n := a.address) (by omega) hx8
                have q3 : (m.lists.l.map SI.l).set a.address.toNat x7.l = m.lists.l.map SI.l := set_get (by simp [hx8])
                rcases (show x7.l.length < 1000 ∨ ¬ x7.l.length < 1000 by omega) with q4 | q4 <;> first | (exfalso; omega) | (exact ⟨m, (Answer.mk ((x7.l.length : Nat) : Int) false false (SI.mk none 0 [])), rfl, rfl, hm, ⟨(Sl.nil _ _)⟩, by first | (simp [dcd_eq, Nat.not_lt_of_le, List.erase_of_not_mem, listS, wordS, applyS, Mem.abs, getI_map, Answer.abs, an0, changeL, List.map_set, erase_idx, mkRes, q, *]; done) | (simp_all [dcd_eq, Nat.not_lt_of_le, List.erase_of_not_mem, listS, wordS, applyS, Mem.abs, getI_map, Answer.abs, an0, changeL, List.map_set, erase_idx, mkRes]; done)⟩)
          · intro h13
            have h13 := dcd_f (h13)
            refine Ow_pass rfl rfl rfl rfl rfl rfl rfl ?_
            refine Ow_pass rfl rfl rfl rfl rfl rfl rfl ?_
            refine Ow_pass rfl rfl rfl rfl rfl rfl rfl ?_
            refine Ow_q rfl rfl rfl (Qt_pick_f rfl rfl) ?_
            refine Ow_q rfl rfl rfl (Qt_assign rfl) ?_
            refine Ow_nil ?_
            refine Cw_cond_f rfl ?_
            refine Cw_seq ?_
            refine Cw_region ?_
            refine Ow_q rfl rfl rfl (Qt_fieldAddr (m := 0) rfl rfl rfl rfl rfl) ?_
            refine Ow_q rfl rfl rfl (Qt_load1 (v := (.int .i64 a.kind)) rfl rfl rfl (Rdc.blk (.tail _ (.tail _ (.head _))) rfl)) ?_
            refine Ow_q rfl rfl rfl (Qt_cmp rfl rfl rfl) ?_
            refine Ow_q rfl rfl rfl (Qt_move rfl) ?_
            refine Ow_caseG rfl rfl rfl ?_ ?_
            · intro h52
              have h52 := dcd_t (h52)
              refine Ow_qw rfl rfl rfl rfl rfl rfl (Qt_move rfl) ?_
              refine Ow_qw rfl rfl rfl rfl rfl rfl (Qt_cmp rfl rfl rfl) ?_
              refine Ow_q rfl rfl rfl (Qt_pick_t rfl rfl) ?_
              refine Ow_q rfl rfl rfl (Qt_assign rfl) ?_
              refine Ow_nil ?_
              refine Cw_cond_kf rfl (dcd_neg (by decide)) ?_
              refine Cw_seq ?_
              refine Cw_region ?_
              refine Ow_q rfl rfl rfl (Qt_loadA (m := 3) (cs := Mem.cells m) rfl rfl rfl rfl ⟨rfl, Rdc.blk (.tail _ (.tail _ (.tail _ (.head _)))) rfl⟩) ?_
              refine Ow_q rfl rfl rfl (Qt_move rfl) ?_
              refine Ow_q rfl rfl rfl (Qt_len rfl rfl) ?_
              refine Ow_q rfl rfl rfl (Qt_conv (c := ((x7.l.length : Nat) : Int)) rfl rfl rfl (IntWalk.u64_in _ (by omega))) ?_
              refine Ow_q rfl rfl rfl (Qt_build (cs := Answer.cells (Answer.mk ((x7.l.length : Nat) : Int) false false (SI.mk none 0 []))) rfl rfl rfl rfl rfl rfl) ?_
              refine Ow_cons rfl (OpW_store (vs := [(.slice m.words.A m.words.l.length m.words.cp), (.slice m.lists.A m.lists.l.length m.lists.cp), (.int .i64 m.tick)]) (all' := [(.slice m.words.A m.words.l.length m.words.cp), (.slice m.lists.A m.lists.l.length m.lists.cp), (.int .i64 m.tick)]) rfl rfl rfl rfl rfl (.there .here) rfl rfl rfl ?_)
              refine Ow_cons rfl (OpW_store (vs := [(.int .u64 ((x7.l.length : Nat) : Int)), (.bool false), (.bool false), (.slice none 0 0)]) (all' := [(.int .u64 ((x7.l.length : Nat) : Int)), (.bool false), (.bool false), (.slice none 0 0)]) rfl rfl rfl rfl rfl .here rfl rfl rfl ?_)
              refine Ow_nil ?_
              refine Cw_ret ?_
              refine ⟨(by first | exact .inl rfl | exact .inr rfl), [(Mem.val m), (Answer.val (Answer.mk ((x7.l.length : Nat) : Int) false false (SI.mk none 0 [])))], G, ⟨(Mem.val m), _, rfl, ⟨_, 3, Mem.cells m, rfl, rfl, rfl, rfl, ⟨rfl, Rdc.blk (.tail _ (.head _)) rfl⟩, rfl⟩, ⟨(Answer.val (Answer.mk ((x7.l.length : Nat) : Int) false false (SI.mk none 0 []))), _, rfl, ⟨_, 4, Answer.cells (Answer.mk ((x7.l.length : Nat) : Int) false false (SI.mk none 0 [])), rfl, rfl, rfl, rfl, ⟨rfl, Rdc.blk (.head _) rfl⟩, rfl⟩, rfl⟩⟩, .cons _ (.cons _ (.cons _ (.cons _ (.refl _)))), ?_⟩
              have q := getI_of (l := m.lists.l) (n := a.address) (by omega) hx8
              have q3 : (m.lists.l.map SI.l).set a.address.toNat x7.l = m.lists.l.map SI.l := set_get (by simp [hx8])
              rcases (show x7.l.length < 1000 ∨ ¬ x7.l.length < 1000 by omega) with q4 | q4 <;> first | (exfalso; omega) | (exact ⟨m, (Answer.mk ((x7.l.length : Nat) : Int) false false (SI.mk none 0 [])), rfl, rfl, hm, ⟨(Sl.nil _ _)⟩, by first | (simp [dcd_eq, Nat.not_lt_of_le, List.erase_of_not_mem, listS, wordS, applyS, Mem.abs, getI_map, Answer.abs, an0, changeL, List.map_set, erase_idx, mkRes, q, *]; done) | (simp_all [dcd_eq, Nat.not_lt_of_le, List.erase_of_not_mem, listS, wordS, applyS, Mem.abs, getI_map, Answer.abs, an0, changeL, List.map_set, erase_idx, mkRes]; done)⟩)
            · intro h52
              have h52 := dcd_f (h52)
              refine Ow_pass rfl rfl rfl rfl rfl rfl rfl ?_
              refine Ow_pass rfl rfl rfl rfl rfl rfl rfl ?_
              refine Ow_q rfl rfl rfl (Qt_pick_f rfl rfl) ?_
              refine Ow_q rfl rfl rfl (Qt_assign rfl) ?_
              refine Ow_nil ?_
              refine Cw_cond_f rfl ?_
              refine Cw_seq ?_
              refine Cw_region ?_
              refine Ow_q rfl rfl rfl (Qt_loadA (m := 3) (cs := Mem.cells m) rfl rfl rfl rfl ⟨rfl, Rdc.blk (.tail _ (.tail _ (.tail _ (.head _)))) rfl⟩) ?_
              refine Ow_q rfl rfl rfl (Qt_move rfl) ?_
              refine Ow_q rfl rfl rfl (Qt_len rfl rfl) ?_
              refine Ow_q rfl rfl rfl (Qt_conv (c := ((x7.l.length : Nat) : Int)) rfl rfl rfl (IntWalk.u64_in _ (by omega))) ?_
              refine Ow_q rfl rfl rfl (Qt_build (cs := Answer.cells (Answer.mk ((x7.l.length : Nat) : Int) false false (SI.mk none 0 []))) rfl rfl rfl rfl rfl rfl) ?_
              refine Ow_cons rfl (OpW_store (vs := [(.slice m.words.A m.words.l.length m.words.cp), (.slice m.lists.A m.lists.l.length m.lists.cp), (.int .i64 m.tick)]) (all' := [(.slice m.words.A m.words.l.length m.words.cp), (.slice m.lists.A m.lists.l.length m.lists.cp), (.int .i64 m.tick)]) rfl rfl rfl rfl rfl (.there .here) rfl rfl rfl ?_)
              refine Ow_cons rfl (OpW_store (vs := [(.int .u64 ((x7.l.length : Nat) : Int)), (.bool false), (.bool false), (.slice none 0 0)]) (all' := [(.int .u64 ((x7.l.length : Nat) : Int)), (.bool false), (.bool false), (.slice none 0 0)]) rfl rfl rfl rfl rfl .here rfl rfl rfl ?_)
              refine Ow_nil ?_
              refine Cw_ret ?_
              refine ⟨(by first | exact .inl rfl | exact .inr rfl), [(Mem.val m), (Answer.val (Answer.mk ((x7.l.length : Nat) : Int) false false (SI.mk none 0 [])))], G, ⟨(Mem.val m), _, rfl, ⟨_, 3, Mem.cells m, rfl, rfl, rfl, rfl, ⟨rfl, Rdc.blk (.tail _ (.head _)) rfl⟩, rfl⟩, ⟨(Answer.val (Answer.mk ((x7.l.length : Nat) : Int) false false (SI.mk none 0 []))), _, rfl, ⟨_, 4, Answer.cells (Answer.mk ((x7.l.length : Nat) : Int) false false (SI.mk none 0 [])), rfl, rfl, rfl, rfl, ⟨rfl, Rdc.blk (.head _) rfl⟩, rfl⟩, rfl⟩⟩, .cons _ (.cons _ (.cons _ (.cons _ (.refl _)))), ?_⟩
              have q := getI_of (l := m.lists.l) (n := a.address) (by omega) hx8
              have q3 : (m.lists.l.map SI.l).set a.address.toNat x7.l = m.lists.l.map SI.l := set_get (by simp [hx8])
              rcases (show x7.l.length < 1000 ∨ ¬ x7.l.length < 1000 by omega) with q4 | q4 <;> first | (exfalso; omega) | (exact ⟨m, (Answer.mk ((x7.l.length : Nat) : Int) false false (SI.mk none 0 [])), rfl, rfl, hm, ⟨(Sl.nil _ _)⟩, by first | (simp [dcd_eq, Nat.not_lt_of_le, List.erase_of_not_mem, listS, wordS, applyS, Mem.abs, getI_map, Answer.abs, an0, changeL, List.map_set, erase_idx, mkRes, q, *]; done) | (simp_all [dcd_eq, Nat.not_lt_of_le, List.erase_of_not_mem, listS, wordS, applyS, Mem.abs, getI_map, Answer.abs, an0, changeL, List.map_set, erase_idx, mkRes]; done)⟩)
        · skip
          have hm122 := hm12.2
          refine Ow_cons rfl (OpW_callP (v0 := (.int .i64 (((x7.l.idxOf (IntKind.i64.wrap a.new)) : Nat) : Int))) rfl Try.call61 rfl rfl (c_index x7.A x7.cp x7.l (IntKind.i64.wrap a.new) (((x7.l.idxOf (IntKind.i64.wrap a.new)) : Nat) : Int) (by rw [ixS, if_pos hm12.1]) _ _ hs_x7) ?_)
          refine Ow_q rfl rfl rfl (Qt_assign rfl) ?_
          refine Ow_nil ?_
          refine Cw_seq ?_
          refine Cw_block ?_
          refine Cw_seq ?_
          refine Cw_region ?_
          refine Ow_q rfl rfl rfl (Qt_fieldAddr (m := 0) rfl rfl rfl rfl rfl) ?_
          refine Ow_q rfl rfl rfl (Qt_load1 (v := (.int .i64 a.kind)) rfl rfl rfl (Rdc.blk (.tail _ (.tail _ (.head _))) rfl)) ?_
          refine Ow_q rfl rfl rfl (Qt_cmp rfl rfl rfl) ?_
          refine Ow_q rfl rfl rfl (Qt_move rfl) ?_
          refine Ow_caseG rfl rfl rfl ?_ ?_
          · intro h53
            have h53 := dcd_t (h53)
            refine Ow_qw rfl rfl rfl rfl rfl rfl (Qt_move rfl) ?_
            refine Ow_qw rfl rfl rfl rfl rfl rfl (Qt_len rfl rfl) ?_
            refine Ow_qw rfl rfl rfl rfl rfl rfl (Qt_cmp rfl rfl rfl) ?_
            refine Ow_q rfl rfl rfl (Qt_pick_t rfl rfl) ?_
            refine Ow_q rfl rfl rfl (Qt_assign rfl) ?_
            refine Ow_nil ?_
            refine Cw_cond rfl ?_ ?_
            · intro h54
              have h54 := dcd_t (h54)
              refine Cw_region ?_
              refine Ow_q rfl rfl rfl (Qt_move rfl) ?_
              refine Ow_cons rfl (OpW_call rfl Try.call62 rfl rfl (c_cloneI x7.A x7.cp x7.l _ _ hs_x7 (by first | omega | (simp only [List.length_append, List.length_cons, List.length_nil, List.length_replicate, List.length_set]; omega) | (simp; omega))) ?_)
              rintro _ _ _ - ⟨A55, cp56, rfl, hA57, rfl, rfl⟩
              refine Ow_q rfl rfl rfl (Qt_move rfl) ?_
              refine Ow_cons rfl (OpW_buildSliceX (xs := (([IntKind.i64.wrap a.new]).map i64c).flatten) rfl rfl rfl rfl rfl rfl rfl rfl rfl rfl rfl (fun a58 => ?_))
              refine Ow_cons rfl (OpW_appendT (bytes := 8) (L := x7.l) (M := [IntKind.i64.wrap a.new]) Enc.i64 rfl rfl rfl (.tail _ (.head _)) (Src.row (.head _)) (by first | rfl | (simp; done) | (simp; omega)) rfl rfl rfl rfl rfl rfl rfl rfl (by first | omega | (simp only [List.length_append, List.length_cons, List.length_nil, List.length_replicate, List.length_set]; omega) | (simp; omega)) (by first | omega | (simp only [List.length_append, List.length_cons, List.length_nil, List.length_replicate, List.length_set]; omega) | (simp; omega)) ?_)
              intro A59 cp60 hA61
              obtain ⟨a62, rfl⟩ := hA61 (by first | (simp; done) | (simp; omega))
              refine ⟨_, (.there .here), ?_⟩
              refine Ow_q rfl rfl rfl (Qt_assign rfl) ?_
              refine Ow_nil ?_
              refine Cw_seq ?_
              refine Cw_region ?_
              refine Ow_q rfl rfl rfl (Qt_fieldAddr (m := 1) rfl rfl rfl rfl rfl) ?_
              refine Ow_q rfl rfl rfl (Qt_load1 (v := (.slice m.lists.A m.lists.l.length m.lists.cp)) rfl rfl rfl (Rdc.blk (.tail _ (.tail _ (.tail _ (.tail _ (.tail _ (.head _)))))) rfl)) ?_
              refine Ow_cons rfl (OpW_call rfl Try.call64 rfl rfl (c_cloneS m.lists.A m.lists.cp m.lists.l _ _ hm.l (by first | omega | (simp only [List.length_append, List.length_cons, List.length_nil, List.length_replicate, List.length_set]; omega) | (simp; omega)) hm.x) ?_)
              rintro _ _ _ - ⟨A63, cp64, rfl, hA65, rfl, rfl⟩
              obtain ⟨a66, rfl⟩ := hA65 (by first | omega | (simp only [List.length_append, List.length_cons, List.length_nil, List.length_replicate, List.length_set]; omega) | (simp; omega))
              refine Ow_q rfl rfl rfl (Qt_fieldAddr (m := 1) rfl rfl rfl rfl rfl) ?_
              refine Ow_cons rfl (OpW_store (vs := [(.slice (some a66) m.lists.l.length cp64)]) (all' := [(.slice m.words.A m.words.l.length m.words.cp), (.slice (some a66) m.lists.l.length cp64), (.int .i64 m.tick)]) rfl rfl rfl rfl rfl (.there (.there (.there (.there (.there (.there .here)))))) rfl rfl rfl ?_)
              refine Ow_nil ?_
              refine Cw_seq ?_
              refine Cw_region ?_
              refine Ow_q rfl rfl rfl (Qt_fieldAddr (m := 1) rfl rfl rfl rfl rfl) ?_
              refine Ow_q rfl rfl rfl (Qt_load1 (v := (.slice (some a66) m.lists.l.length cp64)) rfl rfl rfl (Rdc.blk (.tail _ (.tail _ (.tail _ (.tail _ (.tail _ (.tail _ (.head _))))))) rfl)) ?_
              refine Ow_q rfl rfl rfl (Qt_fieldAddr (m := 1) rfl rfl rfl rfl rfl) ?_
              refine Ow_q rfl rfl rfl (Qt_load1 (v := (.int .i64 a.address)) rfl rfl rfl (Rdc.blk (.tail _ (.tail _ (.tail _ (.tail _ (.tail _ (.head _)))))) rfl)) ?_
              refine Ow_q rfl rfl rfl (Qt_move rfl) ?_
              refine Ow_q rfl rfl rfl (Qt_ixG (q := (a.address).toNat) (o := ((a.address).toNat) * 1 + 0) rfl rfl rfl rfl rfl (by omega) (by first | omega | (simp only [List.length_append, List.length_cons, List.length_nil, List.length_replicate, List.length_set]; omega) | (simp; omega)) rfl) ?_
              refine Ow.settleT Enc.i64 rfl (.there (.there (.here))) ?_
              intro K67 hK68 hs69
              have hs70 := hm.mono hK68
              have hs71 := hs_x7.mono hK68
              have hl72 := Sl.le hs69
              have hX73 := SlAll.set (y := (SI.mk (some a62) cp60 (x7.l ++ [IntKind.i64.wrap a.new]))) hs70.x ((a.address).toNat) hs69 (by first | omega | (simp only [List.length_append, List.length_cons, List.length_nil, List.length_replicate, List.length_set]; omega) | (simp; omega))
              refine Ow_cons rfl (OpW_storeRowT (q := ((a.address).toNat)) (off := 0) (vs := [(.slice (some a62) ((x7.l ++ [IntKind.i64.wrap a.new]).length) cp60)]) (L := m.lists.l) (z' := (SI.mk (some a62) cp60 (x7.l ++ [IntKind.i64.wrap a.new]))) Enc.si rfl rfl rfl rfl rfl hx8 rfl rfl rfl .here ?_)
              refine Ow_nil ?_
              refine Cw_seq ?_
              refine Cw_region ?_
              refine Ow_q rfl rfl rfl (Qt_loadA (m := 3) (cs := Mem.cells (Mem.mk m.words (SS.mk (some a66) cp64 m.lists.l) m.tick)) rfl rfl rfl rfl ⟨rfl, Rdc.blk (.tail _ (.tail _ (.tail _ (.tail _ (.tail _ (.head _)))))) rfl⟩) ?_
              refine Ow_q rfl rfl rfl (Qt_move rfl) ?_
              refine Ow_q rfl rfl rfl (Qt_len rfl rfl) ?_
              refine Ow_q rfl rfl rfl (Qt_conv (c := (((x7.l ++ [IntKind.i64.wrap a.new]).length : Nat) : Int)) rfl rfl rfl (IntWalk.u64_in _ (by omega))) ?_
              refine Ow_q rfl rfl rfl (Qt_build (cs := Answer.cells (Answer.mk (((x7.l ++ [IntKind.i64.wrap a.new]).length : Nat) : Int) false false (SI.mk none 0 []))) rfl rfl rfl rfl rfl rfl) ?_
              refine Ow_cons rfl (OpW_store (vs := [(.slice m.words.A m.words.l.length m.words.cp), (.slice (some a66) m.lists.l.length cp64), (.int .i64 m.tick)]) (all' := [(.slice m.words.A m.words.l.length m.words.cp), (.slice (some a66) m.lists.l.length cp64), (.int .i64 m.tick)]) rfl rfl rfl rfl rfl (.there (.there (.there .here))) rfl rfl rfl ?_)
              refine Ow_cons rfl (OpW_store (vs := [(.int .u64 (((x7.l ++ [IntKind.i64.wrap a.new]).length : Nat) : Int)), (.bool false), (.bool false), (.slice none 0 0)]) (all' := [(.int .u64 (((x7.l ++ [IntKind.i64.wrap a.new]).length : Nat) : Int)), (.bool false), (.bool false), (.slice none 0 0)]) rfl rfl rfl rfl rfl (.there (.there .here)) rfl rfl rfl ?_)
              refine Ow_nil ?_
              rw [show (Value.slice (some a66) m.lists.l.length cp64) = (Value.slice (some a66) ((m.lists.l.set ((a.address).toNat) (SI.mk (some a62) cp60 (x7.l ++ [IntKind.i64.wrap a.new]))).length) cp64) by simp]
              refine Cw.settleT Enc.si rfl (.here) ?_
              intro K74 hK75 hs76
              have hs77 := hs70.mono hK75
              have hs78 := hs71.mono hK75
              have hs79 := hs69.mono hK75
              have hs80 := hX73.mono hK75
              have hl81 := Sl.le hs76
              refine Cw.settleT Enc.i64 rfl (.here) ?_
              intro K82 hK83 hs84
              have hs85 := hs77.mono hK83
              have hs86 := hs78.mono hK83
              have hs87 := hs79.mono hK83
              have hs88 := hs80.mono hK83
              have hs89 := hs76.mono hK83
              have hl90 := Sl.le hs84
              refine Cw_ret ?_
              refine ⟨(by first | exact .inl rfl | exact .inr rfl), [(Mem.val (Mem.mk m.words (SS.mk (some a66) cp64 (m.lists.l.set ((a.address).toNat) (SI.mk (some a62) cp60 (x7.l ++ [IntKind.i64.wrap a.new])))) m.tick)), (Answer.val (Answer.mk (((x7.l ++ [IntKind.i64.wrap a.new]).length : Nat) : Int) false false (SI.mk none 0 [])))], G, ⟨(Mem.val (Mem.mk m.words (SS.mk (some a66) cp64 (m.lists.l.set ((a.address).toNat) (SI.mk (some a62) cp60 (x7.l ++ [IntKind.i64.wrap a.new])))) m.tick)), _, rfl, ⟨_, 3, Mem.cells (Mem.mk m.words (SS.mk (some a66) cp64 (m.lists.l.set ((a.address).toNat) (SI.mk (some a62) cp60 (x7.l ++ [IntKind.i64.wrap a.new])))) m.tick), rfl, rfl, rfl, rfl, ⟨rfl, Rdc.blk (.tail _ (.head _)) rfl⟩, rfl⟩, ⟨(Answer.val (Answer.mk (((x7.l ++ [IntKind.i64.wrap a.new]).length : Nat) : Int) false false (SI.mk none 0 []))), _, rfl, ⟨_, 4, Answer.cells (Answer.mk (((x7.l ++ [IntKind.i64.wrap a.new]).length : Nat) : Int) false false (SI.mk none 0 [])), rfl, rfl, rfl, rfl, ⟨rfl, Rdc.blk (.head _) rfl⟩, rfl⟩, rfl⟩⟩, .cons _ (.cons _ (.cons _ (.cons _ (.refl _)))), ?_⟩
              have q := getI_of (l := m.lists.l) (n := a.address) (by omega) hx8
              have q3 : (m.lists.l.map SI.l).set a.address.toNat x7.l = m.lists.l.map SI.l := set_get (by simp [hx8])
              rcases (show x7.l.length < 1000 ∨ ¬ x7.l.length < 1000 by omega) with q4 | q4 <;> first | (exfalso; omega) | (exact ⟨(Mem.mk m.words (SS.mk (some a66) cp64 (m.lists.l.set ((a.address).toNat) (SI.mk (some a62) cp60 (x7.l ++ [IntKind.i64.wrap a.new])))) m.tick), (Answer.mk (((x7.l ++ [IntKind.i64.wrap a.new]).length : Nat) : Int) false false (SI.mk none 0 [])), rfl, rfl, ⟨hs85.w, hs89, hs88, (by first | omega | (simp only [List.length_append, List.length_cons, List.length_nil, List.length_replicate, List.length_set]; omega) | (simp; omega)), (by first | omega | (simp only [List.length_append, List.length_cons, List.length_nil, List.length_replicate, List.length_set]; omega) | (simp; omega))⟩, ⟨(Sl.nil _ _)⟩, by first | (simp [dcd_eq, Nat.not_lt_of_le, List.erase_of_not_mem, listS, wordS, applyS, Mem.abs, getI_map, Answer.abs, an0, changeL, List.map_set, erase_idx, mkRes, q, *]; done) | (simp_all [dcd_eq, Nat.not_lt_of_le, List.erase_of_not_mem, listS, wordS, applyS, Mem.abs, getI_map, Answer.abs, an0, changeL, List.map_set, erase_idx, mkRes]; done)⟩)
            · intro h54
              have h54 := dcd_f (h54)
              refine Cw_seq ?_
              refine Cw_region ?_
              refine Ow_q rfl rfl rfl (Qt_fieldAddr (m := 0) rfl rfl rfl rfl rfl) ?_
              refine Ow_q rfl rfl rfl (Qt_load1 (v := (.int .i64 a.kind)) rfl rfl rfl (Rdc.blk (.tail _ (.tail _ (.head _))) rfl)) ?_
              refine Ow_q rfl rfl rfl (Qt_cmp rfl rfl rfl) ?_
              refine Ow_q rfl rfl rfl (Qt_move rfl) ?_
              refine Ow_caseG rfl rfl rfl ?_ ?_
              · intro h91
                have h91 := dcd_t (h91)
                refine Ow_qw rfl rfl rfl rfl rfl rfl (Qt_move rfl) ?_
                refine Ow_qw rfl rfl rfl rfl rfl rfl (Qt_cmp rfl rfl rfl) ?_
                refine Ow_q rfl rfl rfl (Qt_pick_t rfl rfl) ?_
                refine Ow_q rfl rfl rfl (Qt_assign rfl) ?_
                refine Ow_nil ?_
                refine Cw_cond rfl ?_ ?_
                · intro h92
                  have h92 := dcd_t (h92)
                  refine Cw_region ?_
                  refine Ow_q rfl rfl rfl (Qt_move rfl) ?_
                  refine Ow_cons rfl (OpW_call rfl Try.call62 rfl rfl (c_cloneI x7.A x7.cp x7.l _ _ hs_x7 (by first | omega | (simp only [List.length_append, List.length_cons, List.length_nil, List.length_replicate, List.length_set]; omega) | (simp; omega))) ?_)
                  rintro _ _ _ - ⟨A93, cp94, rfl, hA95, rfl, rfl⟩
                  obtain ⟨a96, rfl⟩ := hA95 (by first | omega | (simp only [List.length_append, List.length_cons, List.length_nil, List.length_replicate, List.length_set]; omega) | (simp; omega))
                  refine Ow_q rfl rfl rfl (Qt_move rfl) ?_
                  refine Ow_q rfl rfl rfl (Qt_move rfl) ?_
                  refine Ow_q rfl rfl rfl (Qt_arith (e := ((((x7.l.idxOf (IntKind.i64.wrap a.new)) : Nat) : Int) + 1)) rfl rfl rfl (wrap_eq (by omega) (by omega))) ?_
                  refine Ow_cons rfl (OpW_callG (v0 := (.slice (some a96) ((x7.l.take (x7.l.idxOf (IntKind.i64.wrap a.new)) ++ x7.l.drop ((x7.l.idxOf (IntKind.i64.wrap a.new)) + 1)).length) cp94)) rfl Try.call63 rfl rfl (Fc.at .here (fun G1 => c_delete a96 cp94 x7.l (x7.l.idxOf (IntKind.i64.wrap a.new)) (by first | omega | (simp only [List.length_append, List.length_cons, List.length_nil, List.length_replicate, List.length_set]; omega) | (simp; omega)) _ G1 (by first | omega | (simp only [List.length_append, List.length_cons, List.length_nil, List.length_replicate, List.length_set]; omega) | (simp; omega)))) ?_)
                  refine Ow_q rfl rfl rfl (Qt_assign rfl) ?_
                  refine Ow_nil ?_
                  refine Cw_seq ?_
                  refine Cw_region ?_
                  refine Ow_q rfl rfl rfl (Qt_fieldAddr (m := 1) rfl rfl rfl rfl rfl) ?_
                  refine Ow_q rfl rfl rfl (Qt_load1 (v := (.slice m.lists.A m.lists.l.length m.lists.cp)) rfl rfl rfl (Rdc.blk (.tail _ (.tail _ (.tail _ (.tail _ (.head _))))) rfl)) ?_
                  refine Ow_cons rfl (OpW_call rfl Try.call64 rfl rfl (c_cloneS m.lists.A m.lists.cp m.lists.l _ _ hm.l (by first | omega | (simp only [List.length_append, List.length_cons, List.length_nil, List.length_replicate, List.length_set]; omega) | (simp; omega)) hm.x) ?_)
                  rintro _ _ _ - ⟨A97, cp98, rfl, hA99, rfl, rfl⟩
                  obtain ⟨a100, rfl⟩ := hA99 (by first | omega | (simp only [List.length_append, List.length_cons, List.length_nil, List.length_replicate, List.length_set]; omega) | (simp; omega))
                  refine Ow_q rfl rfl rfl (Qt_fieldAddr (m := 1) rfl rfl rfl rfl rfl) ?_
                  refine Ow_cons rfl (OpW_store (vs := [(.slice (some a100) m.lists.l.length cp98)]) (all' := [(.slice m.words.A m.words.l.length m.words.cp), (.slice (some a100) m.lists.l.length cp98), (.int .i64 m.tick)]) rfl rfl rfl rfl rfl (.there (.there (.there (.there (.there .here))))) rfl rfl rfl ?_)
                  refine Ow_nil ?_
                  refine Cw_seq ?_
                  refine Cw_region ?_
                  refine Ow_q rfl rfl rfl (Qt_fieldAddr (m := 1) rfl rfl rfl rfl rfl) ?_
                  refine Ow_q rfl rfl rfl (Qt_load1 (v := (.slice (some a100) m.lists.l.length cp98)) rfl rfl rfl (Rdc.blk (.tail _ (.tail _ (.tail _ (.tail _ (.tail _ (.head _)))))) rfl)) ?_
                  refine Ow_q rfl rfl rfl (Qt_fieldAddr (m := 1) rfl rfl rfl rfl rfl) ?_
                  refine Ow_q rfl rfl rfl (Qt_load1 (v := (.int .i64 a.address)) rfl rfl rfl (Rdc.blk (.tail _ (.tail _ (.tail _ (.tail _ (.head _))))) rfl)) ?_
                  refine Ow_q rfl rfl rfl (Qt_move rfl) ?_
                  refine Ow_q rfl rfl rfl (Qt_ixG (q := (a.address).toNat) (o := ((a.address).toNat) * 1 + 0) rfl rfl rfl rfl rfl (by omega) (by first | omega | (simp only [List.length_append, List.length_cons, List.length_nil, List.length_replicate, List.length_set]; omega) | (simp; omega)) rfl) ?_
                  refine Ow.settleT Enc.i64 rfl (.there (.here)) ?_
                  intro K101 hK102 hs103
                  have hs104 := hm.mono hK102
                  have hs105 := hs_x7.mono hK102
                  have hl106 := Sl.le hs103
                  have hX107 := SlAll.set (y := (SI.mk (some a96) cp94 (x7.l.take (x7.l.idxOf (IntKind.i64.wrap a.new)) ++ x7.l.drop ((x7.l.idxOf (IntKind.i64.wrap a.new)) + 1)))) hs104.x ((a.address).toNat) hs103 (by first | omega | (simp only [List.length_append, List.length_cons, List.length_nil, List.length_replicate, List.length_set]; omega) | (simp; omega))
                  refine Ow_cons rfl (OpW_storeRowT (q := ((a.address).toNat)) (off := 0) (vs := [(.slice (some a96) ((x7.l.take (x7.l.idxOf (IntKind.i64.wrap a.new)) ++ x7.l.drop ((x7.l.idxOf (IntKind.i64.wrap a.new)) + 1)).length) cp94)]) (L := m.lists.l) (z' := (SI.mk (some a96) cp94 (x7.l.take (x7.l.idxOf (IntKind.i64.wrap a.new)) ++ x7.l.drop ((x7.l.idxOf (IntKind.i64.wrap a.new)) + 1)))) Enc.si rfl rfl rfl rfl rfl hx8 rfl rfl rfl .here ?_)
                  refine Ow_nil ?_
                  refine Cw_seq ?_
                  refine Cw_region ?_
                  refine Ow_q rfl rfl rfl (Qt_loadA (m := 3) (cs := Mem.cells (Mem.mk m.words (SS.mk (some a100) cp98 m.lists.l) m.tick)) rfl rfl rfl rfl ⟨rfl, Rdc.blk (.tail _ (.tail _ (.tail _ (.tail _ (.head _))))) rfl⟩) ?_
                  refine Ow_q rfl rfl rfl (Qt_move rfl) ?_
                  refine Ow_q rfl rfl rfl (Qt_len rfl rfl) ?_
                  refine Ow_q rfl rfl rfl (Qt_conv (c := (((x7.l.take (x7.l.idxOf (IntKind.i64.wrap a.new)) ++ x7.l.drop ((x7.l.idxOf (IntKind.i64.wrap a.new)) + 1)).length : Nat) : Int)) rfl rfl rfl (IntWalk.u64_in _ (by omega))) ?_
                  refine Ow_q rfl rfl rfl (Qt_build (cs := Answer.cells (Answer.mk (((x7.l.take (x7.l.idxOf (IntKind.i64.wrap a.new)) ++ x7.l.drop ((x7.l.idxOf (IntKind.i64.wrap a.new)) + 1)).length : Nat) : Int) false false (SI.mk none 0 []))) rfl rfl rfl rfl rfl rfl) ?_
                  refine Ow_cons rfl (OpW_store (vs := [(.slice m.words.A m.words.l.length m.words.cp), (.slice (some a100) m.lists.l.length cp98), (.int .i64 m.tick)]) (all' := [(.slice m.words.A m.words.l.length m.words.cp), (.slice (some a100) m.lists.l.length cp98), (.int .i64 m.tick)]) rfl rfl rfl rfl rfl (.there (.there .here)) rfl rfl rfl ?_)
                  refine Ow_cons rfl (OpW_store (vs := [(.int .u64 (((x7.l.take (x7.l.idxOf (IntKind.i64.wrap a.new)) ++ x7.l.drop ((x7.l.idxOf (IntKind.i64.wrap a.new)) + 1)).length : Nat) : Int)), (.bool false), (.bool false), (.slice none 0 0)]) (all' := [(.int .u64 (((x7.l.take (x7.l.idxOf (IntKind.i64.wrap a.new)) ++ x7.l.drop ((x7.l.idxOf (IntKind.i64.wrap a.new)) + 1)).length : Nat) : Int)), (.bool false), (.bool false), (.slice none 0 0)]) rfl rfl rfl rfl rfl (.there .here) rfl rfl rfl ?_)
                  refine Ow_nil ?_
                  rw [show (Value.slice (some a100) m.lists.l.length cp98) = (Value.slice (some a100) ((m.lists.l.set ((a.address).toNat) (SI.mk (some a96) cp94 (x7.l.take (x7.l.idxOf (IntKind.i64.wrap a.new)) ++ x7.l.drop ((x7.l.idxOf (IntKind.i64.wrap a.new)) + 1)))).length) cp98) by simp]
                  refine Cw.settleT Enc.si rfl (.here) ?_
                  intro K108 hK109 hs110
                  have hs111 := hs104.mono hK109
                  have hs112 := hs105.mono hK109
                  have hs113 := hs103.mono hK109
                  have hs114 := hX107.mono hK109
                  have hl115 := Sl.le hs110
                  refine Cw_ret ?_
                  refine ⟨(by first | exact .inl rfl | exact .inr rfl), [(Mem.val (Mem.mk m.words (SS.mk (some a100) cp98 (m.lists.l.set ((a.address).toNat) (SI.mk (some a96) cp94 (x7.l.take (x7.l.idxOf (IntKind.i64.wrap a.new)) ++ x7.l.drop ((x7.l.idxOf (IntKind.i64.wrap a.new)) + 1))))) m.tick)), (Answer.val (Answer.mk (((x7.l.take (x7.l.idxOf (IntKind.i64.wrap a.new)) ++ x7.l.drop ((x7.l.idxOf (IntKind.i64.wrap a.new)) + 1)).length : Nat) : Int) false false (SI.mk none 0 [])))], G, ⟨(Mem.val (Mem.mk m.words (SS.mk (some a100) cp98 (m.lists.l.set ((a.address).toNat) (SI.mk (some a96) cp94 (x7.l.take (x7.l.idxOf (IntKind.i64.wrap a.new)) ++ x7.l.drop ((x7.l.idxOf (IntKind.i64.wrap a.new)) + 1))))) m.tick)), _, rfl, ⟨_, 3, Mem.cells (Mem.mk m.words (SS.mk (some a100) cp98 (m.lists.l.set ((a.address).toNat) (SI.mk (some a96) cp94 (x7.l.take (x7.l.idxOf (IntKind.i64.wrap a.new)) ++ x7.l.drop ((x7.l.idxOf (IntKind.i64.wrap a.new)) + 1))))) m.tick), rfl, rfl, rfl, rfl, ⟨rfl, Rdc.blk (.tail _ (.head _)) rfl⟩, rfl⟩, ⟨(Answer.val (Answer.mk (((x7.l.take (x7.l.idxOf (IntKind.i64.wrap a.new)) ++ x7.l.drop ((x7.l.idxOf (IntKind.i64.wrap a.new)) + 1)).length : Nat) : Int) false false (SI.mk none 0 []))), _, rfl, ⟨_, 4, Answer.cells (Answer.mk (((x7.l.take (x7.l.idxOf (IntKind.i64.wrap a.new)) ++ x7.l.drop ((x7.l.idxOf (IntKind.i64.wrap a.new)) + 1)).length : Nat) : Int) false false (SI.mk none 0 [])), rfl, rfl, rfl, rfl, ⟨rfl, Rdc.blk (.head _) rfl⟩, rfl⟩, rfl⟩⟩, .cons _ (.cons _ (.cons _ (.cons _ (.refl _)))), ?_⟩
                  have q := getI_of (l := m.lists.l) (n := a.address) (by omega) hx8
                  have q3 : (m.lists.l.map SI.l).set a.address.toNat x7.l = m.lists.l.map SI.l := set_get (by simp [hx8])
                  rcases (show x7.l.length < 1000 ∨ ¬ x7.l.length < 1000 by omega) with q4 | q4 <;> first | (exfalso; omega) | (exact ⟨(Mem.mk m.words (SS.mk (some a100) cp98 (m.lists.l.set ((a.address).toNat) (SI.mk (some a96) cp94 (x7.l.take (x7.l.idxOf (IntKind.i64.wrap a.new)) ++ x7.l.drop ((x7.l.idxOf (IntKind.i64.wrap a.new)) + 1))))) m.tick), (Answer.mk (((x7.l.take (x7.l.idxOf (IntKind.i64.wrap a.new)) ++ x7.l.drop ((x7.l.idxOf (IntKind.i64.wrap a.new)) + 1)).length : Nat) : Int) false false (SI.mk none 0 [])), rfl, rfl, ⟨hs111.w, hs110, hs114, (by first | omega | (simp only [List.length_append, List.length_cons, List.length_nil, List.length_replicate, List.length_set]; omega) | (simp; omega)), (by first | omega | (simp only [List.length_append, List.length_cons, List.length_nil, List.length_replicate, List.length_set]; omega) | (simp; omega))⟩, ⟨(Sl.nil _ _)⟩, by first | (simp [dcd_eq, Nat.not_lt_of_le, List.erase_of_not_mem, listS, wordS, applyS, Mem.abs, getI_map, Answer.abs, an0, changeL, List.map_set, erase_idx, mkRes, q, *]; done) | (simp_all [dcd_eq, Nat.not_lt_of_le, List.erase_of_not_mem, listS, wordS, applyS, Mem.abs, getI_map, Answer.abs, an0, changeL, List.map_set, erase_idx, mkRes]; done)⟩)
                · intro h92
                  have h92 := dcd_f (h92)
                  refine Cw_seq ?_
                  refine Cw_region ?_
                  refine Ow_q rfl rfl rfl (Qt_loadA (m := 3) (cs := Mem.cells m) rfl rfl rfl rfl ⟨rfl, Rdc.blk (.tail _ (.tail _ (.tail _ (.head _)))) rfl⟩) ?_
                  refine Ow_q rfl rfl rfl (Qt_move rfl) ?_
                  refine Ow_q rfl rfl rfl (Qt_len rfl rfl) ?_
                  refine Ow_q rfl rfl rfl (Qt_conv (c := ((x7.l.length : Nat) : Int)) rfl rfl rfl (IntWalk.u64_in _ (by omega))) ?_
                  refine Ow_q rfl rfl rfl (Qt_build (cs := Answer.cells (Answer.mk ((x7.l.length : Nat) : Int) false false (SI.mk none 0 []))) rfl rfl rfl rfl rfl rfl) ?_
                  refine Ow_cons rfl (OpW_store (vs := [(.slice m.words.A m.words.l.length m.words.cp), (.slice m.lists.A m.lists.l.length m.lists.cp), (.int .i64 m.tick)]) (all' := [(.slice m.words.A m.words.l.length m.words.cp), (.slice m.lists.A m.lists.l.length m.lists.cp), (.int .i64 m.tick)]) rfl rfl rfl rfl rfl (.there .here) rfl rfl rfl ?_)
                  refine Ow_cons rfl (OpW_store (vs := [(.int .u64 ((x7.l.length : Nat) : Int)), (.bool false), (.bool false), (.slice none 0 0)]) (all' := [(.int .u64 ((x7.l.length : Nat) : Int)), (.bool false), (.bool false), (.slice none 0 0)]) rfl rfl rfl rfl rfl .here rfl rfl rfl ?_)
                  refine Ow_nil ?_
                  refine Cw_ret ?_
                  refine ⟨(by first | exact .inl rfl | exact .inr rfl), [(Mem.val m), (Answer.val (Answer.mk ((x7.l.length : Nat) : Int) false false (SI.mk none 0 [])))], G, ⟨(Mem.val m), _, rfl, ⟨_, 3, Mem.cells m, rfl, rfl, rfl, rfl, ⟨rfl, Rdc.blk (.tail _ (.head _)) rfl⟩, rfl⟩, ⟨(Answer.val (Answer.mk ((x7.l.length : Nat) : Int) false false (SI.mk none 0 []))), _, rfl, ⟨_, 4, Answer.cells (Answer.mk ((x7.l.length : Nat) : Int) false false (SI.mk none 0 [])), rfl, rfl, rfl, rfl, ⟨rfl, Rdc.blk (.head _) rfl⟩, rfl⟩, rfl⟩⟩, .cons _ (.cons _ (.cons _ (.cons _ (.refl _)))), ?_⟩
                  have q := getI_of (l := m.lists.l) (n := a.address) (by omega) hx8
                  have q3 : (m.lists.l.map SI.l).set a.address.toNat x7.l = m.lists.l.map SI.l := set_get (by simp [hx8])
                  rcases (show x7.l.length < 1000 ∨ ¬ x7.l.length < 1000 by omega) with q4 | q4 <;> first | (exfalso; omega) | (exact ⟨m, (Answer.mk ((x7.l.length : Nat) : Int) false false (SI.mk none 0 [])), rfl, rfl, hm, ⟨(Sl.nil _ _)⟩, by first | (simp [dcd_eq, Nat.not_lt_of_le, List.erase_of_not_mem, listS, wordS, applyS, Mem.abs, getI_map, Answer.abs, an0, changeL, List.map_set, erase_idx, mkRes, q, *]; done) | (simp_all [dcd_eq, Nat.not_lt_of_le, List.erase_of_not_mem, listS, wordS, applyS, Mem.abs, getI_map, Answer.abs, an0, changeL, List.map_set, erase_idx, mkRes]; done)⟩)
              · intro h91
                have h91 := dcd_f (h91)
                refine Ow_pass rfl rfl rfl rfl rfl rfl rfl ?_
                refine Ow_pass rfl rfl rfl rfl rfl rfl rfl ?_
                refine Ow_q rfl rfl rfl (Qt_pick_f rfl rfl) ?_
                refine Ow_q rfl rfl rfl (Qt_assign rfl) ?_
                refine Ow_nil ?_
                refine Cw_cond_f rfl ?_
                refine Cw_seq ?_
                refine Cw_region ?_
                refine Ow_q rfl rfl rfl (Qt_loadA (m := 3) (cs := Mem.cells m) rfl rfl rfl rfl ⟨rfl, Rdc.blk (.tail _ (.tail _ (.tail _ (.head _)))) rfl⟩) ?_
                refine Ow_q rfl rfl rfl (Qt_move rfl) ?_
                refine Ow_q rfl rfl rfl (Qt_len rfl rfl) ?_
                refine Ow_q rfl rfl rfl (Qt_conv (c := ((x7.l.length : Nat) : Int)) rfl rfl rfl (IntWalk.u64_in _ (by omega))) ?_
                refine Ow_q rfl rfl rfl (Qt_build (cs := Answer.cells (Answer.mk ((x7.l.length : Nat) : Int) false false (SI.mk none 0 []))) rfl rfl rfl rfl rfl rfl) ?_
                refine Ow_cons rfl (OpW_store (vs := [(.slice m.words.A m.words.l.length m.words.cp), (.slice m.lists.A m.lists.l.length m.lists.cp), (.int .i64 m.tick)]) (all' := [(.slice m.words.A m.words.l.length m.words.cp), (.slice m.lists.A m.lists.l.length m.lists.cp), (.int .i64 m.tick)]) rfl rfl rfl rfl rfl (.there .here) rfl rfl rfl ?_)
                refine Ow_cons rfl (OpW_store (vs := [(.int .u64 ((x7.l.length : Nat) : Int)), (.bool false), (.bool false), (.slice none 0 0)]) (all' := [(.int .u64 ((x7.l.length : Nat) : Int)), (.bool false), (.bool false), (.slice none 0 0)]) rfl rfl rfl rfl rfl .here rfl rfl rfl ?_)
                refine Ow_nil ?_
                refine Cw_ret ?_
                refine ⟨(by first | exact .inl rfl | exact .inr rfl), [(Mem.val m), (Answer.val (Answer.mk ((x7.l.length : Nat) : Int) false false (SI.mk none 0 [])))], G, ⟨(Mem.val m), _, rfl, ⟨_, 3, Mem.cells m, rfl, rfl, rfl, rfl, ⟨rfl, Rdc.blk (.tail _ (.head _)) rfl⟩, rfl⟩, ⟨(Answer.val (Answer.mk ((x7.l.length : Nat) : Int) false false (SI.mk none 0 []))), _, rfl, ⟨_, 4, Answer.cells (Answer.mk ((x7.l.length : Nat) : Int) false false (SI.mk none 0 [])), rfl, rfl, rfl, rfl, ⟨rfl, Rdc.blk (.head _) rfl⟩, rfl⟩, rfl⟩⟩, .cons _ (.cons _ (.cons _ (.cons _ (.refl _)))), ?_⟩
                have q := getI_of (l := m.lists.l) (n := a.address) (by omega) hx8
                have q3 : (m.lists.l.map SI.l).set a.address.toNat x7.l = m.lists.l.map SI.l := set_get (by simp [hx8])
                rcases (show x7.l.length < 1000 ∨ ¬ x7.l.length < 1000 by omega) with q4 | q4 <;> first | (exfalso; omega) | (exact ⟨m, (Answer.mk ((x7.l.length : Nat) : Int) false false (SI.mk none 0 [])), rfl, rfl, hm, ⟨(Sl.nil _ _)⟩, by first | (simp [dcd_eq, Nat.not_lt_of_le, List.erase_of_not_mem, listS, wordS, applyS, Mem.abs, getI_map, Answer.abs, an0, changeL, List.map_set, erase_idx, mkRes, q, *]; done) | (simp_all [dcd_eq, Nat.not_lt_of_le, List.erase_of_not_mem, listS, wordS, applyS, Mem.abs, getI_map, Answer.abs, an0, changeL, List.map_set, erase_idx, mkRes]; done)⟩)
          · intro h53
            have h53 := dcd_f (h53)
            refine Ow_pass rfl rfl rfl rfl rfl rfl rfl ?_
            refine Ow_pass rfl rfl rfl rfl rfl rfl rfl ?_
            refine Ow_pass rfl rfl rfl rfl rfl rfl rfl ?_
            refine Ow_q rfl rfl rfl (Qt_pick_f rfl rfl) ?_
            refine Ow_q rfl rfl rfl (Qt_assign rfl) ?_
            refine Ow_nil ?_
            refine Cw_cond_f rfl ?_
            refine Cw_seq ?_
            refine Cw_region ?_
            refine Ow_q rfl rfl rfl (Qt_fieldAddr (m := 0) rfl rfl rfl rfl rfl) ?_
            refine Ow_q rfl rfl rfl (Qt_load1 (v := (.int .i64 a.kind)) rfl rfl rfl (Rdc.blk (.tail _ (.tail _ (.head _))) rfl)) ?_
            refine Ow_q rfl rfl rfl (Qt_cmp rfl rfl rfl) ?_
            refine Ow_q rfl rfl rfl (Qt_move rfl) ?_
            refine Ow_caseG rfl rfl rfl ?_ ?_
            · intro h116
              have h116 := dcd_t (h116)
              refine Ow_qw rfl rfl rfl rfl rfl rfl (Qt_move rfl) ?_
              refine Ow_qw rfl rfl rfl rfl rfl rfl (Qt_cmp rfl rfl rfl) ?_
              refine Ow_q rfl rfl rfl (Qt_pick_t rfl rfl) ?_
              refine Ow_q rfl rfl rfl (Qt_assign rfl) ?_
              refine Ow_nil ?_
              refine Cw_cond rfl ?_ ?_
              · intro h117
                have h117 := dcd_t (h117)
                refine Cw_region ?_
                refine Ow_q rfl rfl rfl (Qt_move rfl) ?_
                refine Ow_cons rfl (OpW_call rfl Try.call62 rfl rfl (c_cloneI x7.A x7.cp x7.l _ _ hs_x7 (by first | omega | (simp only [List.length_append, List.length_cons, List.length_nil, List.length_replicate, List.length_set]; omega) | (simp; omega))) ?_)
                rintro _ _ _ - ⟨A118, cp119, rfl, hA120, rfl, rfl⟩
                obtain ⟨a121, rfl⟩ := hA120 (by first | omega | (simp only [List.length_append, List.length_cons, List.length_nil, List.length_replicate, List.length_set]; omega) | (simp; omega))
                refine Ow_q rfl rfl rfl (Qt_move rfl) ?_
                refine Ow_q rfl rfl rfl (Qt_move rfl) ?_
                refine Ow_q rfl rfl rfl (Qt_arith (e := ((((x7.l.idxOf (IntKind.i64.wrap a.new)) : Nat) : Int) + 1)) rfl rfl rfl (wrap_eq (by omega) (by omega))) ?_
                refine Ow_cons rfl (OpW_callG (v0 := (.slice (some a121) ((x7.l.take (x7.l.idxOf (IntKind.i64.wrap a.new)) ++ x7.l.drop ((x7.l.idxOf (IntKind.i64.wrap a.new)) + 1)).length) cp119)) rfl Try.call63 rfl rfl (Fc.at .here (fun G1 => c_delete a121 cp119 x7.l (x7.l.idxOf (IntKind.i64.wrap a.new)) (by first | omega | (simp only [List.length_append, List.length_cons, List.length_nil, List.length_replicate, List.length_set]; omega) | (simp; omega)) _ G1 (by first | omega | (simp only [List.length_append, List.length_cons, List.length_nil, List.length_replicate, List.length_set]; omega) | (simp; omega)))) ?_)
                refine Ow_q rfl rfl rfl (Qt_assign rfl) ?_
                refine Ow_nil ?_
                refine Cw_seq ?_
                refine Cw_region ?_
                refine Ow_q rfl rfl rfl (Qt_fieldAddr (m := 1) rfl rfl rfl rfl rfl) ?_
                refine Ow_q rfl rfl rfl (Qt_load1 (v := (.slice m.lists.A m.lists.l.length m.lists.cp)) rfl rfl rfl (Rdc.blk (.tail _ (.tail _ (.tail _ (.tail _ (.head _))))) rfl)) ?_
                refine Ow_cons rfl (OpW_call rfl Try.call64 rfl rfl (c_cloneS m.lists.A m.lists.cp m.lists.l _ _ hm.l (by first | omega | (simp only [List.length_append, List.length_cons, List.length_nil, List.length_replicate, List.length_set]; omega) | (simp; omega)) hm.x) ?_)
                rintro _ _ _ - ⟨A122, cp123, rfl, hA124, rfl, rfl⟩
                obtain ⟨a125, rfl⟩ := hA124 (by first | omega | (simp only [List.length_append, List.length_cons, List.length_nil, List.length_replicate, List.length_set]; omega) | (simp; omega))
                refine Ow_q rfl rfl rfl (Qt_fieldAddr (m := 1) rfl rfl rfl rfl rfl) ?_
                refine Ow_cons rfl (OpW_store (vs := [(.slice (some a125) m.lists.l.length cp123)]) (all' := [(.slice m.words.A m.words.l.length m.words.cp), (.slice (some a125) m.lists.l.length cp123), (.int .i64 m.tick)]) rfl rfl rfl rfl rfl (.there (.there (.there (.there (.there .here))))) rfl rfl rfl ?_)
                refine Ow_nil ?_
                refine Cw_seq ?_
                refine Cw_region ?_
                refine Ow_q rfl rfl rfl (Qt_fieldAddr (m := 1) rfl rfl rfl rfl rfl) ?_
                refine Ow_q rfl rfl rfl (Qt_load1 (v := (.slice (some a125) m.lists.l.length cp123)) rfl rfl rfl (Rdc.blk (.tail _ (.tail _ (.tail _ (.tail _ (.tail _ (.head _)))))) rfl)) ?_
                refine Ow_q rfl rfl rfl (Qt_fieldAddr (m := 1) rfl rfl rfl rfl rfl) ?_
                refine Ow_q rfl rfl rfl (Qt_load1 (v := (.int .i64 a.address)) rfl rfl rfl (Rdc.blk (.tail _ (.tail _ (.tail _ (.tail _ (.head _))))) rfl)) ?_
                refine Ow_q rfl rfl rfl (Qt_move rfl) ?_
                refine Ow_q rfl rfl rfl (Qt_ixG (q := (a.address).toNat) (o := ((a.address).toNat) * 1 + 0) rfl rfl rfl rfl rfl (by omega) (by first | omega | (simp only [List.length_append, List.length_cons, List.length_nil, List.length_replicate, List.length_set]; omega) | (simp; omega)) rfl) ?_
                refine Ow.settleT Enc.i64 rfl (.there (.here)) ?_
                intro K126 hK127 hs128
                have hs129 := hm.mono hK127
                have hs130 := hs_x7.mono hK127
                have hl131 := Sl.le hs128
                have hX132 := SlAll.set (y := (SI.mk (some a121) cp119 (x7.l.take (x7.l.idxOf (IntKind.i64.wrap a.new)) ++ x7.l.drop ((x7.l.idxOf (IntKind.i64.wrap a.new)) + 1)))) hs129.x ((a.address).toNat) hs128 (by first | omega | (simp only [List.length_append, List.length_cons, List.length_nil, List.length_replicate, List.length_set]; omega) | (simp; omega))
                refine Ow_cons rfl (OpW_storeRowT (q := ((a.address).toNat)) (off := 0) (vs := [(.slice (some a121) ((x7.l.take (x7.l.idxOf (IntKind.i64.wrap a.new)) ++ x7.l.drop ((x7.l.idxOf (IntKind.i64.wrap a.new)) + 1)).length) cp119)]) (L := m.lists.l) (z' := (SI.mk (some a121) cp119 (x7.l.take (x7.l.idxOf (IntKind.i64.wrap a.new)) ++ x7.l.drop ((x7.l.idxOf (IntKind.i64.wrap a.new)) + 1)))) Enc.si rfl rfl rfl rfl rfl hx8 rfl rfl rfl .here ?_)
                refine Ow_nil ?_
                refine Cw_seq ?_
                refine Cw_region ?_
                refine Ow_q rfl rfl rfl (Qt_loadA (m := 3) (cs := Mem.cells (Mem.mk m.words (SS.mk (some a125) cp123 m.lists.l) m.tick)) rfl rfl rfl rfl ⟨rfl, Rdc.blk (.tail _ (.tail _ (.tail _ (.tail _ (.head _))))) rfl⟩) ?_
                refine Ow_q rfl rfl rfl (Qt_move rfl) ?_
                refine Ow_q rfl rfl rfl (Qt_len rfl rfl) ?_
                refine Ow_q rfl rfl rfl (Qt_conv (c := (((x7.l.take (x7.l.idxOf (IntKind.i64.wrap a.new)) ++ x7.l.drop ((x7.l.idxOf (IntKind.i64.wrap a.new)) + 1)).length : Nat) : Int)) rfl rfl rfl (IntWalk.u64_in _ (by omega))) ?_
                refine Ow_q rfl rfl rfl (Qt_build (cs := Answer.cells (Answer.mk (((x7.l.take (x7.l.idxOf (IntKind.i64.wrap a.new)) ++ x7.l.drop ((x7.l.idxOf (IntKind.i64.wrap a.new)) + 1)).length : Nat) : Int) false false (SI.mk none 0 []))) rfl rfl rfl rfl rfl rfl) ?_
                refine Ow_cons rfl (OpW_store (vs := [(.slice m.words.A m.words.l.length m.words.cp), (.slice (some a125) m.lists.l.length cp123), (.int .i64 m.tick)]) (all' := [(.slice m.words.A m.words.l.length m.words.cp), (.slice (some a125) m.lists.l.length cp123), (.int .i64 m.tick)]) rfl rfl rfl rfl rfl (.there (.there .here)) rfl rfl rfl ?_)
                refine Ow_cons rfl (OpW_store (vs := [(.int .u64 (((x7.l.take (x7.l.idxOf (IntKind.i64.wrap a.new)) ++ x7.l.drop ((x7.l.idxOf (IntKind.i64.wrap a.new)) + 1)).length : Nat) : Int)), (.bool false), (.bool false), (.slice none 0 0)]) (all' := [(.int .u64 (((x7.l.take (x7.l.idxOf (IntKind.i64.wrap a.new)) ++ x7.l.drop ((x7.l.idxOf (IntKind.i64.wrap a.new)) + 1)).length : Nat) : Int)), (.bool false), (.bool false), (.slice none 0 0)]) rfl rfl rfl rfl rfl (.there .here) rfl rfl rfl ?_)
                refine Ow_nil ?_
                rw [show (Value.slice (some a125) m.lists.l.length cp123) = (Value.slice (some a125) ((m.lists.l.set ((a.address).toNat) (SI.mk (some a121) cp119 (x7.l.take (x7.l.idxOf (IntKind.i64.wrap a.new)) ++ x7.l.drop ((x7.l.idxOf (IntKind.i64.wrap a.new)) + 1)))).length) cp123) by simp]
                refine Cw.settleT Enc.si rfl (.here) ?_
                intro K133 hK134 hs135
                have hs136 := hs129.mono hK134
                have hs137 := hs130.mono hK134
                have hs138 := hs128.mono hK134
                have hs139 := hX132.mono hK134
                have hl140 := Sl.le hs135
                refine Cw_ret ?_
                refine ⟨(by first | exact .inl rfl | exact .inr rfl), [(Mem.val (Mem.mk m.words (SS.mk (some a125) cp123 (m.lists.l.set ((a.address).toNat) (SI.mk (some a121) cp119 (x7.l.take (x7.l.idxOf (IntKind.i64.wrap a.new)) ++ x7.l.drop ((x7.l.idxOf (IntKind.i64.wrap a.new)) + 1))))) m.tick)), (Answer.val (Answer.mk (((x7.l.take (x7.l.idxOf (IntKind.i64.wrap a.new)) ++ x7.l.drop ((x7.l.idxOf (IntKind.i64.wrap a.new)) + 1)).length : Nat) : Int) false false (SI.mk none 0 [])))], G, ⟨(Mem.val (Mem.mk m.words (SS.mk (some a125) cp123 (m.lists.l.set ((a.address).toNat) (SI.mk (some a121) cp119 (x7.l.take (x7.l.idxOf (IntKind.i64.wrap a.new)) ++ x7.l.drop ((x7.l.idxOf (IntKind.i64.wrap a.new)) + 1))))) m.tick)), _, rfl, ⟨_, 3, Mem.cells (Mem.mk m.words (SS.mk (some a125) cp123 (m.lists.l.set ((a.address).toNat) (SI.mk (some a121) cp119 (x7.l.take (x7.l.idxOf (IntKind.i64.wrap a.new)) ++ x7.l.drop ((x7.l.idxOf (IntKind.i64.wrap a.new)) + 1))))) m.tick), rfl, rfl, rfl, rfl, ⟨rfl, Rdc.blk (.tail _ (.head _)) rfl⟩, rfl⟩, ⟨(Answer.val (Answer.mk (((x7.l.take (x7.l.idxOf (IntKind.i64.wrap a.new)) ++ x7.l.drop ((x7.l.idxOf (IntKind.i64.wrap a.new)) + 1)).length : Nat) : Int) false false (SI.mk none 0 []))), _, rfl, ⟨_, 4, Answer.cells (Answer.mk (((x7.l.take (x7.l.idxOf (IntKind.i64.wrap a.new)) ++ x7.l.drop ((x7.l.idxOf (IntKind.i64.wrap a.new)) + 1)).length : Nat) : Int) false false (SI.mk none 0 [])), rfl, rfl, rfl, rfl, ⟨rfl, Rdc.blk (.head _) rfl⟩, rfl⟩, rfl⟩⟩, .cons _ (.cons _ (.cons _ (.cons _ (.refl _)))), ?_⟩
                have q := getI_of (l := m.lists.l) (n := a.address) (by omega) hx8
                have q3 : (m.lists.l.map SI.l).set a.address.toNat x7.l = m.lists.l.map SI.l := set_get (by simp [hx8])
                rcases (show x7.l.length < 1000 ∨ ¬ x7.l.length < 1000 by omega) with q4 | q4 <;> first | (exfalso; omega) | (exact ⟨(Mem.mk m.words (SS.mk (some a125) cp123 (m.lists.l.set ((a.address).toNat) (SI.mk (some a121) cp119 (x7.l.take (x7.l.idxOf (IntKind.i64.wrap a.new)) ++ x7.l.drop ((x7.l.idxOf (IntKind.i64.wrap a.new)) + 1))))) m.tick), (Answer.mk (((x7.l.take (x7.l.idxOf (IntKind.i64.wrap a.new)) ++ x7.l.drop ((x7.l.idxOf (IntKind.i64.wrap a.new)) + 1)).length : Nat) : Int) false false (SI.mk none 0 [])), rfl, rfl, ⟨hs136.w, hs135, hs139, (by first | omega | (simp only [List.length_append, List.length_cons, List.length_nil, List.length_replicate, List.length_set]; omega) | (simp; omega)), (by first | omega | (simp only [List.length_append, List.length_cons, List.length_nil, List.length_replicate, List.length_set]; omega) | (simp; omega))⟩, ⟨(Sl.nil _ _)⟩, by first | (simp [dcd_eq, Nat.not_lt_of_le, List.erase_of_not_mem, listS, wordS, applyS, Mem.abs, getI_map, Answer.abs, an0, changeL, List.map_set, erase_idx, mkRes, q, *]; done) | (simp_all [dcd_eq, Nat.not_lt_of_le, List.erase_of_not_mem, listS, wordS, applyS, Mem.abs, getI_map, Answer.abs, an0, changeL, List.map_set, erase_idx, mkRes]; done)⟩)
              · intro h117
                have h117 := dcd_f (h117)
                refine Cw_seq ?_
                refine Cw_region ?_
                refine Ow_q rfl rfl rfl (Qt_loadA (m := 3) (cs := Mem.cells m) rfl rfl rfl rfl ⟨rfl, Rdc.blk (.tail _ (.tail _ (.tail _ (.head _)))) rfl⟩) ?_
                refine Ow_q rfl rfl rfl (Qt_move rfl) ?_
                refine Ow_q rfl rfl rfl (Qt_len rfl rfl) ?_
                refine Ow_q rfl rfl rfl (Qt_conv (c := ((x7.l.length : Nat) : Int)) rfl rfl rfl (IntWalk.u64_in _ (by omega))) ?_
                refine Ow_q rfl rfl rfl (Qt_build (cs := Answer.cells (Answer.mk ((x7.l.length : Nat) : Int) false false (SI.mk none 0 []))) rfl rfl rfl rfl rfl rfl) ?_
                refine Ow_cons rfl (OpW_store (vs := [(.slice m.words.A m.words.l.length m.words.cp), (.slice m.lists.A m.lists.l.length m.lists.cp), (.int .i64 m.tick)]) (all' := [(.slice m.words.A m.words.l.length m.words.cp), (.slice m.lists.A m.lists.l.length m.lists.cp), (.int .i64 m.tick)]) rfl rfl rfl rfl rfl (.there .here) rfl rfl rfl ?_)
                refine Ow_cons rfl (OpW_store (vs := [(.int .u64 ((x7.l.length : Nat) : Int)), (.bool false), (.bool false), (.slice none 0 0)]) (all' := [(.int .u64 ((x7.l.length : Nat) : Int)), (.bool false), (.bool false), (.slice none 0 0)]) rfl rfl rfl rfl rfl .here rfl rfl rfl ?_)
                refine Ow_nil ?_
                refine Cw_ret ?_
                refine ⟨(by first | exact .inl rfl | exact .inr rfl), [(Mem.val m), (Answer.val (Answer.mk ((x7.l.length : Nat) : Int) false false (SI.mk none 0 [])))], G, ⟨(Mem.val m), _, rfl, ⟨_, 3, Mem.cells m, rfl, rfl, rfl, rfl, ⟨rfl, Rdc.blk (.tail _ (.head _)) rfl⟩, rfl⟩, ⟨(Answer.val (Answer.mk ((x7.l.length : Nat) : Int) false false (SI.mk none 0 []))), _, rfl, ⟨_, 4, Answer.cells (Answer.mk ((x7.l.length : Nat) : Int) false false (SI.mk none 0 [])), rfl, rfl, rfl, rfl, ⟨rfl, Rdc.blk (.head _) rfl⟩, rfl⟩, rfl⟩⟩, .cons _ (.cons _ (.cons _ (.cons _ (.refl _)))), ?_⟩
                have q := getI_of (l := m.lists.l) (n := a.address) (by omega) hx8
                have q3 : (m.lists.l.map SI.l).set a.address.toNat x7.l = m.lists.l.map SI.l := set_get (by simp [hx8])
                rcases (show x7.l.length < 1000 ∨ ¬ x7.l.length < 1000 by omega) with q4 | q4 <;> first | (exfalso; omega) | (exact ⟨m, (Answer.mk ((x7.l.length : Nat) : Int) false false (SI.mk none 0 [])), rfl, rfl, hm, ⟨(Sl.nil _ _)⟩, by first | (simp [dcd_eq, Nat.not_lt_of_le, List.erase_of_not_mem, listS, wordS, applyS, Mem.abs, getI_map, Answer.abs, an0, changeL, List.map_set, erase_idx, mkRes, q, *]; done) | (simp_all [dcd_eq, Nat.not_lt_of_le, List.erase_of_not_mem, listS, wordS, applyS, Mem.abs, getI_map, Answer.abs, an0, changeL, List.map_set, erase_idx, mkRes]; done)⟩)
            · intro h116
              have h116 := dcd_f (h116)
              refine Ow_pass rfl rfl rfl rfl rfl rfl rfl ?_
              refine Ow_pass rfl rfl rfl rfl rfl rfl rfl ?_
              refine Ow_q rfl rfl rfl (Qt_pick_f rfl rfl) ?_
              refine Ow_q rfl rfl rfl (Qt_assign rfl) ?_
              refine Ow_nil ?_
              refine Cw_cond_f rfl ?_
              refine Cw_seq ?_
              refine Cw_region ?_
              refine Ow_q rfl rfl rfl (Qt_loadA (m := 3) (cs := Mem.cells m) rfl rfl rfl rfl ⟨rfl, Rdc.blk (.tail _ (.tail _ (.tail _ (.head _)))) rfl⟩) ?_
              refine Ow_q rfl rfl rfl (Qt_move rfl) ?_
              refine Ow_q rfl rfl rfl (Qt_len rfl rfl) ?_
              refine Ow_q rfl rfl rfl (Qt_conv (c := ((x7.l.length : Nat) : Int)) rfl rfl rfl (IntWalk.u64_in _ (by omega))) ?_
              refine Ow_q rfl rfl rfl (Qt_build (cs := Answer.cells (Answer.mk ((x7.l.length : Nat) : Int) false false (SI.mk none 0 []))) rfl rfl rfl rfl rfl rfl) ?_
              refine Ow_cons rfl (OpW_store (vs := [(.slice m.words.A m.words.l.length m.words.cp), (.slice m.lists.A m.lists.l.length m.lists.cp), (.int .i64 m.tick)]) (all' := [(.slice m.words.A m.words.l.length m.words.cp), (.slice m.lists.A m.lists.l.length m.lists.cp), (.int .i64 m.tick)]) rfl rfl rfl rfl rfl (.there .here) rfl rfl rfl ?_)
              refine Ow_cons rfl (OpW_store (vs := [(.int .u64 ((x7.l.length : Nat) : Int)), (.bool false), (.bool false), (.slice none 0 0)]) (all' := [(.int .u64 ((x7.l.length : Nat) : Int)), (.bool false), (.bool false), (.slice none 0 0)]) rfl rfl rfl rfl rfl .here rfl rfl rfl ?_)
              refine Ow_nil ?_
              refine Cw_ret ?_
              refine ⟨(by first | exact .inl rfl | exact .inr rfl), [(Mem.val m), (Answer.val (Answer.mk ((x7.l.length : Nat) : Int) false false (SI.mk none 0 [])))], G, ⟨(Mem.val m), _, rfl, ⟨_, 3, Mem.cells m, rfl, rfl, rfl, rfl, ⟨rfl, Rdc.blk (.tail _ (.head _)) rfl⟩, rfl⟩, ⟨(Answer.val (Answer.mk ((x7.l.length : Nat) : Int) false false (SI.mk none 0 []))), _, rfl, ⟨_, 4, Answer.cells (Answer.mk ((x7.l.length : Nat) : Int) false false (SI.mk none 0 [])), rfl, rfl, rfl, rfl, ⟨rfl, Rdc.blk (.head _) rfl⟩, rfl⟩, rfl⟩⟩, .cons _ (.cons _ (.cons _ (.cons _ (.refl _)))), ?_⟩
              have q := getI_of (l := m.lists.l) (n := a.address) (by omega) hx8
              have q3 : (m.lists.l.map SI.l).set a.address.toNat x7.l = m.lists.l.map SI.l := set_get (by simp [hx8])
              rcases (show x7.l.length < 1000 ∨ ¬ x7.l.length < 1000 by omega) with q4 | q4 <;> first | (exfalso; omega) | (exact ⟨m, (Answer.mk ((x7.l.length : Nat) : Int) false false (SI.mk none 0 [])), rfl, rfl, hm, ⟨(Sl.nil _ _)⟩, by first | (simp [dcd_eq, Nat.not_lt_of_le, List.erase_of_not_mem, listS, wordS, applyS, Mem.abs, getI_map, Answer.abs, an0, changeL, List.map_set, erase_idx, mkRes, q, *]; done) | (simp_all [dcd_eq, Nat.not_lt_of_le, List.erase_of_not_mem, listS, wordS, applyS, Mem.abs, getI_map, Answer.abs, an0, changeL, List.map_set, erase_idx, mkRes]; done)⟩)

set_option maxHeartbeats 1000000 in
theorem c_apply (m : Mem) (a : Access) (K : Kp) (G : List Ent) (hm : MemOk K m) :
    Fc Try.prog 34 #[(Mem.val m), (Access.val a)] K G (fun v K' G' => ∃ m' b, v = .tuple #[Mem.val m', Answer.val b, .bool (grantedS m.abs a)] ∧ G = G' ∧ MemOk K' m' ∧ AnsOk K' b ∧ (m'.abs, b.abs) = applyS m.abs a) := by
  refine Fc_of Try.func34 rfl Try.ntmps34 Try.results34 rfl ?_
  have hmw := Sl.le hm.w
  have hml := Sl.le hm.l
  have hmzw := hm.zw
  have hmzl := hm.zl
  refine Cw_seq ?_
  refine Cw_region ?_
  refine Ow_cons rfl (OpW_box (cs := [(.slice m.words.A m.words.l.length m.words.cp), (.slice m.lists.A m.lists.l.length m.lists.cp), (.int .i64 m.tick)]) rfl rfl rfl (fun b1 => ?_))
  refine Ow_cons rfl (OpW_box (cs := [(.int .i64 a.kind), (.int .i64 a.address), (.int .u64 a.old), (.int .u64 a.new), (.int .i64 a.until_)]) rfl rfl rfl (fun b2 => ?_))
  refine Ow_cons rfl (OpW_alloc (cs := [(.slice none 0 0), (.slice none 0 0), (.int .i64 0)]) rfl rfl rfl rfl (fun b3 => ?_))
  refine Ow_cons rfl (OpW_alloc (cs := [(.int .u64 0), (.bool false), (.bool false), (.slice none 0 0)]) rfl rfl rfl rfl (fun b4 => ?_))
  refine Ow_q rfl rfl rfl (Qt_assign rfl) ?_
  refine Ow_nil ?_
  refine Cw_seq ?_
  refine Cw_seq ?_
  refine Cw_region ?_
  refine Ow_q rfl rfl rfl (Qt_loadA (m := 3) (cs := Mem.cells m) rfl rfl rfl rfl ⟨rfl, Rdc.blk (.tail _ (.tail _ (.tail _ (.head _)))) rfl⟩) ?_
  refine Ow_q rfl rfl rfl (Qt_loadA (m := 5) (cs := Access.cells a) rfl rfl rfl rfl ⟨rfl, Rdc.blk (.tail _ (.tail _ (.head _))) rfl⟩) ?_
  refine Ow_cons rfl (OpW_callP (v0 := (.bool (grantedS m.abs a))) rfl Try.call36 rfl rfl (c_granted m a _ _ hm) ?_)
  refine Ow_q rfl rfl rfl (Qt_not rfl) ?_
  refine Ow_nil ?_
  refine Cw_cond rfl ?_ ?_
  · intro h5
    have h5 := nt_t (h5)
    refine Cw_seq ?_
    refine Cw_region ?_
    refine Ow_q rfl rfl rfl (Qt_loadA (m := 3) (cs := Mem.cells m) rfl rfl rfl rfl ⟨rfl, Rdc.blk (.tail _ (.tail _ (.tail _ (.head _)))) rfl⟩) ?_
    refine Ow_q rfl rfl rfl (Qt_build (cs := Answer.cells (Answer.mk 0 false false (SI.mk none 0 []))) rfl rfl rfl rfl rfl rfl) ?_
    refine Ow_cons rfl (OpW_store (vs := [(.slice m.words.A m.words.l.length m.words.cp), (.slice m.lists.A m.lists.l.length m.lists.cp), (.int .i64 m.tick)]) (all' := [(.slice m.words.A m.words.l.length m.words.cp), (.slice m.lists.A m.lists.l.length m.lists.cp), (.int .i64 m.tick)]) rfl rfl rfl rfl rfl (.there .here) rfl rfl rfl ?_)
    refine Ow_cons rfl (OpW_store (vs := [(.int .u64 0), (.bool false), (.bool false), (.slice none 0 0)]) (all' := [(.int .u64 0), (.bool false), (.bool false), (.slice none 0 0)]) rfl rfl rfl rfl rfl .here rfl rfl rfl ?_)
    refine Ow_q rfl rfl rfl (Qt_assign rfl) ?_
    refine Ow_nil ?_
    refine Cw_ret ?_
    refine ⟨(by first | exact .inl rfl | exact .inr rfl), [(Mem.val m), (Answer.val (Answer.mk 0 false false (SI.mk none 0 []))), (.bool false)], G, ⟨(Mem.val m), _, rfl, ⟨_, 3, Mem.cells m, rfl, rfl, rfl, rfl, ⟨rfl, Rdc.blk (.tail _ (.head _)) rfl⟩, rfl⟩, ⟨(Answer.val (Answer.mk 0 false false (SI.mk none 0 []))), _, rfl, ⟨_, 4, Answer.cells (Answer.mk 0 false false (SI.mk none 0 [])), rfl, rfl, rfl, rfl, ⟨rfl, Rdc.blk (.head _) rfl⟩, rfl⟩, ⟨(.bool false), _, rfl, rfl, rfl⟩⟩⟩, .cons _ (.cons _ (.cons _ (.cons _ (.refl _)))), ?_⟩
    exact ⟨m, (Answer.mk 0 false false (SI.mk none 0 [])), (by simp [mkRes, *]), rfl, hm, ⟨(Sl.nil _ _)⟩, by first | (exfalso; omega) | (simp [dcd_eq, Nat.not_lt_of_le, List.erase_of_not_mem, listS, wordS, applyS, Mem.abs, getI_map, Answer.abs, an0, changeL, List.map_set, erase_idx, mkRes, *]; done) | (simp_all [dcd_eq, Nat.not_lt_of_le, List.erase_of_not_mem, listS, wordS, applyS, Mem.abs, getI_map, Answer.abs, an0, changeL, List.map_set, erase_idx, mkRes]; done) | (simp_all [dcd_eq, Nat.not_lt_of_le, List.erase_of_not_mem, listS, wordS, applyS, Mem.abs, getI_map, Answer.abs, an0, changeL, List.map_set, erase_idx, mkRes]; omega)⟩
  · intro h5
    have h5 := nt_f (h5)
    refine Cw_skip ?_
    refine Cw_seq ?_
    refine Cw_seq ?_
    refine Cw_region ?_
    refine Ow_q rfl rfl rfl (Qt_fieldAddr (m := 0) rfl rfl rfl rfl rfl) ?_
    refine Ow_q rfl rfl rfl (Qt_load1 (v := (.int .i64 a.kind)) rfl rfl rfl (Rdc.blk (.tail _ (.tail _ (.head _))) rfl)) ?_
    refine Ow_q rfl rfl rfl (Qt_cmp rfl rfl rfl) ?_
    refine Ow_nil ?_
    refine Cw_cond rfl ?_ ?_
    · intro h6
      have h6 := dcd_t (h6)
      refine Cw_seq ?_
      refine Cw_region ?_
      refine Ow_q rfl rfl rfl (Qt_loadA (m := 3) (cs := Mem.cells m) rfl rfl rfl rfl ⟨rfl, Rdc.blk (.tail _ (.tail _ (.tail _ (.head _)))) rfl⟩) ?_
      refine Ow_q rfl rfl rfl (Qt_loadA (m := 5) (cs := Access.cells a) rfl rfl rfl rfl ⟨rfl, Rdc.blk (.tail _ (.tail _ (.head _))) rfl⟩) ?_
      refine Ow_cons rfl (OpW_call rfl Try.call52 rfl rfl (c_list m a ⟨by omega, granted_le (by assumption)⟩ _ _ hm) ?_)
      rintro _ K9 _ hK10 ⟨m7, b8, rfl, rfl, hm11, hb12, he13⟩
      have hs14 := hm.mono hK10
      have hm11w := Sl.le hm11.w
      have hm11l := Sl.le hm11.l
      have hm11zw := hm11.zw
      have hm11zl := hm11.zl
      refine Ow_q rfl rfl rfl (Qt_move rfl) ?_
      refine Ow_q rfl rfl rfl (Qt_extract rfl rfl) ?_
      refine Ow_q rfl rfl rfl (Qt_extract rfl rfl) ?_
      refine Ow_cons rfl (OpW_alloc (cs := [(.slice none 0 0), (.slice none 0 0), (.int .i64 0)]) rfl rfl rfl rfl (fun b15 => ?_))
      refine Ow_cons rfl (OpW_alloc (cs := [(.int .u64 0), (.bool false), (.bool false), (.slice none 0 0)]) rfl rfl rfl rfl (fun b16 => ?_))
      refine Ow_cons rfl (OpW_store (vs := [(.slice m7.words.A m7.words.l.length m7.words.cp), (.slice m7.lists.A m7.lists.l.length m7.lists.cp), (.int .i64 m7.tick)]) (all' := [(.slice m7.words.A m7.words.l.length m7.words.cp), (.slice m7.lists.A m7.lists.l.length m7.lists.cp), (.int .i64 m7.tick)]) rfl rfl rfl rfl rfl (.there .here) rfl rfl rfl ?_)
      refine Ow_cons rfl (OpW_store (vs := [(.int .u64 b8.value), (.bool b8.ok), (.bool b8.late), (.slice b8.list.A b8.list.l.length b8.list.cp)]) (all' := [(.int .u64 b8.value), (.bool b8.ok), (.bool b8.late), (.slice b8.list.A b8.list.l.length b8.list.cp)]) rfl rfl rfl rfl rfl .here rfl rfl rfl ?_)
      refine Ow_nil ?_
      refine Cw_seq ?_
      refine Cw_region_any [.blk b16 40 [(.int .u64 b8.value), (.bool b8.ok), (.bool b8.late), (.slice b8.list.A b8.list.l.length b8.list.cp)], .blk b15 49 [(.slice m7.words.A m7.words.l.length m7.words.cp), (.slice m7.lists.A m7.lists.l.length m7.lists.cp), (.int .i64 m7.tick)], .blk b2 24 [(.int .i64 a.kind), (.int .i64 a.address), (.int .u64 a.old), (.int .u64 a.new), (.int .i64 a.until_)], .blk b1 49 [(.slice m.words.A m.words.l.length m.words.cp), (.slice m.lists.A m.lists.l.length m.lists.cp), (.int .i64 m.tick)]] rfl (Inc.cons (.head _) (Inc.cons (.tail _ (.head _)) (Inc.cons (.tail _ (.tail _ (.tail _ (.tail _ (.head _))))) (Inc.cons (.tail _ (.tail _ (.tail _ (.tail _ (.tail _ (.head _)))))) Inc.nil)))) ?_
      refine Aw_q 0 rfl (by kernel_rfl) (by kernel_rfl) (by kernel_rfl) rfl rfl rfl (Qt_loadA (m := 3) (cs := Mem.cells m7) rfl rfl rfl rfl ⟨rfl, Rdc.blk (.tail _ (.head _)) rfl⟩) ?_
      refine Aw_q 1 rfl (by kernel_rfl) (by kernel_rfl) (by kernel_rfl) rfl rfl rfl (Qt_loadA (m := 4) (cs := Answer.cells b8) rfl rfl rfl rfl ⟨rfl, Rdc.blk (.head _) rfl⟩) ?_
      refine Aw_one 2 (by kernel_rfl) (Ax_mk rfl rfl (OpW_store (vs := [(.slice m7.words.A m7.words.l.length m7.words.cp), (.slice m7.lists.A m7.lists.l.length m7.lists.cp), (.int .i64 m7.tick)]) (all' := [(.slice m7.words.A m7.words.l.length m7.words.cp), (.slice m7.lists.A m7.lists.l.length m7.lists.cp), (.int .i64 m7.tick)]) rfl rfl rfl rfl rfl (.there (.there (.there .here))) rfl rfl rfl ⟨(Inc.cons (.head _) (Inc.cons (.tail _ (.head _)) (Inc.cons (.tail _ (.tail _ (.tail _ (.tail _ (.head _))))) (Inc.cons (.tail _ (.tail _ (.tail _ (.tail _ (.tail _ (.head _)))))) Inc.nil)))), ?_⟩))
      refine Aw_one 3 (by kernel_rfl) (Ax_mk rfl rfl (OpW_store (vs := [(.int .u64 b8.value), (.bool b8.ok), (.bool b8.late), (.slice b8.list.A b8.list.l.length b8.list.cp)]) (all' := [(.int .u64 b8.value), (.bool b8.ok), (.bool b8.late), (.slice b8.list.A b8.list.l.length b8.list.cp)]) rfl rfl rfl rfl rfl (.there (.there .here)) rfl rfl rfl ⟨(Inc.cons (.head _) (Inc.cons (.tail _ (.head _)) (Inc.cons (.tail _ (.tail _ (.tail _ (.tail _ (.head _))))) (Inc.cons (.tail _ (.tail _ (.tail _ (.tail _ (.tail _ (.head _)))))) Inc.nil)))), ?_⟩))
      refine Aw_q 4 rfl (by kernel_rfl) (by kernel_rfl) (by kernel_rfl) rfl rfl rfl (Qt_assign rfl) ?_
      refine Aw_done (by kernel_rfl) ?_
      refine Cw_ret ?_
      refine ⟨(by first | exact .inl rfl | exact .inr rfl), [(Mem.val m7), (Answer.val b8), (.bool true)], G, ⟨(Mem.val m7), _, rfl, ⟨_, 3, Mem.cells m7, rfl, rfl, rfl, rfl, ⟨rfl, Rdc.blk (.tail _ (.tail _ (.tail _ (.head _)))) rfl⟩, rfl⟩, ⟨(Answer.val b8), _, rfl, ⟨_, 4, Answer.cells b8, rfl, rfl, rfl, rfl, ⟨rfl, Rdc.blk (.tail _ (.tail _ (.head _))) rfl⟩, rfl⟩, ⟨(.bool true), _, rfl, rfl, rfl⟩⟩⟩, .cons _ (.cons _ (.cons _ (.cons _ (.cons _ (.cons _ (.refl _)))))), ?_⟩
      exact ⟨m7, b8, (by simp [mkRes, *]), rfl, hm11, hb12, by first | (exfalso; omega) | (simp [dcd_eq, Nat.not_lt_of_le, List.erase_of_not_mem, listS, wordS, applyS, Mem.abs, getI_map, Answer.abs, an0, changeL, List.map_set, erase_idx, mkRes, *]; done) | (simp_all [dcd_eq, Nat.not_lt_of_le, List.erase_of_not_mem, listS, wordS, applyS, Mem.abs, getI_map, Answer.abs, an0, changeL, List.map_set, erase_idx, mkRes]; done) | (simp_all [dcd_eq, Nat.not_lt_of_le, List.erase_of_not_mem, listS, wordS, applyS, Mem.abs, getI_map, Answer.abs, an0, changeL, List.map_set, erase_idx, mkRes]; omega)⟩
    · intro h6
      have h6 := dcd_f (h6)
      refine Cw_skip ?_
      refine Cw_seq ?_
      refine Cw_region ?_
      refine Ow_q rfl rfl rfl (Qt_loadA (m := 3) (cs := Mem.cells m) rfl rfl rfl rfl ⟨rfl, Rdc.blk (.tail _ (.tail _ (.tail _ (.head _)))) rfl⟩) ?_
      refine Ow_q rfl rfl rfl (Qt_fieldAddr (m := 1) rfl rfl rfl rfl rfl) ?_
      refine Ow_q rfl rfl rfl (Qt_load1 (v := (.int .i64 a.address)) rfl rfl rfl (Rdc.blk (.tail _ (.tail _ (.head _))) rfl)) ?_
      rcases hg18 : getI m.words.l a.address with _ | w17
      · skip
        have hb19 := getI_not hg18
        refine Ow_cons rfl (OpW_callP (v0 := (.tuple #[(.int .u64 0), (.bool false)])) rfl Try.call53 rfl rfl (c_word m a.address none hg18 _ _ hm) ?_)
        refine Ow_q rfl rfl rfl (Qt_move rfl) ?_
        refine Ow_q rfl rfl rfl (Qt_extract rfl rfl) ?_
        refine Ow_q rfl rfl rfl (Qt_extract rfl rfl) ?_
        refine Ow_q rfl rfl rfl (Qt_assign rfl) ?_
        refine Ow_q rfl rfl rfl (Qt_assign rfl) ?_
        refine Ow_nil ?_
        refine Cw_seq ?_
        refine Cw_seq ?_
        refine Cw_region ?_
        refine Ow_q rfl rfl rfl (Qt_move rfl) ?_
        refine Ow_q rfl rfl rfl (Qt_not rfl) ?_
        refine Ow_nil ?_
        refine Cw_cond_t rfl ?_
        refine Cw_seq ?_
        refine Cw_region ?_
        refine Ow_q rfl rfl rfl (Qt_loadA (m := 3) (cs := Mem.cells m) rfl rfl rfl rfl ⟨rfl, Rdc.blk (.tail _ (.tail _ (.tail _ (.head _)))) rfl⟩) ?_
        refine Ow_q rfl rfl rfl (Qt_build (cs := Answer.cells (Answer.mk 0 false false (SI.mk none 0 []))) rfl rfl rfl rfl rfl rfl) ?_
        refine Ow_cons rfl (OpW_store (vs := [(.slice m.words.A m.words.l.length m.words.cp), (.slice m.lists.A m.lists.l.length m.lists.cp), (.int .i64 m.tick)]) (all' := [(.slice m.words.A m.words.l.length m.words.cp), (.slice m.lists.A m.lists.l.length m.lists.cp), (.int .i64 m.tick)]) rfl rfl rfl rfl rfl (.there .here) rfl rfl rfl ?_)
        refine Ow_cons rfl (OpW_store (vs := [(.int .u64 0), (.bool false), (.bool false), (.slice none 0 0)]) (all' := [(.int .u64 0), (.bool false), (.bool false), (.slice none 0 0)]) rfl rfl rfl rfl rfl .here rfl rfl rfl ?_)
        refine Ow_q rfl rfl rfl (Qt_assign rfl) ?_
        refine Ow_nil ?_
        refine Cw_ret ?_
        refine ⟨(by first | exact .inl rfl | exact .inr rfl), [(Mem.val m), (Answer.val (Answer.mk 0 false false (SI.mk none 0 []))), (.bool true)], G, ⟨(Mem.val m), _, rfl, ⟨_, 3, Mem.cells m, rfl, rfl, rfl, rfl, ⟨rfl, Rdc.blk (.tail _ (.head _)) rfl⟩, rfl⟩, ⟨(Answer.val (Answer.mk 0 false false (SI.mk none 0 []))), _, rfl, ⟨_, 4, Answer.cells (Answer.mk 0 false false (SI.mk none 0 [])), rfl, rfl, rfl, rfl, ⟨rfl, Rdc.blk (.head _) rfl⟩, rfl⟩, ⟨(.bool true), _, rfl, rfl, rfl⟩⟩⟩, .cons _ (.cons _ (.cons _ (.cons _ (.refl _)))), ?_⟩
        exact ⟨m, (Answer.mk 0 false false (SI.mk none 0 [])), (by simp [mkRes, *]), rfl, hm, ⟨(Sl.nil _ _)⟩, by first | (exfalso; omega) | (simp [dcd_eq, Nat.not_lt_of_le, List.erase_of_not_mem, listS, wordS, applyS, Mem.abs, getI_map, Answer.abs, an0, changeL, List.map_set, erase_idx, mkRes, *]; done) | (simp_all [dcd_eq, Nat.not_lt_of_le, List.erase_of_not_mem, listS, wordS, applyS, Mem.abs, getI_map, Answer.abs, an0, changeL, List.map_set, erase_idx, mkRes]; done) | (simp_all [dcd_eq, Nat.not_lt_of_le, List.erase_of_not_mem, listS, wordS, applyS, Mem.abs, getI_map, Answer.abs, an0, changeL, List.map_set, erase_idx, mkRes]; omega)⟩
      · skip
        have hb19 := getI_get hg18
        have hx20 := hb19.2.2
        have hb19 : 0 ≤ a.address ∧ a.address < ((m.words.l.length : Nat) : Int) := ⟨hb19.1, hb19.2.1⟩
        refine Ow_cons rfl (OpW_callP (v0 := (.tuple #[(.int .u64 w17), (.bool true)])) rfl Try.call53 rfl rfl (c_word m a.address (some w17) hg18 _ _ hm) ?_)
        refine Ow_q rfl rfl rfl (Qt_move rfl) ?_
        refine Ow_q rfl rfl rfl (Qt_extract rfl rfl) ?_
        refine Ow_q rfl rfl rfl (Qt_extract rfl rfl) ?_
        refine Ow_q rfl rfl rfl (Qt_assign rfl) ?_
        refine Ow_q rfl rfl rfl (Qt_assign rfl) ?_
        refine Ow_nil ?_
        refine Cw_seq ?_
        refine Cw_seq ?_
        refine Cw_region ?_
        refine Ow_q rfl rfl rfl (Qt_move rfl) ?_
        refine Ow_q rfl rfl rfl (Qt_not rfl) ?_
        refine Ow_nil ?_
        refine Cw_cond_f rfl ?_
        refine Cw_skip ?_
        refine Cw_seq ?_
        refine Cw_seq ?_
        refine Cw_region ?_
        refine Ow_q rfl rfl rfl (Qt_fieldAddr (m := 0) rfl rfl rfl rfl rfl) ?_
        refine Ow_q rfl rfl rfl (Qt_load1 (v := (.int .i64 a.kind)) rfl rfl rfl (Rdc.blk (.tail _ (.tail _ (.head _))) rfl)) ?_
        refine Ow_nil ?_
        refine Cw_block ?_
        refine Cw_seq ?_
        refine Cw_seq ?_
        refine Cw_region ?_
        refine Ow_q rfl rfl rfl (Qt_cmp rfl rfl rfl) ?_
        refine Ow_q rfl rfl rfl (Qt_assign rfl) ?_
        refine Ow_nil ?_
        refine Cw_cond rfl ?_ ?_
        · intro h21
          have h21 := dcd_t (h21)
          refine Cw_skip ?_
          refine Cw_cond_kt rfl (dcd_pos h21) ?_
          refine Cw_seq ?_
          refine Cw_region ?_
          refine Ow_q rfl rfl rfl (Qt_loadA (m := 3) (cs := Mem.cells m) rfl rfl rfl rfl ⟨rfl, Rdc.blk (.tail _ (.tail _ (.tail _ (.head _)))) rfl⟩) ?_
          refine Ow_q rfl rfl rfl (Qt_fieldAddr (m := 1) rfl rfl rfl rfl rfl) ?_
          refine Ow_q rfl rfl rfl (Qt_load1 (v := (.int .i64 a.address)) rfl rfl rfl (Rdc.blk (.tail _ (.tail _ (.head _))) rfl)) ?_
          refine Ow_q rfl rfl rfl (Qt_fieldAddr (m := 3) rfl rfl rfl rfl rfl) ?_
          refine Ow_q rfl rfl rfl (Qt_load1 (v := (.int .u64 a.new)) rfl rfl rfl (Rdc.blk (.tail _ (.tail _ (.head _))) rfl)) ?_
          refine Ow_cons rfl (OpW_call rfl Try.call54 rfl rfl (c_put m a.address a.new (by first | omega | (simp only [List.length_append, List.length_cons, List.length_nil, List.length_replicate, List.length_set]; omega) | (simp; omega)) _ _ hm) ?_)
          rintro _ K23 _ hK24 ⟨m22, rfl, rfl, hm25, he26⟩
          have hs27 := hm.mono hK24
          have hm25w := Sl.le hm25.w
          have hm25l := Sl.le hm25.l
          have hm25zw := hm25.zw
          have hm25zl := hm25.zl
          refine Ow_q rfl rfl rfl (Qt_build (cs := Answer.cells (Answer.mk 0 false false (SI.mk none 0 []))) rfl rfl rfl rfl rfl rfl) ?_
          refine Ow_cons rfl (OpW_store (vs := [(.slice m22.words.A m22.words.l.length m22.words.cp), (.slice m22.lists.A m22.lists.l.length m22.lists.cp), (.int .i64 m22.tick)]) (all' := [(.slice m22.words.A m22.words.l.length m22.words.cp), (.slice m22.lists.A m22.lists.l.length m22.lists.cp), (.int .i64 m22.tick)]) rfl rfl rfl rfl rfl (.there .here) rfl rfl rfl ?_)
          refine Ow_cons rfl (OpW_store (vs := [(.int .u64 0), (.bool false), (.bool false), (.slice none 0 0)]) (all' := [(.int .u64 0), (.bool false), (.bool false), (.slice none 0 0)]) rfl rfl rfl rfl rfl .here rfl rfl rfl ?_)
          refine Ow_q rfl rfl rfl (Qt_assign rfl) ?_
          refine Ow_nil ?_
          refine Cw_ret ?_
          refine ⟨(by first | exact .inl rfl | exact .inr rfl), [(Mem.val m22), (Answer.val (Answer.mk 0 false false (SI.mk none 0 []))), (.bool true)], G, ⟨(Mem.val m22), _, rfl, ⟨_, 3, Mem.cells m22, rfl, rfl, rfl, rfl, ⟨rfl, Rdc.blk (.tail _ (.head _)) rfl⟩, rfl⟩, ⟨(Answer.val (Answer.mk 0 false false (SI.mk none 0 []))), _, rfl, ⟨_, 4, Answer.cells (Answer.mk 0 false false (SI.mk none 0 [])), rfl, rfl, rfl, rfl, ⟨rfl, Rdc.blk (.head _) rfl⟩, rfl⟩, ⟨(.bool true), _, rfl, rfl, rfl⟩⟩⟩, .cons _ (.cons _ (.cons _ (.cons _ (.refl _)))), ?_⟩
          exact ⟨m22, (Answer.mk 0 false false (SI.mk none 0 [])), (by simp [mkRes, *]), rfl, hm25, ⟨(Sl.nil _ _)⟩, by first | (exfalso; omega) | (simp [dcd_eq, Nat.not_lt_of_le, List.erase_of_not_mem, listS, wordS, applyS, Mem.abs, getI_map, Answer.abs, an0, changeL, List.map_set, erase_idx, mkRes, *]; done) | (simp_all [dcd_eq, Nat.not_lt_of_le, List.erase_of_not_mem, listS, wordS, applyS, Mem.abs, getI_map, Answer.abs, an0, changeL, List.map_set, erase_idx, mkRes]; done) | (simp_all [dcd_eq, Nat.not_lt_of_le, List.erase_of_not_mem, listS, wordS, applyS, Mem.abs, getI_map, Answer.abs, an0, changeL, List.map_set, erase_idx, mkRes]; omega)⟩
        · intro h21
          have h21 := dcd_f (h21)
          refine Cw_region ?_
          refine Ow_q rfl rfl rfl (Qt_cmp rfl rfl rfl) ?_
          refine Ow_q rfl rfl rfl (Qt_assign rfl) ?_
          refine Ow_nil ?_
          refine Cw_cond rfl ?_ ?_
          · intro h28
            have h28 := dcd_t (h28)
            refine Cw_seq ?_
            refine Cw_region ?_
            refine Ow_q rfl rfl rfl (Qt_loadA (m := 3) (cs := Mem.cells m) rfl rfl rfl rfl ⟨rfl, Rdc.blk (.tail _ (.tail _ (.tail _ (.head _)))) rfl⟩) ?_
            refine Ow_q rfl rfl rfl (Qt_fieldAddr (m := 1) rfl rfl rfl rfl rfl) ?_
            refine Ow_q rfl rfl rfl (Qt_load1 (v := (.int .i64 a.address)) rfl rfl rfl (Rdc.blk (.tail _ (.tail _ (.head _))) rfl)) ?_
            refine Ow_q rfl rfl rfl (Qt_fieldAddr (m := 3) rfl rfl rfl rfl rfl) ?_
            refine Ow_q rfl rfl rfl (Qt_load1 (v := (.int .u64 a.new)) rfl rfl rfl (Rdc.blk (.tail _ (.tail _ (.head _))) rfl)) ?_
            refine Ow_cons rfl (OpW_call rfl Try.call54 rfl rfl (c_put m a.address a.new (by first | omega | (simp only [List.length_append, List.length_cons, List.length_nil, List.length_replicate, List.length_set]; omega) | (simp; omega)) _ _ hm) ?_)
            rintro _ K30 _ hK31 ⟨m29, rfl, rfl, hm32, he33⟩
            have hs34 := hm.mono hK31
            have hm32w := Sl.le hm32.w
            have hm32l := Sl.le hm32.l
            have hm32zw := hm32.zw
            have hm32zl := hm32.zl
            refine Ow_q rfl rfl rfl (Qt_build (cs := Answer.cells (Answer.mk 0 false false (SI.mk none 0 []))) rfl rfl rfl rfl rfl rfl) ?_
            refine Ow_cons rfl (OpW_store (vs := [(.slice m29.words.A m29.words.l.length m29.words.cp), (.slice m29.lists.A m29.lists.l.length m29.lists.cp), (.int .i64 m29.tick)]) (all' := [(.slice m29.words.A m29.words.l.length m29.words.cp), (.slice m29.lists.A m29.lists.l.length m29.lists.cp), (.int .i64 m29.tick)]) rfl rfl rfl rfl rfl (.there .here) rfl rfl rfl ?_)
            refine Ow_cons rfl (OpW_store (vs := [(.int .u64 0), (.bool false), (.bool false), (.slice none 0 0)]) (all' := [(.int .u64 0), (.bool false), (.bool false), (.slice none 0 0)]) rfl rfl rfl rfl rfl .here rfl rfl rfl ?_)
            refine Ow_q rfl rfl rfl (Qt_assign rfl) ?_
            refine Ow_nil ?_
            refine Cw_ret ?_
            refine ⟨(by first | exact .inl rfl | exact .inr rfl), [(Mem.val m29), (Answer.val (Answer.mk 0 false false (SI.mk none 0 []))), (.bool true)], G, ⟨(Mem.val m29), _, rfl, ⟨_, 3, Mem.cells m29, rfl, rfl, rfl, rfl, ⟨rfl, Rdc.blk (.tail _ (.head _)) rfl⟩, rfl⟩, ⟨(Answer.val (Answer.mk 0 false false (SI.mk none 0 []))), _, rfl, ⟨_, 4, Answer.cells (Answer.mk 0 false false (SI.mk none 0 [])), rfl, rfl, rfl, rfl, ⟨rfl, Rdc.blk (.head _) rfl⟩, rfl⟩, ⟨(.bool true), _, rfl, rfl, rfl⟩⟩⟩, .cons _ (.cons _ (.cons _ (.cons _ (.refl _)))), ?_⟩
            exact ⟨m29, (Answer.mk 0 false false (SI.mk none 0 [])), (by simp [mkRes, *]), rfl, hm32, ⟨(Sl.nil _ _)⟩, by first | (exfalso; omega) | (simp [dcd_eq, Nat.not_lt_of_le, List.erase_of_not_mem, listS, wordS, applyS, Mem.abs, getI_map, Answer.abs, an0, changeL, List.map_set, erase_idx, mkRes, *]; done) | (simp_all [dcd_eq, Nat.not_lt_of_le, List.erase_of_not_mem, listS, wordS, applyS, Mem.abs, getI_map, Answer.abs, an0, changeL, List.map_set, erase_idx, mkRes]; done) | (simp_all [dcd_eq, Nat.not_lt_of_le, List.erase_of_not_mem, listS, wordS, applyS, Mem.abs, getI_map, Answer.abs, an0, changeL, List.map_set, erase_idx, mkRes]; omega)⟩
          · intro h28
            have h28 := dcd_f (h28)
            refine Cw_seq ?_
            refine Cw_region ?_
            refine Ow_q rfl rfl rfl (Qt_cmp rfl rfl rfl) ?_
            refine Ow_q rfl rfl rfl (Qt_assign rfl) ?_
            refine Ow_nil ?_
            refine Cw_cond rfl ?_ ?_
            · intro h35
              have h35 := dcd_t (h35)
              refine Cw_seq ?_
              refine Cw_region ?_
              refine Ow_q rfl rfl rfl (Qt_move rfl) ?_
              refine Ow_q rfl rfl rfl (Qt_fieldAddr (m := 2) rfl rfl rfl rfl rfl) ?_
              refine Ow_q rfl rfl rfl (Qt_load1 (v := (.int .u64 a.old)) rfl rfl rfl (Rdc.blk (.tail _ (.tail _ (.head _))) rfl)) ?_
              refine Ow_q rfl rfl rfl (Qt_cmp rfl rfl rfl) ?_
              refine Ow_nil ?_
              refine Cw_cond rfl ?_ ?_
              · intro h36
                have h36 := dcd_t (h36)
                refine Cw_seq ?_
                refine Cw_region ?_
                refine Ow_q rfl rfl rfl (Qt_loadA (m := 3) (cs := Mem.cells m) rfl rfl rfl rfl ⟨rfl, Rdc.blk (.tail _ (.tail _ (.tail _ (.head _)))) rfl⟩) ?_
                refine Ow_q rfl rfl rfl (Qt_fieldAddr (m := 1) rfl rfl rfl rfl rfl) ?_
                refine Ow_q rfl rfl rfl (Qt_load1 (v := (.int .i64 a.address)) rfl rfl rfl (Rdc.blk (.tail _ (.tail _ (.head _))) rfl)) ?_
                refine Ow_q rfl rfl rfl (Qt_fieldAddr (m := 3) rfl rfl rfl rfl rfl) ?_
                refine Ow_q rfl rfl rfl (Qt_load1 (v := (.int .u64 a.new)) rfl rfl rfl (Rdc.blk (.tail _ (.tail _ (.head _))) rfl)) ?_
                refine Ow_cons rfl (OpW_call rfl Try.call54 rfl rfl (c_put m a.address a.new (by first | omega | (simp only [List.length_append, List.length_cons, List.length_nil, List.length_replicate, List.length_set]; omega) | (simp; omega)) _ _ hm) ?_)
                rintro _ K38 _ hK39 ⟨m37, rfl, rfl, hm40, he41⟩
                have hs42 := hm.mono hK39
                have hm40w := Sl.le hm40.w
                have hm40l := Sl.le hm40.l
                have hm40zw := hm40.zw
                have hm40zl := hm40.zl
                refine Ow_q rfl rfl rfl (Qt_move rfl) ?_
                refine Ow_q rfl rfl rfl (Qt_build (cs := Answer.cells (Answer.mk w17 true false (SI.mk none 0 []))) rfl rfl rfl rfl rfl rfl) ?_
                refine Ow_cons rfl (OpW_store (vs := [(.slice m37.words.A m37.words.l.length m37.words.cp), (.slice m37.lists.A m37.lists.l.length m37.lists.cp), (.int .i64 m37.tick)]) (all' := [(.slice m37.words.A m37.words.l.length m37.words.cp), (.slice m37.lists.A m37.lists.l.length m37.lists.cp), (.int .i64 m37.tick)]) rfl rfl rfl rfl rfl (.there .here) rfl rfl rfl ?_)
                refine Ow_cons rfl (OpW_store (vs := [(.int .u64 w17), (.bool true), (.bool false), (.slice none 0 0)]) (all' := [(.int .u64 w17), (.bool true), (.bool false), (.slice none 0 0)]) rfl rfl rfl rfl rfl .here rfl rfl rfl ?_)
                refine Ow_q rfl rfl rfl (Qt_assign rfl) ?_
                refine Ow_nil ?_
                refine Cw_ret ?_
                refine ⟨(by first | exact .inl rfl | exact .inr rfl), [(Mem.val m37), (Answer.val (Answer.mk w17 true false (SI.mk none 0 []))), (.bool true)], G, ⟨(Mem.val m37), _, rfl, ⟨_, 3, Mem.cells m37, rfl, rfl, rfl, rfl, ⟨rfl, Rdc.blk (.tail _ (.head _)) rfl⟩, rfl⟩, ⟨(Answer.val (Answer.mk w17 true false (SI.mk none 0 []))), _, rfl, ⟨_, 4, Answer.cells (Answer.mk w17 true false (SI.mk none 0 [])), rfl, rfl, rfl, rfl, ⟨rfl, Rdc.blk (.head _) rfl⟩, rfl⟩, ⟨(.bool true), _, rfl, rfl, rfl⟩⟩⟩, .cons _ (.cons _ (.cons _ (.cons _ (.refl _)))), ?_⟩
                exact ⟨m37, (Answer.mk w17 true false (SI.mk none 0 [])), (by simp [mkRes, *]), rfl, hm40, ⟨(Sl.nil _ _)⟩, by first | (exfalso; omega) | (simp [dcd_eq, Nat.not_lt_of_le, List.erase_of_not_mem, listS, wordS, applyS, Mem.abs, getI_map, Answer.abs, an0, changeL, List.map_set, erase_idx, mkRes, *]; done) | (simp_all [dcd_eq, Nat.not_lt_of_le, List.erase_of_not_mem, listS, wordS, applyS, Mem.abs, getI_map, Answer.abs, an0, changeL, List.map_set, erase_idx, mkRes]; done) | (simp_all [dcd_eq, Nat.not_lt_of_le, List.erase_of_not_mem, listS, wordS, applyS, Mem.abs, getI_map, Answer.abs, an0, changeL, List.map_set, erase_idx, mkRes]; omega)⟩
              · intro h36
                have h36 := dcd_f (h36)
                refine Cw_skip ?_
                refine Cw_seq ?_
                refine Cw_region ?_
                refine Ow_q rfl rfl rfl (Qt_loadA (m := 3) (cs := Mem.cells m) rfl rfl rfl rfl ⟨rfl, Rdc.blk (.tail _ (.tail _ (.tail _ (.head _)))) rfl⟩) ?_
                refine Ow_q rfl rfl rfl (Qt_move rfl) ?_
                refine Ow_q rfl rfl rfl (Qt_build (cs := Answer.cells (Answer.mk w17 false false (SI.mk none 0 []))) rfl rfl rfl rfl rfl rfl) ?_
                refine Ow_cons rfl (OpW_store (vs := [(.slice m.words.A m.words.l.length m.words.cp), (.slice m.lists.A m.lists.l.length m.lists.cp), (.int .i64 m.tick)]) (all' := [(.slice m.words.A m.words.l.length m.words.cp), (.slice m.lists.A m.lists.l.length m.lists.cp), (.int .i64 m.tick)]) rfl rfl rfl rfl rfl (.there .here) rfl rfl rfl ?_)
                refine Ow_cons rfl (OpW_store (vs := [(.int .u64 w17), (.bool false), (.bool false), (.slice none 0 0)]) (all' := [(.int .u64 w17), (.bool false), (.bool false), (.slice none 0 0)]) rfl rfl rfl rfl rfl .here rfl rfl rfl ?_)
                refine Ow_q rfl rfl rfl (Qt_assign rfl) ?_
                refine Ow_nil ?_
                refine Cw_ret ?_
                refine ⟨(by first | exact .inl rfl | exact .inr rfl), [(Mem.val m), (Answer.val (Answer.mk w17 false false (SI.mk none 0 []))), (.bool true)], G, ⟨(Mem.val m), _, rfl, ⟨_, 3, Mem.cells m, rfl, rfl, rfl, rfl, ⟨rfl, Rdc.blk (.tail _ (.head _)) rfl⟩, rfl⟩, ⟨(Answer.val (Answer.mk w17 false false (SI.mk none 0 []))), _, rfl, ⟨_, 4, Answer.cells (Answer.mk w17 false false (SI.mk none 0 [])), rfl, rfl, rfl, rfl, ⟨rfl, Rdc.blk (.head _) rfl⟩, rfl⟩, ⟨(.bool true), _, rfl, rfl, rfl⟩⟩⟩, .cons _ (.cons _ (.cons _ (.cons _ (.refl _)))), ?_⟩
                exact ⟨m, (Answer.mk w17 false false (SI.mk none 0 [])), (by simp [mkRes, *]), rfl, hm, ⟨(Sl.nil _ _)⟩, by first | (exfalso; omega) | (simp [dcd_eq, Nat.not_lt_of_le, List.erase_of_not_mem, listS, wordS, applyS, Mem.abs, getI_map, Answer.abs, an0, changeL, List.map_set, erase_idx, mkRes, *]; done) | (simp_all [dcd_eq, Nat.not_lt_of_le, List.erase_of_not_mem, listS, wordS, applyS, Mem.abs, getI_map, Answer.abs, an0, changeL, List.map_set, erase_idx, mkRes]; done) | (simp_all [dcd_eq, Nat.not_lt_of_le, List.erase_of_not_mem, listS, wordS, applyS, Mem.abs, getI_map, Answer.abs, an0, changeL, List.map_set, erase_idx, mkRes]; omega)⟩
            · intro h35
              have h35 := dcd_f (h35)
              refine Cw_seq ?_
              refine Cw_region ?_
              refine Ow_q rfl rfl rfl (Qt_cmp rfl rfl rfl) ?_
              refine Ow_q rfl rfl rfl (Qt_assign rfl) ?_
              refine Ow_nil ?_
              refine Cw_cond rfl ?_ ?_
              · intro h43
                have h43 := dcd_t (h43)
                refine Cw_seq ?_
                refine Cw_region_any [.blk b2 24 [(.int .i64 a.kind), (.int .i64 a.address), (.int .u64 a.old), (.int .u64 a.new), (.int .i64 a.until_)], .blk b1 49 [(.slice m.words.A m.words.l.length m.words.cp), (.slice m.lists.A m.lists.l.length m.lists.cp), (.int .i64 m.tick)]] rfl (Inc.cons (.tail _ (.tail _ (.head _))) (Inc.cons (.tail _ (.tail _ (.tail _ (.head _)))) Inc.nil)) ?_
                refine Aw_q 0 rfl (by kernel_rfl) (by kernel_rfl) (by kernel_rfl) rfl rfl rfl (Qt_loadA (m := 3) (cs := Mem.cells m) rfl rfl rfl rfl ⟨rfl, Rdc.blk (.tail _ (.head _)) rfl⟩) ?_
                refine Aw_q 1 rfl (by kernel_rfl) (by kernel_rfl) (by kernel_rfl) rfl rfl rfl (Qt_move rfl) ?_
                refine Aw_q 2 rfl (by kernel_rfl) (by kernel_rfl) (by kernel_rfl) rfl rfl rfl (Qt_move rfl) ?_
                refine Aw_q 3 rfl (by kernel_rfl) (by kernel_rfl) (by kernel_rfl) rfl rfl rfl (Qt_fieldAddr (m := 2) rfl rfl rfl rfl rfl) ?_
                refine Aw_q 4 rfl (by kernel_rfl) (by kernel_rfl) (by kernel_rfl) rfl rfl rfl (Qt_load1 (v := (.int .u64 a.old)) rfl rfl rfl (Rdc.blk (.head _) rfl)) ?_
                refine Aw_q 5 rfl (by kernel_rfl) (by kernel_rfl) (by kernel_rfl) rfl rfl rfl (Qt_cmp rfl rfl rfl) ?_
                refine Aw_q 6 rfl (by kernel_rfl) (by kernel_rfl) (by kernel_rfl) rfl rfl rfl (Qt_build (cs := Answer.cells (Answer.mk w17 false (dcd (w17 = a.old)) (SI.mk none 0 []))) rfl rfl rfl rfl rfl rfl) ?_
                refine Aw_one 7 (by kernel_rfl) (Ax_mk rfl rfl (OpW_store (vs := [(.slice m.words.A m.words.l.length m.words.cp), (.slice m.lists.A m.lists.l.length m.lists.cp), (.int .i64 m.tick)]) (all' := [(.slice m.words.A m.words.l.length m.words.cp), (.slice m.lists.A m.lists.l.length m.lists.cp), (.int .i64 m.tick)]) rfl rfl rfl rfl rfl (.there .here) rfl rfl rfl ⟨(Inc.cons (.tail _ (.tail _ (.head _))) (Inc.cons (.tail _ (.tail _ (.tail _ (.head _)))) Inc.nil)), ?_⟩))
                refine Aw_one 8 (by kernel_rfl) (Ax_mk rfl rfl (OpW_store (vs := [(.int .u64 w17), (.bool false), (.bool (dcd (w17 = a.old))), (.slice none 0 0)]) (all' := [(.int .u64 w17), (.bool false), (.bool (dcd (w17 = a.old))), (.slice none 0 0)]) rfl rfl rfl rfl rfl .here rfl rfl rfl ⟨(Inc.cons (.tail _ (.tail _ (.head _))) (Inc.cons (.tail _ (.tail _ (.tail _ (.head _)))) Inc.nil)), ?_⟩))
                refine Aw_q 9 rfl (by kernel_rfl) (by kernel_rfl) (by kernel_rfl) rfl rfl rfl (Qt_assign rfl) ?_
                refine Aw_done (by kernel_rfl) ?_
                refine Cw_ret ?_
                refine ⟨(by first | exact .inl rfl | exact .inr rfl), [(Mem.val m), (Answer.val (Answer.mk w17 false (dcd (w17 = a.old)) (SI.mk none 0 []))), (.bool true)], G, ⟨(Mem.val m), _, rfl, ⟨_, 3, Mem.cells m, rfl, rfl, rfl, rfl, ⟨rfl, Rdc.blk (.tail _ (.head _)) rfl⟩, rfl⟩, ⟨(Answer.val (Answer.mk w17 false (dcd (w17 = a.old)) (SI.mk none 0 []))), _, rfl, ⟨_, 4, Answer.cells (Answer.mk w17 false (dcd (w17 = a.old)) (SI.mk none 0 [])), rfl, rfl, rfl, rfl, ⟨rfl, Rdc.blk (.head _) rfl⟩, rfl⟩, ⟨(.bool true), _, rfl, rfl, rfl⟩⟩⟩, .cons _ (.cons _ (.cons _ (.cons _ (.refl _)))), ?_⟩
                exact ⟨m, (Answer.mk w17 false (dcd (w17 = a.old)) (SI.mk none 0 [])), (by simp [mkRes, *]), rfl, hm, ⟨(Sl.nil _ _)⟩, by first | (exfalso; omega) | (simp [dcd_eq, Nat.not_lt_of_le, List.erase_of_not_mem, listS, wordS, applyS, Mem.abs, getI_map, Answer.abs, an0, changeL, List.map_set, erase_idx, mkRes, *]; done) | (simp_all [dcd_eq, Nat.not_lt_of_le, List.erase_of_not_mem, listS, wordS, applyS, Mem.abs, getI_map, Answer.abs, an0, changeL, List.map_set, erase_idx, mkRes]; done) | (simp_all [dcd_eq, Nat.not_lt_of_le, List.erase_of_not_mem, listS, wordS, applyS, Mem.abs, getI_map, Answer.abs, an0, changeL, List.map_set, erase_idx, mkRes]; omega)⟩
              · intro h43
                have h43 := dcd_f (h43)
                refine Cw_skip ?_
                refine Cw_seq ?_
                refine Cw_region ?_
                refine Ow_q rfl rfl rfl (Qt_loadA (m := 3) (cs := Mem.cells m) rfl rfl rfl rfl ⟨rfl, Rdc.blk (.tail _ (.tail _ (.tail _ (.head _)))) rfl⟩) ?_
                refine Ow_q rfl rfl rfl (Qt_move rfl) ?_
                refine Ow_q rfl rfl rfl (Qt_build (cs := Answer.cells (Answer.mk w17 false false (SI.mk none 0 []))) rfl rfl rfl rfl rfl rfl) ?_
                refine Ow_cons rfl (OpW_store (vs := [(.slice m.words.A m.words.l.length m.words.cp), (.slice m.lists.A m.lists.l.length m.lists.cp), (.int .i64 m.tick)]) (all' := [(.slice m.words.A m.words.l.length m.words.cp), (.slice m.lists.A m.lists.l.length m.lists.cp), (.int .i64 m.tick)]) rfl rfl rfl rfl rfl (.there .here) rfl rfl rfl ?_)
                refine Ow_cons rfl (OpW_store (vs := [(.int .u64 w17), (.bool false), (.bool false), (.slice none 0 0)]) (all' := [(.int .u64 w17), (.bool false), (.bool false), (.slice none 0 0)]) rfl rfl rfl rfl rfl .here rfl rfl rfl ?_)
                refine Ow_q rfl rfl rfl (Qt_assign rfl) ?_
                refine Ow_nil ?_
                refine Cw_ret ?_
                refine ⟨(by first | exact .inl rfl | exact .inr rfl), [(Mem.val m), (Answer.val (Answer.mk w17 false false (SI.mk none 0 []))), (.bool true)], G, ⟨(Mem.val m), _, rfl, ⟨_, 3, Mem.cells m, rfl, rfl, rfl, rfl, ⟨rfl, Rdc.blk (.tail _ (.head _)) rfl⟩, rfl⟩, ⟨(Answer.val (Answer.mk w17 false false (SI.mk none 0 []))), _, rfl, ⟨_, 4, Answer.cells (Answer.mk w17 false false (SI.mk none 0 [])), rfl, rfl, rfl, rfl, ⟨rfl, Rdc.blk (.head _) rfl⟩, rfl⟩, ⟨(.bool true), _, rfl, rfl, rfl⟩⟩⟩, .cons _ (.cons _ (.cons _ (.cons _ (.refl _)))), ?_⟩
                exact ⟨m, (Answer.mk w17 false false (SI.mk none 0 [])), (by simp [mkRes, *]), rfl, hm, ⟨(Sl.nil _ _)⟩, by first | (exfalso; omega) | (simp [dcd_eq, Nat.not_lt_of_le, List.erase_of_not_mem, listS, wordS, applyS, Mem.abs, getI_map, Answer.abs, an0, changeL, List.map_set, erase_idx, mkRes, *]; done) | (simp_all [dcd_eq, Nat.not_lt_of_le, List.erase_of_not_mem, listS, wordS, applyS, Mem.abs, getI_map, Answer.abs, an0, changeL, List.map_set, erase_idx, mkRes]; done) | (simp_all [dcd_eq, Nat.not_lt_of_le, List.erase_of_not_mem, listS, wordS, applyS, Mem.abs, getI_map, Answer.abs, an0, changeL, List.map_set, erase_idx, mkRes]; omega)⟩

set_option maxHeartbeats 1000000 in
theorem c_applyR (m : Mem) (a : Access) (K : Kp) (G : List Ent) (hm : MemOk K m) :
    Fc Try.prog 35 #[(Mem.val m), (Access.val a)] K G (fun v K' G' => ∃ m' b, v = .tuple #[Mem.val m', Answer.val b, .bool (grantedS m.abs a)] ∧ G = G' ∧ MemOk K' m' ∧ AnsOk K' b ∧ (m'.abs, b.abs) = applyS m.abs a) := by
  refine Fc_of Try.func35 rfl Try.ntmps35 Try.results35 rfl ?_
  have hmw := Sl.le hm.w
  have hml := Sl.le hm.l
  have hmzw := hm.zw
  have hmzl := hm.zl
  refine Cw_seq ?_
  refine Cw_region ?_
  refine Ow_cons rfl (OpW_box (cs := [(.slice m.words.A m.words.l.length m.words.cp), (.slice m.lists.A m.lists.l.length m.lists.cp), (.int .i64 m.tick)]) rfl rfl rfl (fun b1 => ?_))
  refine Ow_cons rfl (OpW_box (cs := [(.int .i64 a.kind), (.int .i64 a.address), (.int .u64 a.old), (.int .u64 a.new), (.int .i64 a.until_)]) rfl rfl rfl (fun b2 => ?_))
  refine Ow_cons rfl (OpW_alloc (cs := [(.slice none 0 0), (.slice none 0 0), (.int .i64 0)]) rfl rfl rfl rfl (fun b3 => ?_))
  refine Ow_cons rfl (OpW_alloc (cs := [(.int .u64 0), (.bool false), (.bool false), (.slice none 0 0)]) rfl rfl rfl rfl (fun b4 => ?_))
  refine Ow_q rfl rfl rfl (Qt_assign rfl) ?_
  refine Ow_nil ?_
  refine Cw_seq ?_
  refine Cw_seq ?_
  refine Cw_region ?_
  refine Ow_q rfl rfl rfl (Qt_loadA (m := 3) (cs := Mem.cells m) rfl rfl rfl rfl ⟨rfl, Rdc.blk (.tail _ (.tail _ (.tail _ (.head _)))) rfl⟩) ?_
  refine Ow_q rfl rfl rfl (Qt_loadA (m := 5) (cs := Access.cells a) rfl rfl rfl rfl ⟨rfl, Rdc.blk (.tail _ (.tail _ (.head _))) rfl⟩) ?_
  refine Ow_cons rfl (OpW_callP (v0 := (.bool (grantedS m.abs a))) rfl Try.call37 rfl rfl (c_grantedR m a _ _ hm) ?_)
  refine Ow_q rfl rfl rfl (Qt_not rfl) ?_
  refine Ow_nil ?_
  refine Cw_cond rfl ?_ ?_
  · intro h5
    have h5 := nt_t (h5)
    refine Cw_seq ?_
    refine Cw_region ?_
    refine Ow_q rfl rfl rfl (Qt_loadA (m := 3) (cs := Mem.cells m) rfl rfl rfl rfl ⟨rfl, Rdc.blk (.tail _ (.tail _ (.tail _ (.head _)))) rfl⟩) ?_
    refine Ow_q rfl rfl rfl (Qt_build (cs := Answer.cells (Answer.mk 0 false false (SI.mk none 0 []))) rfl rfl rfl rfl rfl rfl) ?_
    refine Ow_cons rfl (OpW_store (vs := [(.slice m.words.A m.words.l.length m.words.cp), (.slice m.lists.A m.lists.l.length m.lists.cp), (.int .i64 m.tick)]) (all' := [(.slice m.words.A m.words.l.length m.words.cp), (.slice m.lists.A m.lists.l.length m.lists.cp), (.int .i64 m.tick)]) rfl rfl rfl rfl rfl (.there .here) rfl rfl rfl ?_)
    refine Ow_cons rfl (OpW_store (vs := [(.int .u64 0), (.bool false), (.bool false), (.slice none 0 0)]) (all' := [(.int .u64 0), (.bool false), (.bool false), (.slice none 0 0)]) rfl rfl rfl rfl rfl .here rfl rfl rfl ?_)
    refine Ow_q rfl rfl rfl (Qt_assign rfl) ?_
    refine Ow_nil ?_
    refine Cw_ret ?_
    refine ⟨(by first | exact .inl rfl | exact .inr rfl), [(Mem.val m), (Answer.val (Answer.mk 0 false false (SI.mk none 0 []))), (.bool false)], G, ⟨(Mem.val m), _, rfl, ⟨_, 3, Mem.cells m, rfl, rfl, rfl, rfl, ⟨rfl, Rdc.blk (.tail _ (.head _)) rfl⟩, rfl⟩, ⟨(Answer.val (Answer.mk 0 false false (SI.mk none 0 []))), _, rfl, ⟨_, 4, Answer.cells (Answer.mk 0 false false (SI.mk none 0 [])), rfl, rfl, rfl, rfl, ⟨rfl, Rdc.blk (.head _) rfl⟩, rfl⟩, ⟨(.bool false), _, rfl, rfl, rfl⟩⟩⟩, .cons _ (.cons _ (.cons _ (.cons _ (.refl _)))), ?_⟩
    exact ⟨m, (Answer.mk 0 false false (SI.mk none 0 [])), (by simp [mkRes, *]), rfl, hm, ⟨(Sl.nil _ _)⟩, by first | (exfalso; omega) | (simp [dcd_eq, Nat.not_lt_of_le, List.erase_of_not_mem, listS, wordS, applyS, Mem.abs, getI_map, Answer.abs, an0, changeL, List.map_set, erase_idx, mkRes, *]; done) | (simp_all [dcd_eq, Nat.not_lt_of_le, List.erase_of_not_mem, listS, wordS, applyS, Mem.abs, getI_map, Answer.abs, an0, changeL, List.map_set, erase_idx, mkRes]; done) | (simp_all [dcd_eq, Nat.not_lt_of_le, List.erase_of_not_mem, listS, wordS, applyS, Mem.abs, getI_map, Answer.abs, an0, changeL, List.map_set, erase_idx, mkRes]; omega)⟩
  · intro h5
    have h5 := nt_f (h5)
    refine Cw_skip ?_
    refine Cw_seq ?_
    refine Cw_seq ?_
    refine Cw_region ?_
    refine Ow_q rfl rfl rfl (Qt_fieldAddr (m := 0) rfl rfl rfl rfl rfl) ?_
    refine Ow_q rfl rfl rfl (Qt_load1 (v := (.int .i64 a.kind)) rfl rfl rfl (Rdc.blk (.tail _ (.tail _ (.head _))) rfl)) ?_
    refine Ow_q rfl rfl rfl (Qt_cmp rfl rfl rfl) ?_
    refine Ow_nil ?_
    refine Cw_cond rfl ?_ ?_
    · intro h6
      have h6 := dcd_t (h6)
      refine Cw_seq ?_
      refine Cw_seq ?_
      refine Cw_region ?_
      refine Ow_q rfl rfl rfl (Qt_loadA (m := 3) (cs := Mem.cells m) rfl rfl rfl rfl ⟨rfl, Rdc.blk (.tail _ (.tail _ (.tail _ (.head _)))) rfl⟩) ?_
      refine Ow_q rfl rfl rfl (Qt_fieldAddr (m := 1) rfl rfl rfl rfl rfl) ?_
      refine Ow_q rfl rfl rfl (Qt_load1 (v := (.int .i64 a.address)) rfl rfl rfl (Rdc.blk (.tail _ (.tail _ (.head _))) rfl)) ?_
      rcases hg8 : getI m.lists.l a.address with _ | w7
      · skip
        have hb9 := getI_not hg8
        refine Ow_cons rfl (OpW_callP (v0 := (.bool false)) rfl Try.call55 rfl rfl (c_listR m a.address none hg8 _ _ hm) ?_)
        refine Ow_q rfl rfl rfl (Qt_not rfl) ?_
        refine Ow_nil ?_
        refine Cw_cond_t rfl ?_
        refine Cw_seq ?_
        refine Cw_region ?_
        refine Ow_q rfl rfl rfl (Qt_loadA (m := 3) (cs := Mem.cells m) rfl rfl rfl rfl ⟨rfl, Rdc.blk (.tail _ (.tail _ (.tail _ (.head _)))) rfl⟩) ?_
        refine Ow_q rfl rfl rfl (Qt_build (cs := Answer.cells (Answer.mk 0 false false (SI.mk none 0 []))) rfl rfl rfl rfl rfl rfl) ?_
        refine Ow_cons rfl (OpW_store (vs := [(.slice m.words.A m.words.l.length m.words.cp), (.slice m.lists.A m.lists.l.length m.lists.cp), (.int .i64 m.tick)]) (all' := [(.slice m.words.A m.words.l.length m.words.cp), (.slice m.lists.A m.lists.l.length m.lists.cp), (.int .i64 m.tick)]) rfl rfl rfl rfl rfl (.there .here) rfl rfl rfl ?_)
        refine Ow_cons rfl (OpW_store (vs := [(.int .u64 0), (.bool false), (.bool false), (.slice none 0 0)]) (all' := [(.int .u64 0), (.bool false), (.bool false), (.slice none 0 0)]) rfl rfl rfl rfl rfl .here rfl rfl rfl ?_)
        refine Ow_q rfl rfl rfl (Qt_assign rfl) ?_
        refine Ow_nil ?_
        refine Cw_ret ?_
        refine ⟨(by first | exact .inl rfl | exact .inr rfl), [(Mem.val m), (Answer.val (Answer.mk 0 false false (SI.mk none 0 []))), (.bool true)], G, ⟨(Mem.val m), _, rfl, ⟨_, 3, Mem.cells m, rfl, rfl, rfl, rfl, ⟨rfl, Rdc.blk (.tail _ (.head _)) rfl⟩, rfl⟩, ⟨(Answer.val (Answer.mk 0 false false (SI.mk none 0 []))), _, rfl, ⟨_, 4, Answer.cells (Answer.mk 0 false false (SI.mk none 0 [])), rfl, rfl, rfl, rfl, ⟨rfl, Rdc.blk (.head _) rfl⟩, rfl⟩, ⟨(.bool true), _, rfl, rfl, rfl⟩⟩⟩, .cons _ (.cons _ (.cons _ (.cons _ (.refl _)))), ?_⟩
        exact ⟨m, (Answer.mk 0 false false (SI.mk none 0 [])), (by simp [mkRes, *]), rfl, hm, ⟨(Sl.nil _ _)⟩, by first | (exfalso; omega) | (simp [dcd_eq, Nat.not_lt_of_le, List.erase_of_not_mem, listS, wordS, applyS, Mem.abs, getI_map, Answer.abs, an0, changeL, List.map_set, erase_idx, mkRes, *]; done) | (simp_all [dcd_eq, Nat.not_lt_of_le, List.erase_of_not_mem, listS, wordS, applyS, Mem.abs, getI_map, Answer.abs, an0, changeL, List.map_set, erase_idx, mkRes]; done) | (simp_all [dcd_eq, Nat.not_lt_of_le, List.erase_of_not_mem, listS, wordS, applyS, Mem.abs, getI_map, Answer.abs, an0, changeL, List.map_set, erase_idx, mkRes]; omega)⟩
      · skip
        have hb9 := getI_get hg8
        have hx10 := hb9.2.2
        have hb9 : 0 ≤ a.address ∧ a.address < ((m.lists.l.length : Nat) : Int) := ⟨hb9.1, hb9.2.1⟩
        have hs_w7 := (hm.x _ (List.mem_of_getElem? hx10)).1
        have hz11 := (hm.x _ (List.mem_of_getElem? hx10)).2
        have hl12 := Sl.le hs_w7
        refine Ow_cons rfl (OpW_callP (v0 := (.bool true)) rfl Try.call55 rfl rfl (c_listR m a.address (some w7) hg8 _ _ hm) ?_)
        refine Ow_q rfl rfl rfl (Qt_not rfl) ?_
        refine Ow_nil ?_
        refine Cw_cond_f rfl ?_
        refine Cw_skip ?_
        refine Cw_seq ?_
        refine Cw_region ?_
        refine Ow_q rfl rfl rfl (Qt_fieldAddr (m := 1) rfl rfl rfl rfl rfl) ?_
        refine Ow_q rfl rfl rfl (Qt_load1 (v := (.slice m.lists.A m.lists.l.length m.lists.cp)) rfl rfl rfl (Rdc.blk (.tail _ (.tail _ (.tail _ (.head _)))) rfl)) ?_
        refine Ow_q rfl rfl rfl (Qt_fieldAddr (m := 1) rfl rfl rfl rfl rfl) ?_
        refine Ow_q rfl rfl rfl (Qt_load1 (v := (.int .i64 a.address)) rfl rfl rfl (Rdc.blk (.tail _ (.tail _ (.head _))) rfl)) ?_
        refine Ow_q rfl rfl rfl (Qt_ixK (q := (a.address).toNat) rfl rfl rfl rfl rfl hm.l (by omega) (map_get hx10)) ?_
        refine Ow_q rfl rfl rfl (Qt_load1 (v := (.slice w7.A w7.l.length w7.cp)) rfl rfl rfl (Rdc.k (Sl.at hm.l (map_get hx10)) rfl)) ?_
        refine Ow_q rfl rfl rfl (Qt_assign rfl) ?_
        refine Ow_nil ?_
        refine Cw_seq ?_
        refine Cw_block ?_
        refine Cw_seq ?_
        refine Cw_region ?_
        refine Ow_q rfl rfl rfl (Qt_fieldAddr (m := 0) rfl rfl rfl rfl rfl) ?_
        refine Ow_q rfl rfl rfl (Qt_load1 (v := (.int .i64 a.kind)) rfl rfl rfl (Rdc.blk (.tail _ (.tail _ (.head _))) rfl)) ?_
        refine Ow_q rfl rfl rfl (Qt_cmp rfl rfl rfl) ?_
        refine Ow_q rfl rfl rfl (Qt_assign rfl) ?_
        refine Ow_nil ?_
        refine Cw_cond rfl ?_ ?_
        · intro h13
          have h13 := dcd_t (h13)
          refine Cw_seq ?_
          refine Cw_region ?_
          refine Ow_q rfl rfl rfl (Qt_loadA (m := 3) (cs := Mem.cells m) rfl rfl rfl rfl ⟨rfl, Rdc.blk (.tail _ (.tail _ (.tail _ (.head _)))) rfl⟩) ?_
          refine Ow_q rfl rfl rfl (Qt_move rfl) ?_
          refine Ow_q rfl rfl rfl (Qt_build (cs := Answer.cells (Answer.mk 0 false false w7)) rfl rfl rfl rfl rfl rfl) ?_
          refine Ow_cons rfl (OpW_store (vs := [(.slice m.words.A m.words.l.length m.words.cp), (.slice m.lists.A m.lists.l.length m.lists.cp), (.int .i64 m.tick)]) (all' := [(.slice m.words.A m.words.l.length m.words.cp), (.slice m.lists.A m.lists.l.length m.lists.cp), (.int .i64 m.tick)]) rfl rfl rfl rfl rfl (.there .here) rfl rfl rfl ?_)
          refine Ow_cons rfl (OpW_store (vs := [(.int .u64 0), (.bool false), (.bool false), (.slice w7.A w7.l.length w7.cp)]) (all' := [(.int .u64 0), (.bool false), (.bool false), (.slice w7.A w7.l.length w7.cp)]) rfl rfl rfl rfl rfl .here rfl rfl rfl ?_)
          refine Ow_q rfl rfl rfl (Qt_assign rfl) ?_
          refine Ow_nil ?_
          refine Cw_ret ?_
          refine ⟨(by first | exact .inl rfl | exact .inr rfl), [(Mem.val m), (Answer.val (Answer.mk 0 false false w7)), (.bool true)], G, ⟨(Mem.val m), _, rfl, ⟨_, 3, Mem.cells m, rfl, rfl, rfl, rfl, ⟨rfl, Rdc.blk (.tail _ (.head _)) rfl⟩, rfl⟩, ⟨(Answer.val (Answer.mk 0 false false w7)), _, rfl, ⟨_, 4, Answer.cells (Answer.mk 0 false false w7), rfl, rfl, rfl, rfl, ⟨rfl, Rdc.blk (.head _) rfl⟩, rfl⟩, ⟨(.bool true), _, rfl, rfl, rfl⟩⟩⟩, .cons _ (.cons _ (.cons _ (.cons _ (.refl _)))), ?_⟩
          have q := getI_of (l := m.lists.l) (n := a.address) (by omega) hx10
          have q3 : (m.lists.l.map SI.l).set a.address.toNat w7.l = m.lists.l.map SI.l := set_get (by simp [hx10])
          rcases (show w7.l.length < 1000 ∨ ¬ w7.l.length < 1000 by omega) with q4 | q4 <;> first | (exfalso; omega) | (exact ⟨m, (Answer.mk 0 false false w7), (by simp [mkRes, *]), rfl, hm, ⟨hs_w7⟩, by first | (exfalso; omega) | (simp [dcd_eq, Nat.not_lt_of_le, List.erase_of_not_mem, listS, wordS, applyS, Mem.abs, getI_map, Answer.abs, an0, changeL, List.map_set, erase_idx, mkRes, *]; done) | (simp_all [dcd_eq, Nat.not_lt_of_le, List.erase_of_not_mem, listS, wordS, applyS, Mem.abs, getI_map, Answer.abs, an0, changeL, List.map_set, erase_idx, mkRes]; done) | (simp_all [dcd_eq, Nat.not_lt_of_le, List.erase_of_not_mem, listS, wordS, applyS, Mem.abs, getI_map, Answer.abs, an0, changeL, List.map_set, erase_idx, mkRes]; omega)⟩)
        · intro h13
          have h13 := dcd_f (h13)
          refine Cw_seq ?_
          refine Cw_region ?_
          refine Ow_q rfl rfl rfl (Qt_fieldAddr (m := 0) rfl rfl rfl rfl rfl) ?_
          refine Ow_q rfl rfl rfl (Qt_load1 (v := (.int .i64 a.kind)) rfl rfl rfl (Rdc.blk (.tail _ (.tail _ (.head _))) rfl)) ?_
          refine Ow_q rfl rfl rfl (Qt_cmp rfl rfl rfl) ?_
          refine Ow_q rfl rfl rfl (Qt_move rfl) ?_
          refine Ow_caseG rfl rfl rfl ?_ ?_
          · intro h14
            have h14 := dcd_t (h14)
            refine Ow_qw rfl rfl rfl rfl rfl rfl (Qt_move rfl) ?_
            refine Ow_qw rfl rfl rfl rfl rfl rfl (Qt_len rfl rfl) ?_
            refine Ow_qw rfl rfl rfl rfl rfl rfl (Qt_cmp rfl rfl rfl) ?_
            refine Ow_q rfl rfl rfl (Qt_pick_t rfl rfl) ?_
            refine Ow_q rfl rfl rfl (Qt_assign rfl) ?_
            refine Ow_nil ?_
            refine Cw_cond rfl ?_ ?_
            · intro h15
              have h15 := dcd_t (h15)
              refine Cw.nilRow 3 1 ?_
              refine Cw_region_any [.blk b4 40 [(.int .u64 0), (.bool false), (.bool false), (.slice none 0 0)], .blk b3 49 [(.slice none 0 0), (.slice none 0 0), (.int .i64 0)], .blk b2 24 [(.int .i64 a.kind), (.int .i64 a.address), (.int .u64 a.old), (.int .u64 a.new), (.int .i64 a.until_)], .blk b1 49 [(.slice m.words.A m.words.l.length m.words.cp), (.slice m.lists.A m.lists.l.length m.lists.cp), (.int .i64 m.tick)]] rfl (Inc.cons (.tail _ (.head _)) (Inc.cons (.tail _ (.tail _ (.head _))) (Inc.cons (.tail _ (.tail _ (.tail _ (.head _)))) (Inc.cons (.tail _ (.tail _ (.tail _ (.tail _ (.head _))))) Inc.nil)))) ?_
              refine Aw_q 0 rfl (by kernel_rfl) (by kernel_rfl) (by kernel_rfl) rfl rfl rfl (Qt_move rfl) ?_
              refine Aw_q 2 rfl (by kernel_rfl) (by kernel_rfl) (by kernel_rfl) rfl rfl rfl (Qt_fieldAddr (m := 3) rfl rfl rfl rfl rfl) ?_
              refine Aw_q 3 rfl (by kernel_rfl) (by kernel_rfl) (by kernel_rfl) rfl rfl rfl (Qt_load1 (v := (.int .u64 a.new)) rfl rfl rfl (Rdc.blk (.tail _ (.tail _ (.head _))) rfl)) ?_
              refine Aw_q 4 rfl (by kernel_rfl) (by kernel_rfl) (by kernel_rfl) rfl rfl rfl (Qt_conv (c := IntKind.i64.wrap a.new) rfl rfl rfl rfl) ?_
              refine Aw_two 1 5 (by kernel_rfl) ?_ ?_
              · skip
                refine id (Ax_mk rfl rfl (OpW_appendT (bytes := 8) (L := ([] : List Int)) (M := w7.l) Enc.i64 rfl rfl rfl (.head _) (Src.slT hs_w7) (by first | rfl | (simp; done) | (simp; omega)) rfl rfl rfl rfl rfl rfl rfl rfl (by first | omega | (simp only [List.length_append, List.length_cons, List.length_nil, List.length_replicate, List.length_set]; omega) | (simp; omega)) (by first | omega | (simp only [List.length_append, List.length_cons, List.length_nil, List.length_replicate, List.length_set]; omega) | (simp; omega)) ?_))
                intro A16 cp17 hA18
                refine ⟨_, .here, ?_⟩
                refine ⟨(Inc.cons (.tail _ (.head _)) (Inc.cons (.tail _ (.tail _ (.head _))) (Inc.cons (.tail _ (.tail _ (.tail _ (.head _)))) (Inc.cons (.tail _ (.tail _ (.tail _ (.tail _ (.head _))))) Inc.nil)))), ?_⟩
                refine Aw_one 5 (by kernel_rfl) (Ax_mk rfl rfl (OpW_buildSliceX (xs := (([IntKind.i64.wrap a.new]).map i64c).flatten) rfl rfl rfl rfl rfl rfl rfl rfl rfl rfl rfl (fun a20 => ⟨(Inc.cons (.tail _ (.tail _ (.head _))) (Inc.cons (.tail _ (.tail _ (.tail _ (.head _)))) (Inc.cons (.tail _ (.tail _ (.tail _ (.tail _ (.head _))))) (Inc.cons (.tail _ (.tail _ (.tail _ (.tail _ (.tail _ (.head _)))))) Inc.nil)))), ?_⟩)))
                refine Aw_one 6 (by kernel_rfl) (Ax_mk rfl rfl (OpW_appendT (bytes := 8) (L := (([] : List Int) ++ w7.l)) (M := [IntKind.i64.wrap a.new]) Enc.i64 rfl rfl rfl (.tail _ (.head _)) (Src.row (.head _)) (by first | rfl | (simp; done) | (simp; omega)) rfl rfl rfl rfl rfl rfl rfl rfl (by first | omega | (simp only [List.length_append, List.length_cons, List.length_nil, List.length_replicate, List.length_set]; omega) | (simp; omega)) (by first | omega | (simp only [List.length_append, List.length_cons, List.length_nil, List.length_replicate, List.length_set]; omega) | (simp; omega)) ?_))
                intro A21 cp22 hA23
                obtain ⟨a24, rfl⟩ := hA23 (by first | (simp; done) | (simp; omega))
                refine ⟨_, (.there .here), ?_⟩
                refine ⟨(Inc.cons (.tail _ (.tail _ (.head _))) (Inc.cons (.tail _ (.tail _ (.tail _ (.head _)))) (Inc.cons (.tail _ (.tail _ (.tail _ (.tail _ (.head _))))) (Inc.cons (.tail _ (.tail _ (.tail _ (.tail _ (.tail _ (.head _)))))) Inc.nil)))), ?_⟩
                refine Aw_q 7 rfl (by kernel_rfl) (by kernel_rfl) (by kernel_rfl) rfl rfl rfl (Qt_assign rfl) ?_
                refine Aw_done (by kernel_rfl) ?_
                refine Cw_seq ?_
                refine Cw_region ?_
                refine Ow_q rfl rfl rfl (Qt_loadA (m := 3) (cs := Mem.cells m) rfl rfl rfl rfl ⟨rfl, Rdc.blk (.tail _ (.tail _ (.tail _ (.tail _ (.tail _ (.head _)))))) rfl⟩) ?_
                refine Ow_q rfl rfl rfl (Qt_fieldAddr (m := 1) rfl rfl rfl rfl rfl) ?_
                refine Ow_q rfl rfl rfl (Qt_load1 (v := (.int .i64 a.address)) rfl rfl rfl (Rdc.blk (.tail _ (.tail _ (.tail _ (.tail _ (.head _))))) rfl)) ?_
                refine Ow_q rfl rfl rfl (Qt_move rfl) ?_
                refine Ow.settleT Enc.i64 rfl (.there (.here)) ?_
                intro K30 hK31 hs32
                have hs33 := hm.mono hK31
                have hs34 := hs_w7.mono hK31
                have hl35 := Sl.le hs32
                refine Ow_cons rfl (OpW_call rfl Try.call57 rfl rfl (c_putL m a.address (SI.mk (some a24) cp22 ((([] : List Int) ++ w7.l) ++ [IntKind.i64.wrap a.new])) (by first | omega | (simp only [List.length_append, List.length_cons, List.length_nil, List.length_replicate, List.length_set]; omega) | (simp; omega)) (by first | omega | (simp only [List.length_append, List.length_cons, List.length_nil, List.length_replicate, List.length_set]; omega) | (simp; omega)) _ _ hs33 hs32) ?_)
                rintro _ K26 _ hK27 ⟨m25, rfl, rfl, hm28, he29⟩
                have hs36 := hs33.mono hK27
                have hs37 := hs34.mono hK27
                have hs38 := hs32.mono hK27
                have hm28w := Sl.le hm28.w
                have hm28l := Sl.le hm28.l
                have hm28zw := hm28.zw
                have hm28zl := hm28.zl
                refine Ow_q rfl rfl rfl (Qt_move rfl) ?_
                refine Ow_q rfl rfl rfl (Qt_len rfl rfl) ?_
                refine Ow_q rfl rfl rfl (Qt_conv (c := ((((([] : List Int) ++ w7.l) ++ [IntKind.i64.wrap a.new]).length : Nat) : Int)) rfl rfl rfl (IntWalk.u64_in _ (by omega))) ?_
                refine Ow_q rfl rfl rfl (Qt_build (cs := Answer.cells (Answer.mk ((((([] : List Int) ++ w7.l) ++ [IntKind.i64.wrap a.new]).length : Nat) : Int) false false (SI.mk none 0 []))) rfl rfl rfl rfl rfl rfl) ?_
                refine Ow_cons rfl (OpW_store (vs := [(.slice m25.words.A m25.words.l.length m25.words.cp), (.slice m25.lists.A m25.lists.l.length m25.lists.cp), (.int .i64 m25.tick)]) (all' := [(.slice m25.words.A m25.words.l.length m25.words.cp), (.slice m25.lists.A m25.lists.l.length m25.lists.cp), (.int .i64 m25.tick)]) rfl rfl rfl rfl rfl (.there (.there .here)) rfl rfl rfl ?_)
                refine Ow_cons rfl (OpW_store (vs := [(.int .u64 ((((([] : List Int) ++ w7.l) ++ [IntKind.i64.wrap a.new]).length : Nat) : Int)), (.bool false), (.bool false), (.slice none 0 0)]) (all' := [(.int .u64 ((((([] : List Int) ++ w7.l) ++ [IntKind.i64.wrap a.new]).length : Nat) : Int)), (.bool false), (.bool false), (.slice none 0 0)]) rfl rfl rfl rfl rfl (.there .here) rfl rfl rfl ?_)
                refine Ow_q rfl rfl rfl (Qt_assign rfl) ?_
                refine Ow_nil ?_
                refine Cw_ret ?_
                refine ⟨(by first | exact .inl rfl | exact .inr rfl), [(Mem.val m25), (Answer.val (Answer.mk ((((([] : List Int) ++ w7.l) ++ [IntKind.i64.wrap a.new]).length : Nat) : Int) false false (SI.mk none 0 []))), (.bool true)], G, ⟨(Mem.val m25), _, rfl, ⟨_, 3, Mem.cells m25, rfl, rfl, rfl, rfl, ⟨rfl, Rdc.blk (.tail _ (.tail _ (.head _))) rfl⟩, rfl⟩, ⟨(Answer.val (Answer.mk ((((([] : List Int) ++ w7.l) ++ [IntKind.i64.wrap a.new]).length : Nat) : Int) false false (SI.mk none 0 []))), _, rfl, ⟨_, 4, Answer.cells (Answer.mk ((((([] : List Int) ++ w7.l) ++ [IntKind.i64.wrap a.new]).length : Nat) : Int) false false (SI.mk none 0 [])), rfl, rfl, rfl, rfl, ⟨rfl, Rdc.blk (.tail _ (.head _)) rfl⟩, rfl⟩, ⟨(.bool true), _, rfl, rfl, rfl⟩⟩⟩, .cons _ (.cons _ (.cons _ (.cons _ (.cons _ (.refl _))))), ?_⟩
                have q := getI_of (l := m.lists.l) (n := a.address) (by omega) hx10
                have q3 : (m.lists.l.map SI.l).set a.address.toNat w7.l = m.lists.l.map SI.l := set_get (by simp [hx10])
                rcases (show w7.l.length < 1000 ∨ ¬ w7.l.length < 1000 by omega) with q4 | q4 <;> first | (exfalso; omega) | (exact ⟨m25, (Answer.mk ((((([] : List Int) ++ w7.l) ++ [IntKind.i64.wrap a.new]).length : Nat) : Int) false false (SI.mk none 0 [])), (by simp [mkRes, *]), rfl, hm28, ⟨(Sl.nil _ _)⟩, by first | (exfalso; omega) | (simp [dcd_eq, Nat.not_lt_of_le, List.erase_of_not_mem, listS, wordS, applyS, Mem.abs, getI_map, Answer.abs, an0, changeL, List.map_set, erase_idx, mkRes, *]; done) | (simp_all [dcd_eq, Nat.not_lt_of_le, List.erase_of_not_mem, listS, wordS, applyS, Mem.abs, getI_map, Answer.abs, an0, changeL, List.map_set, erase_idx, mkRes]; done) | (simp_all [dcd_eq, Nat.not_lt_of_le, List.erase_of_not_mem, listS, wordS, applyS, Mem.abs, getI_map, Answer.abs, an0, changeL, List.map_set, erase_idx, mkRes]; omega)⟩)
              · skip
                refine id (Ax_mk rfl rfl (OpW_buildSliceX (xs := (([IntKind.i64.wrap a.new]).map i64c).flatten) rfl rfl rfl rfl rfl rfl rfl rfl rfl rfl rfl (fun a39 => ⟨(Inc.cons (.tail _ (.tail _ (.head _))) (Inc.cons (.tail _ (.tail _ (.tail _ (.head _)))) (Inc.cons (.tail _ (.tail _ (.tail _ (.tail _ (.head _))))) (Inc.cons (.tail _ (.tail _ (.tail _ (.tail _ (.tail _ (.head _)))))) Inc.nil)))), ?_⟩)))
                refine Aw_one 1 (by kernel_rfl) (Ax_mk rfl rfl (OpW_appendT (bytes := 8) (L := ([] : List Int)) (M := w7.l) Enc.i64 rfl rfl rfl (.tail _ (.head _)) (Src.slT hs_w7) (by first | rfl | (simp; done) | (simp; omega)) rfl rfl rfl rfl rfl rfl rfl rfl (by first | omega | (simp only [List.length_append, List.length_cons, List.length_nil, List.length_replicate, List.length_set]; omega) | (simp; omega)) (by first | omega | (simp only [List.length_append, List.length_cons, List.length_nil, List.length_replicate, List.length_set]; omega) | (simp; omega)) ?_))
                intro A40 cp41 hA42
                refine ⟨_, (.there .here), ?_⟩
                refine ⟨(Inc.cons (.tail _ (.tail _ (.head _))) (Inc.cons (.tail _ (.tail _ (.tail _ (.head _)))) (Inc.cons (.tail _ (.tail _ (.tail _ (.tail _ (.head _))))) (Inc.cons (.tail _ (.tail _ (.tail _ (.tail _ (.tail _ (.head _)))))) Inc.nil)))), ?_⟩
                refine Aw_one 6 (by kernel_rfl) (Ax_mk rfl rfl (OpW_appendT (bytes := 8) (L := (([] : List Int) ++ w7.l)) (M := [IntKind.i64.wrap a.new]) Enc.i64 rfl rfl rfl (.tail _ (.head _)) (Src.row (.head _)) (by first | rfl | (simp; done) | (simp; omega)) rfl rfl rfl rfl rfl rfl rfl rfl (by first | omega | (simp only [List.length_append, List.length_cons, List.length_nil, List.length_replicate, List.length_set]; omega) | (simp; omega)) (by first | omega | (simp only [List.length_append, List.length_cons, List.length_nil, List.length_replicate, List.length_set]; omega) | (simp; omega)) ?_))
                intro A44 cp45 hA46
                obtain ⟨a47, rfl⟩ := hA46 (by first | (simp; done) | (simp; omega))
                refine ⟨_, (.there .here), ?_⟩
                refine ⟨(Inc.cons (.tail _ (.tail _ (.head _))) (Inc.cons (.tail _ (.tail _ (.tail _ (.head _)))) (Inc.cons (.tail _ (.tail _ (.tail _ (.tail _ (.head _))))) (Inc.cons (.tail _ (.tail _ (.tail _ (.tail _ (.tail _ (.head _)))))) Inc.nil)))), ?_⟩
                refine Aw_q 7 rfl (by kernel_rfl) (by kernel_rfl) (by kernel_rfl) rfl rfl rfl (Qt_assign rfl) ?_
                refine Aw_done (by kernel_rfl) ?_
                refine Cw_seq ?_
                refine Cw_region ?_
                refine Ow_q rfl rfl rfl (Qt_loadA (m := 3) (cs := Mem.cells m) rfl rfl rfl rfl ⟨rfl, Rdc.blk (.tail _ (.tail _ (.tail _ (.tail _ (.tail _ (.head _)))))) rfl⟩) ?_
                refine Ow_q rfl rfl rfl (Qt_fieldAddr (m := 1) rfl rfl rfl rfl rfl) ?_
                refine Ow_q rfl rfl rfl (Qt_load1 (v := (.int .i64 a.address)) rfl rfl rfl (Rdc.blk (.tail _ (.tail _ (.tail _ (.tail _ (.head _))))) rfl)) ?_
                refine Ow_q rfl rfl rfl (Qt_move rfl) ?_
                refine Ow.settleT Enc.i64 rfl (.there (.here)) ?_
                intro K53 hK54 hs55
                have hs56 := hm.mono hK54
                have hs57 := hs_w7.mono hK54
                have hl58 := Sl.le hs55
                refine Ow_cons rfl (OpW_call rfl Try.call57 rfl rfl (c_putL m a.address (SI.mk (some a47) cp45 ((([] : List Int) ++ w7.l) ++ [IntKind.i64.wrap a.new])) (by first | omega | (simp only [List.length_append, List.length_cons, List.length_nil, List.length_replicate, List.length_set]; omega) | (simp; omega)) (by first | omega | (simp only [List.length_append, List.length_cons, List.length_nil, List.length_replicate, List.length_set]; omega) | (simp; omega)) _ _ hs56 hs55) ?_)
                rintro _ K49 _ hK50 ⟨m48, rfl, rfl, hm51, he52⟩
                have hs59 := hs56.mono hK50
                have hs60 := hs57.mono hK50
                have hs61 := hs55.mono hK50
                have hm51w := Sl.le hm51.w
                have hm51l := Sl.le hm51.l
                have hm51zw := hm51.zw
                have hm51zl := hm51.zl
                refine Ow_q rfl rfl rfl (Qt_move rfl) ?_
                refine Ow_q rfl rfl rfl (Qt_len rfl rfl) ?_
                refine Ow_q rfl rfl rfl (Qt_conv (c := ((((([] : List Int) ++ w7.l) ++ [IntKind.i64.wrap a.new]).length : Nat) : Int)) rfl rfl rfl (IntWalk.u64_in _ (by omega))) ?_
                refine Ow_q rfl rfl rfl (Qt_build (cs := Answer.cells (Answer.mk ((((([] : List Int) ++ w7.l) ++ [IntKind.i64.wrap a.new]).length : Nat) : Int) false false (SI.mk none 0 []))) rfl rfl rfl rfl rfl rfl) ?_
                refine Ow_cons rfl (OpW_store (vs := [(.slice m48.words.A m48.words.l.length m48.words.cp), (.slice m48.lists.A m48.lists.l.length m48.lists.cp), (.int .i64 m48.tick)]) (all' := [(.slice m48.words.A m48.words.l.length m48.words.cp), (.slice m48.lists.A m48.lists.l.length m48.lists.cp), (.int .i64 m48.tick)]) rfl rfl rfl rfl rfl (.there (.there .here)) rfl rfl rfl ?_)
                refine Ow_cons rfl (OpW_store (vs := [(.int .u64 ((((([] : List Int) ++ w7.l) ++ [IntKind.i64.wrap a.new]).length : Nat) : Int)), (.bool false), (.bool false), (.slice none 0 0)]) (all' := [(.int .u64 ((((([] : List Int) ++ w7.l) ++ [IntKind.i64.wrap a.new]).length : Nat) : Int)), (.bool false), (.bool false), (.slice none 0 0)]) rfl rfl rfl rfl rfl (.there .here) rfl rfl rfl ?_)
                refine Ow_q rfl rfl rfl (Qt_assign rfl) ?_
                refine Ow_nil ?_
                refine Cw_ret ?_
                refine ⟨(by first | exact .inl rfl | exact .inr rfl), [(Mem.val m48), (Answer.val (Answer.mk ((((([] : List Int) ++ w7.l) ++ [IntKind.i64.wrap a.new]).length : Nat) : Int) false false (SI.mk none 0 []))), (.bool true)], G, ⟨(Mem.val m48), _, rfl, ⟨_, 3, Mem.cells m48, rfl, rfl, rfl, rfl, ⟨rfl, Rdc.blk (.tail _ (.tail _ (.head _))) rfl⟩, rfl⟩, ⟨(Answer.val (Answer.mk ((((([] : List Int) ++ w7.l) ++ [IntKind.i64.wrap a.new]).length : Nat) : Int) false false (SI.mk none 0 []))), _, rfl, ⟨_, 4, Answer.cells (Answer.mk ((((([] : List Int) ++ w7.l) ++ [IntKind.i64.wrap a.new]).length : Nat) : Int) false false (SI.mk none 0 [])), rfl, rfl, rfl, rfl, ⟨rfl, Rdc.blk (.tail _ (.head _)) rfl⟩, rfl⟩, ⟨(.bool true), _, rfl, rfl, rfl⟩⟩⟩, .cons _ (.cons _ (.cons _ (.cons _ (.cons _ (.refl _))))), ?_⟩
                have q := getI_of (l := m.lists.l) (n := a.address) (by omega) hx10
                have q3 : (m.lists.l.map SI.l).set a.address.toNat w7.l = m.lists.l.map SI.l := set_get (by simp [hx10])
                rcases (show w7.l.length < 1000 ∨ ¬ w7.l.length < 1000 by omega) with q4 | q4 <;> first | (exfalso; omega) | (exact ⟨m48, (Answer.mk ((((([] : List Int) ++ w7.l) ++ [IntKind.i64.wrap a.new]).length : Nat) : Int) false false (SI.mk none 0 [])), (by simp [mkRes, *]), rfl, hm51, ⟨(Sl.nil _ _)⟩, by first | (exfalso; omega) | (simp [dcd_eq, Nat.not_lt_of_le, List.erase_of_not_mem, listS, wordS, applyS, Mem.abs, getI_map, Answer.abs, an0, changeL, List.map_set, erase_idx, mkRes, *]; done) | (simp_all [dcd_eq, Nat.not_lt_of_le, List.erase_of_not_mem, listS, wordS, applyS, Mem.abs, getI_map, Answer.abs, an0, changeL, List.map_set, erase_idx, mkRes]; done) | (simp_all [dcd_eq, Nat.not_lt_of_le, List.erase_of_not_mem, listS, wordS, applyS, Mem.abs, getI_map, Answer.abs, an0, changeL, List.map_set, erase_idx, mkRes]; omega)⟩)
            · intro h15
              have h15 := dcd_f (h15)
              refine Cw_seq ?_
              refine Cw_region ?_
              refine Ow_q rfl rfl rfl (Qt_fieldAddr (m := 0) rfl rfl rfl rfl rfl) ?_
              refine Ow_q rfl rfl rfl (Qt_load1 (v := (.int .i64 a.kind)) rfl rfl rfl (Rdc.blk (.tail _ (.tail _ (.head _))) rfl)) ?_
              refine Ow_q rfl rfl rfl (Qt_cmp rfl rfl rfl) ?_
              refine Ow_q rfl rfl rfl (Qt_assign rfl) ?_
              refine Ow_nil ?_
              refine Cw_cond rfl ?_ ?_
              · intro h62
                have h62 := dcd_t (h62)
                refine Cw_region ?_
                refine Ow_q rfl rfl rfl (Qt_move rfl) ?_
                refine Ow_q rfl rfl rfl (Qt_fieldAddr (m := 3) rfl rfl rfl rfl rfl) ?_
                refine Ow_q rfl rfl rfl (Qt_load1 (v := (.int .u64 a.new)) rfl rfl rfl (Rdc.blk (.tail _ (.tail _ (.head _))) rfl)) ?_
                refine Ow_q rfl rfl rfl (Qt_conv (c := IntKind.i64.wrap a.new) rfl rfl rfl rfl) ?_
                have he68 := List.length_erase_le (a := IntKind.i64.wrap a.new) (l := w7.l)
                refine Ow_cons rfl (OpW_call rfl Try.call56 rfl rfl (c_without w7.A w7.cp w7.l (IntKind.i64.wrap a.new) _ _ hs_w7 (by first | omega | (simp only [List.length_append, List.length_cons, List.length_nil, List.length_replicate, List.length_set]; omega) | (simp; omega))) ?_)
                rintro _ K65 _ hK66 ⟨A63, cp64, rfl, rfl, hs67⟩
                have hs69 := hm.mono hK66
                have hs70 := hs_w7.mono hK66
                refine Ow_q rfl rfl rfl (Qt_assign rfl) ?_
                refine Ow_nil ?_
                refine Cw_seq ?_
                refine Cw_region ?_
                refine Ow_q rfl rfl rfl (Qt_loadA (m := 3) (cs := Mem.cells m) rfl rfl rfl rfl ⟨rfl, Rdc.blk (.tail _ (.tail _ (.tail _ (.head _)))) rfl⟩) ?_
                refine Ow_q rfl rfl rfl (Qt_fieldAddr (m := 1) rfl rfl rfl rfl rfl) ?_
                refine Ow_q rfl rfl rfl (Qt_load1 (v := (.int .i64 a.address)) rfl rfl rfl (Rdc.blk (.tail _ (.tail _ (.head _))) rfl)) ?_
                refine Ow_q rfl rfl rfl (Qt_move rfl) ?_
                refine Ow_cons rfl (OpW_call rfl Try.call57 rfl rfl (c_putL m a.address (SI.mk A63 cp64 (w7.l.erase (IntKind.i64.wrap a.new))) (by first | omega | (simp only [List.length_append, List.length_cons, List.length_nil, List.length_replicate, List.length_set]; omega) | (simp; omega)) (by first | omega | (simp only [List.length_append, List.length_cons, List.length_nil, List.length_replicate, List.length_set]; omega) | (simp; omega)) _ _ hs69 hs67) ?_)
                rintro _ K72 _ hK73 ⟨m71, rfl, rfl, hm74, he75⟩
                have hs76 := hs69.mono hK73
                have hs77 := hs70.mono hK73
                have hs78 := hs67.mono hK73
                have hm74w := Sl.le hm74.w
                have hm74l := Sl.le hm74.l
                have hm74zw := hm74.zw
                have hm74zl := hm74.zl
                refine Ow_q rfl rfl rfl (Qt_move rfl) ?_
                refine Ow_q rfl rfl rfl (Qt_len rfl rfl) ?_
                refine Ow_q rfl rfl rfl (Qt_conv (c := (((w7.l.erase (IntKind.i64.wrap a.new)).length : Nat) : Int)) rfl rfl rfl (IntWalk.u64_in _ (by omega))) ?_
                refine Ow_q rfl rfl rfl (Qt_build (cs := Answer.cells (Answer.mk (((w7.l.erase (IntKind.i64.wrap a.new)).length : Nat) : Int) false false (SI.mk none 0 []))) rfl rfl rfl rfl rfl rfl) ?_
                refine Ow_cons rfl (OpW_store (vs := [(.slice m71.words.A m71.words.l.length m71.words.cp), (.slice m71.lists.A m71.lists.l.length m71.lists.cp), (.int .i64 m71.tick)]) (all' := [(.slice m71.words.A m71.words.l.length m71.words.cp), (.slice m71.lists.A m71.lists.l.length m71.lists.cp), (.int .i64 m71.tick)]) rfl rfl rfl rfl rfl (.there .here) rfl rfl rfl ?_)
                refine Ow_cons rfl (OpW_store (vs := [(.int .u64 (((w7.l.erase (IntKind.i64.wrap a.new)).length : Nat) : Int)), (.bool false), (.bool false), (.slice none 0 0)]) (all' := [(.int .u64 (((w7.l.erase (IntKind.i64.wrap a.new)).length : Nat) : Int)), (.bool false), (.bool false), (.slice none 0 0)]) rfl rfl rfl rfl rfl .here rfl rfl rfl ?_)
                refine Ow_q rfl rfl rfl (Qt_assign rfl) ?_
                refine Ow_nil ?_
                refine Cw_ret ?_
                refine ⟨(by first | exact .inl rfl | exact .inr rfl), [(Mem.val m71), (Answer.val (Answer.mk (((w7.l.erase (IntKind.i64.wrap a.new)).length : Nat) : Int) false false (SI.mk none 0 []))), (.bool true)], G, ⟨(Mem.val m71), _, rfl, ⟨_, 3, Mem.cells m71, rfl, rfl, rfl, rfl, ⟨rfl, Rdc.blk (.tail _ (.head _)) rfl⟩, rfl⟩, ⟨(Answer.val (Answer.mk (((w7.l.erase (IntKind.i64.wrap a.new)).length : Nat) : Int) false false (SI.mk none 0 []))), _, rfl, ⟨_, 4, Answer.cells (Answer.mk (((w7.l.erase (IntKind.i64.wrap a.new)).length : Nat) : Int) false false (SI.mk none 0 [])), rfl, rfl, rfl, rfl, ⟨rfl, Rdc.blk (.head _) rfl⟩, rfl⟩, ⟨(.bool true), _, rfl, rfl, rfl⟩⟩⟩, .cons _ (.cons _ (.cons _ (.cons _ (.refl _)))), ?_⟩
                have q := getI_of (l := m.lists.l) (n := a.address) (by omega) hx10
                have q3 : (m.lists.l.map SI.l).set a.address.toNat w7.l = m.lists.l.map SI.l := set_get (by simp [hx10])
                rcases (show w7.l.length < 1000 ∨ ¬ w7.l.length < 1000 by omega) with q4 | q4 <;> first | (exfalso; omega) | (exact ⟨m71, (Answer.mk (((w7.l.erase (IntKind.i64.wrap a.new)).length : Nat) : Int) false false (SI.mk none 0 [])), (by simp [mkRes, *]), rfl, hm74, ⟨(Sl.nil _ _)⟩, by first | (exfalso; omega) | (simp [dcd_eq, Nat.not_lt_of_le, List.erase_of_not_mem, listS, wordS, applyS, Mem.abs, getI_map, Answer.abs, an0, changeL, List.map_set, erase_idx, mkRes, *]; done) | (simp_all [dcd_eq, Nat.not_lt_of_le, List.erase_of_not_mem, listS, wordS, applyS, Mem.abs, getI_map, Answer.abs, an0, changeL, List.map_set, erase_idx, mkRes]; done) | (simp_all [dcd_eq, Nat.not_lt_of_le, List.erase_of_not_mem, listS, wordS, applyS, Mem.abs, getI_map, Answer.abs, an0, changeL, List.map_set, erase_idx, mkRes]; omega)⟩)
              · intro h62
                have h62 := dcd_f (h62)
                refine Cw_skip ?_
                refine Cw_seq ?_
                refine Cw_region ?_
                refine Ow_q rfl rfl rfl (Qt_loadA (m := 3) (cs := Mem.cells m) rfl rfl rfl rfl ⟨rfl, Rdc.blk (.tail _ (.tail _ (.tail _ (.head _)))) rfl⟩) ?_
                refine Ow_q rfl rfl rfl (Qt_fieldAddr (m := 1) rfl rfl rfl rfl rfl) ?_
                refine Ow_q rfl rfl rfl (Qt_load1 (v := (.int .i64 a.address)) rfl rfl rfl (Rdc.blk (.tail _ (.tail _ (.head _))) rfl)) ?_
                refine Ow_q rfl rfl rfl (Qt_move rfl) ?_
                refine Ow_cons rfl (OpW_call rfl Try.call57 rfl rfl (c_putL m a.address w7 (by first | omega | (simp only [List.length_append, List.length_cons, List.length_nil, List.length_replicate, List.length_set]; omega) | (simp; omega)) (by first | omega | (simp only [List.length_append, List.length_cons, List.length_nil, List.length_replicate, List.length_set]; omega) | (simp; omega)) _ _ hm hs_w7) ?_)
                rintro _ K80 _ hK81 ⟨m79, rfl, rfl, hm82, he83⟩
                have hs84 := hm.mono hK81
                have hs85 := hs_w7.mono hK81
                have hm82w := Sl.le hm82.w
                have hm82l := Sl.le hm82.l
                have hm82zw := hm82.zw
                have hm82zl := hm82.zl
                refine Ow_q rfl rfl rfl (Qt_move rfl) ?_
                refine Ow_q rfl rfl rfl (Qt_len rfl rfl) ?_
                refine Ow_q rfl rfl rfl (Qt_conv (c := ((w7.l.length : Nat) : Int)) rfl rfl rfl (IntWalk.u64_in _ (by omega))) ?_
                refine Ow_q rfl rfl rfl (Qt_build (cs := Answer.cells (Answer.mk ((w7.l.length : Nat) : Int) false false (SI.mk none 0 []))) rfl rfl rfl rfl rfl rfl) ?_
                refine Ow_cons rfl (OpW_store (vs := [(.slice m79.words.A m79.words.l.length m79.words.cp), (.slice m79.lists.A m79.lists.l.length m79.lists.cp), (.int .i64 m79.tick)]) (all' := [(.slice m79.words.A m79.words.l.length m79.words.cp), (.slice m79.lists.A m79.lists.l.length m79.lists.cp), (.int .i64 m79.tick)]) rfl rfl rfl rfl rfl (.there .here) rfl rfl rfl ?_)
                refine Ow_cons rfl (OpW_store (vs := [(.int .u64 ((w7.l.length : Nat) : Int)), (.bool false), (.bool false), (.slice none 0 0)]) (all' := [(.int .u64 ((w7.l.length : Nat) : Int)), (.bool false), (.bool false), (.slice none 0 0)]) rfl rfl rfl rfl rfl .here rfl rfl rfl ?_)
                refine Ow_q rfl rfl rfl (Qt_assign rfl) ?_
                refine Ow_nil ?_
                refine Cw_ret ?_
                refine ⟨(by first | exact .inl rfl | exact .inr rfl), [(Mem.val m79), (Answer.val (Answer.mk ((w7.l.length : Nat) : Int) false false (SI.mk none 0 []))), (.bool true)], G, ⟨(Mem.val m79), _, rfl, ⟨_, 3, Mem.cells m79, rfl, rfl, rfl, rfl, ⟨rfl, Rdc.blk (.tail _ (.head _)) rfl⟩, rfl⟩, ⟨(Answer.val (Answer.mk ((w7.l.length : Nat) : Int) false false (SI.mk none 0 []))), _, rfl, ⟨_, 4, Answer.cells (Answer.mk ((w7.l.length : Nat) : Int) false false (SI.mk none 0 [])), rfl, rfl, rfl, rfl, ⟨rfl, Rdc.blk (.head _) rfl⟩, rfl⟩, ⟨(.bool true), _, rfl, rfl, rfl⟩⟩⟩, .cons _ (.cons _ (.cons _ (.cons _ (.refl _)))), ?_⟩
                have q := getI_of (l := m.lists.l) (n := a.address) (by omega) hx10
                have q3 : (m.lists.l.map SI.l).set a.address.toNat w7.l = m.lists.l.map SI.l := set_get (by simp [hx10])
                rcases (show w7.l.length < 1000 ∨ ¬ w7.l.length < 1000 by omega) with q4 | q4 <;> first | (exfalso; omega) | (exact ⟨m79, (Answer.mk ((w7.l.length : Nat) : Int) false false (SI.mk none 0 [])), (by simp [mkRes, *]), rfl, hm82, ⟨(Sl.nil _ _)⟩, by first | (exfalso; omega) | (simp [dcd_eq, Nat.not_lt_of_le, List.erase_of_not_mem, listS, wordS, applyS, Mem.abs, getI_map, Answer.abs, an0, changeL, List.map_set, erase_idx, mkRes, *]; done) | (simp_all [dcd_eq, Nat.not_lt_of_le, List.erase_of_not_mem, listS, wordS, applyS, Mem.abs, getI_map, Answer.abs, an0, changeL, List.map_set, erase_idx, mkRes]; done) | (simp_all [dcd_eq, Nat.not_lt_of_le, List.erase_of_not_mem, listS, wordS, applyS, Mem.abs, getI_map, Answer.abs, an0, changeL, List.map_set, erase_idx, mkRes]; omega)⟩)
          · intro h14
            have h14 := dcd_f (h14)
            refine Ow_pass rfl rfl rfl rfl rfl rfl rfl ?_
            refine Ow_pass rfl rfl rfl rfl rfl rfl rfl ?_
            refine Ow_pass rfl rfl rfl rfl rfl rfl rfl ?_
            refine Ow_q rfl rfl rfl (Qt_pick_f rfl rfl) ?_
            refine Ow_q rfl rfl rfl (Qt_assign rfl) ?_
            refine Ow_nil ?_
            refine Cw_cond_f rfl ?_
            refine Cw_seq ?_
            refine Cw_region ?_
            refine Ow_q rfl rfl rfl (Qt_fieldAddr (m := 0) rfl rfl rfl rfl rfl) ?_
            refine Ow_q rfl rfl rfl (Qt_load1 (v := (.int .i64 a.kind)) rfl rfl rfl (Rdc.blk (.tail _ (.tail _ (.head _))) rfl)) ?_
            refine Ow_q rfl rfl rfl (Qt_cmp rfl rfl rfl) ?_
            refine Ow_q rfl rfl rfl (Qt_assign rfl) ?_
            refine Ow_nil ?_
            refine Cw_cond rfl ?_ ?_
            · intro h86
              have h86 := dcd_t (h86)
              refine Cw_region ?_
              refine Ow_q rfl rfl rfl (Qt_move rfl) ?_
              refine Ow_q rfl rfl rfl (Qt_fieldAddr (m := 3) rfl rfl rfl rfl rfl) ?_
              refine Ow_q rfl rfl rfl (Qt_load1 (v := (.int .u64 a.new)) rfl rfl rfl (Rdc.blk (.tail _ (.tail _ (.head _))) rfl)) ?_
              refine Ow_q rfl rfl rfl (Qt_conv (c := IntKind.i64.wrap a.new) rfl rfl rfl rfl) ?_
              have he92 := List.length_erase_le (a := IntKind.i64.wrap a.new) (l := w7.l)
              refine Ow_cons rfl (OpW_call rfl Try.call56 rfl rfl (c_without w7.A w7.cp w7.l (IntKind.i64.wrap a.new) _ _ hs_w7 (by first | omega | (simp only [List.length_append, List.length_cons, List.length_nil, List.length_replicate, List.length_set]; omega) | (simp; omega))) ?_)
              rintro _ K89 _ hK90 ⟨A87, cp88, rfl, rfl, hs91⟩
              have hs93 := hm.mono hK90
              have hs94 := hs_w7.mono hK90
              refine Ow_q rfl rfl rfl (Qt_assign rfl) ?_
              refine Ow_nil ?_
              refine Cw_seq ?_
              refine Cw_region ?_
              refine Ow_q rfl rfl rfl (Qt_loadA (m := 3) (cs := Mem.cells m) rfl rfl rfl rfl ⟨rfl, Rdc.blk (.tail _ (.tail _ (.tail _ (.head _)))) rfl⟩) ?_
              refine Ow_q rfl rfl rfl (Qt_fieldAddr (m := 1) rfl rfl rfl rfl rfl) ?_
              refine Ow_q rfl rfl rfl (Qt_load1 (v := (.int .i64 a.address)) rfl rfl rfl (Rdc.blk (.tail _ (.tail _ (.head _))) rfl)) ?_
              refine Ow_q rfl rfl rfl (Qt_move rfl) ?_
              refine Ow_cons rfl (OpW_call rfl Try.call57 rfl rfl (c_putL m a.address (SI.mk A87 cp88 (w7.l.erase (IntKind.i64.wrap a.new))) (by first | omega | (simp only [List.length_append, List.length_cons, List.length_nil, List.length_replicate, List.length_set]; omega) | (simp; omega)) (by first | omega | (simp only [List.length_append, List.length_cons, List.length_nil, List.length_replicate, List.length_set]; omega) | (simp; omega)) _ _ hs93 hs91) ?_)
              rintro _ K96 _ hK97 ⟨m95, rfl, rfl, hm98, he99⟩
              have hs100 := hs93.mono hK97
              have hs101 := hs94.mono hK97
              have hs102 := hs91.mono hK97
              have hm98w := Sl.le hm98.w
              have hm98l := Sl.le hm98.l
              have hm98zw := hm98.zw
              have hm98zl := hm98.zl
              refine Ow_q rfl rfl rfl (Qt_move rfl) ?_
              refine Ow_q rfl rfl rfl (Qt_len rfl rfl) ?_
              refine Ow_q rfl rfl rfl (Qt_conv (c := (((w7.l.erase (IntKind.i64.wrap a.new)).length : Nat) : Int)) rfl rfl rfl (IntWalk.u64_in _ (by omega))) ?_
              refine Ow_q rfl rfl rfl (Qt_build (cs := Answer.cells (Answer.mk (((w7.l.erase (IntKind.i64.wrap a.new)).length : Nat) : Int) false false (SI.mk none 0 []))) rfl rfl rfl rfl rfl rfl) ?_
              refine Ow_cons rfl (OpW_store (vs := [(.slice m95.words.A m95.words.l.length m95.words.cp), (.slice m95.lists.A m95.lists.l.length m95.lists.cp), (.int .i64 m95.tick)]) (all' := [(.slice m95.words.A m95.words.l.length m95.words.cp), (.slice m95.lists.A m95.lists.l.length m95.lists.cp), (.int .i64 m95.tick)]) rfl rfl rfl rfl rfl (.there .here) rfl rfl rfl ?_)
              refine Ow_cons rfl (OpW_store (vs := [(.int .u64 (((w7.l.erase (IntKind.i64.wrap a.new)).length : Nat) : Int)), (.bool false), (.bool false), (.slice none 0 0)]) (all' := [(.int .u64 (((w7.l.erase (IntKind.i64.wrap a.new)).length : Nat) : Int)), (.bool false), (.bool false), (.slice none 0 0)]) rfl rfl rfl rfl rfl .here rfl rfl rfl ?_)
              refine Ow_q rfl rfl rfl (Qt_assign rfl) ?_
              refine Ow_nil ?_
              refine Cw_ret ?_
              refine ⟨(by first | exact .inl rfl | exact .inr rfl), [(Mem.val m95), (Answer.val (Answer.mk (((w7.l.erase (IntKind.i64.wrap a.new)).length : Nat) : Int) false false (SI.mk none 0 []))), (.bool true)], G, ⟨(Mem.val m95), _, rfl, ⟨_, 3, Mem.cells m95, rfl, rfl, rfl, rfl, ⟨rfl, Rdc.blk (.tail _ (.head _)) rfl⟩, rfl⟩, ⟨(Answer.val (Answer.mk (((w7.l.erase (IntKind.i64.wrap a.new)).length : Nat) : Int) false false (SI.mk none 0 []))), _, rfl, ⟨_, 4, Answer.cells (Answer.mk (((w7.l.erase (IntKind.i64.wrap a.new)).length : Nat) : Int) false false (SI.mk none 0 [])), rfl, rfl, rfl, rfl, ⟨rfl, Rdc.blk (.head _) rfl⟩, rfl⟩, ⟨(.bool true), _, rfl, rfl, rfl⟩⟩⟩, .cons _ (.cons _ (.cons _ (.cons _ (.refl _)))), ?_⟩
              have q := getI_of (l := m.lists.l) (n := a.address) (by omega) hx10
              have q3 : (m.lists.l.map SI.l).set a.address.toNat w7.l = m.lists.l.map SI.l := set_get (by simp [hx10])
              rcases (show w7.l.length < 1000 ∨ ¬ w7.l.length < 1000 by omega) with q4 | q4 <;> first | (exfalso; omega) | (exact ⟨m95, (Answer.mk (((w7.l.erase (IntKind.i64.wrap a.new)).length : Nat) : Int) false false (SI.mk none 0 [])), (by simp [mkRes, *]), rfl, hm98, ⟨(Sl.nil _ _)⟩, by first | (exfalso; omega) | (simp [dcd_eq, Nat.not_lt_of_le, List.erase_of_not_mem, listS, wordS, applyS, Mem.abs, getI_map, Answer.abs, an0, changeL, List.map_set, erase_idx, mkRes, *]; done) | (simp_all [dcd_eq, Nat.not_lt_of_le, List.erase_of_not_mem, listS, wordS, applyS, Mem.abs, getI_map, Answer.abs, an0, changeL, List.map_set, erase_idx, mkRes]; done) | (simp_all [dcd_eq, Nat.not_lt_of_le, List.erase_of_not_mem, listS, wordS, applyS, Mem.abs, getI_map, Answer.abs, an0, changeL, List.map_set, erase_idx, mkRes]; omega)⟩)
            · intro h86
              have h86 := dcd_f (h86)
              refine Cw_skip ?_
              refine Cw_seq ?_
              refine Cw_region ?_
              refine Ow_q rfl rfl rfl (Qt_loadA (m := 3) (cs := Mem.cells m) rfl rfl rfl rfl ⟨rfl, Rdc.blk (.tail _ (.tail _ (.tail _ (.head _)))) rfl⟩) ?_
              refine Ow_q rfl rfl rfl (Qt_fieldAddr (m := 1) rfl rfl rfl rfl rfl) ?_
              refine Ow_q rfl rfl rfl (Qt_load1 (v := (.int .i64 a.address)) rfl rfl rfl (Rdc.blk (.tail _ (.tail _ (.head _))) rfl)) ?_
              refine Ow_q rfl rfl rfl (Qt_move rfl) ?_
              refine Ow_cons rfl (OpW_call rfl Try.call57 rfl rfl (c_putL m a.address w7 (by first | omega | (simp only [List.length_append, List.length_cons, List.length_nil, List.length_replicate, List.length_set]; omega) | (simp; omega)) (by first | omega | (simp only [List.length_append, List.length_cons, List.length_nil, List.length_replicate, List.length_set]; omega) | (simp; omega)) _ _ hm hs_w7) ?_)
              rintro _ K104 _ hK105 ⟨m103, rfl, rfl, hm106, he107⟩
              have hs108 := hm.mono hK105
              have hs109 := hs_w7.mono hK105
              have hm106w := Sl.le hm106.w
              have hm106l := Sl.le hm106.l
              have hm106zw := hm106.zw
              have hm106zl := hm106.zl
              refine Ow_q rfl rfl rfl (Qt_move rfl) ?_
              refine Ow_q rfl rfl rfl (Qt_len rfl rfl) ?_
              refine Ow_q rfl rfl rfl (Qt_conv (c := ((w7.l.length : Nat) : Int)) rfl rfl rfl (IntWalk.u64_in _ (by omega))) ?_
              refine Ow_q rfl rfl rfl (Qt_build (cs := Answer.cells (Answer.mk ((w7.l.length : Nat) : Int) false false (SI.mk none 0 []))) rfl rfl rfl rfl rfl rfl) ?_
              refine Ow_cons rfl (OpW_store (vs := [(.slice m103.words.A m103.words.l.length m103.words.cp), (.slice m103.lists.A m103.lists.l.length m103.lists.cp), (.int .i64 m103.tick)]) (all' := [(.slice m103.words.A m103.words.l.length m103.words.cp), (.slice m103.lists.A m103.lists.l.length m103.lists.cp), (.int .i64 m103.tick)]) rfl rfl rfl rfl rfl (.there .here) rfl rfl rfl ?_)
              refine Ow_cons rfl (OpW_store (vs := [(.int .u64 ((w7.l.length : Nat) : Int)), (.bool false), (.bool false), (.slice none 0 0)]) (all' := [(.int .u64 ((w7.l.length : Nat) : Int)), (.bool false), (.bool false), (.slice none 0 0)]) rfl rfl rfl rfl rfl .here rfl rfl rfl ?_)
              refine Ow_q rfl rfl rfl (Qt_assign rfl) ?_
              refine Ow_nil ?_
              refine Cw_ret ?_
              refine ⟨(by first | exact .inl rfl | exact .inr rfl), [(Mem.val m103), (Answer.val (Answer.mk ((w7.l.length : Nat) : Int) false false (SI.mk none 0 []))), (.bool true)], G, ⟨(Mem.val m103), _, rfl, ⟨_, 3, Mem.cells m103, rfl, rfl, rfl, rfl, ⟨rfl, Rdc.blk (.tail _ (.head _)) rfl⟩, rfl⟩, ⟨(Answer.val (Answer.mk ((w7.l.length : Nat) : Int) false false (SI.mk none 0 []))), _, rfl, ⟨_, 4, Answer.cells (Answer.mk ((w7.l.length : Nat) : Int) false false (SI.mk none 0 [])), rfl, rfl, rfl, rfl, ⟨rfl, Rdc.blk (.head _) rfl⟩, rfl⟩, ⟨(.bool true), _, rfl, rfl, rfl⟩⟩⟩, .cons _ (.cons _ (.cons _ (.cons _ (.refl _)))), ?_⟩
              have q := getI_of (l := m.lists.l) (n := a.address) (by omega) hx10
              have q3 : (m.lists.l.map SI.l).set a.address.toNat w7.l = m.lists.l.map SI.l := set_get (by simp [hx10])
              rcases (show w7.l.length < 1000 ∨ ¬ w7.l.length < 1000 by omega) with q4 | q4 <;> first | (exfalso; omega) | (exact ⟨m103, (Answer.mk ((w7.l.length : Nat) : Int) false false (SI.mk none 0 [])), (by simp [mkRes, *]), rfl, hm106, ⟨(Sl.nil _ _)⟩, by first | (exfalso; omega) | (simp [dcd_eq, Nat.not_lt_of_le, List.erase_of_not_mem, listS, wordS, applyS, Mem.abs, getI_map, Answer.abs, an0, changeL, List.map_set, erase_idx, mkRes, *]; done) | (simp_all [dcd_eq, Nat.not_lt_of_le, List.erase_of_not_mem, listS, wordS, applyS, Mem.abs, getI_map, Answer.abs, an0, changeL, List.map_set, erase_idx, mkRes]; done) | (simp_all [dcd_eq, Nat.not_lt_of_le, List.erase_of_not_mem, listS, wordS, applyS, Mem.abs, getI_map, Answer.abs, an0, changeL, List.map_set, erase_idx, mkRes]; omega)⟩)
    · intro h6
      have h6 := dcd_f (h6)
      refine Cw_skip ?_
      refine Cw_seq ?_
      refine Cw_seq ?_
      refine Cw_region ?_
      refine Ow_q rfl rfl rfl (Qt_loadA (m := 3) (cs := Mem.cells m) rfl rfl rfl rfl ⟨rfl, Rdc.blk (.tail _ (.tail _ (.tail _ (.head _)))) rfl⟩) ?_
      refine Ow_q rfl rfl rfl (Qt_fieldAddr (m := 1) rfl rfl rfl rfl rfl) ?_
      refine Ow_q rfl rfl rfl (Qt_load1 (v := (.int .i64 a.address)) rfl rfl rfl (Rdc.blk (.tail _ (.tail _ (.head _))) rfl)) ?_
      rcases hg111 : getI m.words.l a.address with _ | w110
      · skip
        have hb112 := getI_not hg111
        refine Ow_cons rfl (OpW_callP (v0 := (.bool false)) rfl Try.call58 rfl rfl (c_wordR m a.address none hg111 _ _ hm) ?_)
        refine Ow_q rfl rfl rfl (Qt_not rfl) ?_
        refine Ow_nil ?_
        refine Cw_cond_t rfl ?_
        refine Cw_seq ?_
        refine Cw_region ?_
        refine Ow_q rfl rfl rfl (Qt_loadA (m := 3) (cs := Mem.cells m) rfl rfl rfl rfl ⟨rfl, Rdc.blk (.tail _ (.tail _ (.tail _ (.head _)))) rfl⟩) ?_
        refine Ow_q rfl rfl rfl (Qt_build (cs := Answer.cells (Answer.mk 0 false false (SI.mk none 0 []))) rfl rfl rfl rfl rfl rfl) ?_
        refine Ow_cons rfl (OpW_store (vs := [(.slice m.words.A m.words.l.length m.words.cp), (.slice m.lists.A m.lists.l.length m.lists.cp), (.int .i64 m.tick)]) (all' := [(.slice m.words.A m.words.l.length m.words.cp), (.slice m.lists.A m.lists.l.length m.lists.cp), (.int .i64 m.tick)]) rfl rfl rfl rfl rfl (.there .here) rfl rfl rfl ?_)
        refine Ow_cons rfl (OpW_store (vs := [(.int .u64 0), (.bool false), (.bool false), (.slice none 0 0)]) (all' := [(.int .u64 0), (.bool false), (.bool false), (.slice none 0 0)]) rfl rfl rfl rfl rfl .here rfl rfl rfl ?_)
        refine Ow_q rfl rfl rfl (Qt_assign rfl) ?_
        refine Ow_nil ?_
        refine Cw_ret ?_
        refine ⟨(by first | exact .inl rfl | exact .inr rfl), [(Mem.val m), (Answer.val (Answer.mk 0 false false (SI.mk none 0 []))), (.bool true)], G, ⟨(Mem.val m), _, rfl, ⟨_, 3, Mem.cells m, rfl, rfl, rfl, rfl, ⟨rfl, Rdc.blk (.tail _ (.head _)) rfl⟩, rfl⟩, ⟨(Answer.val (Answer.mk 0 false false (SI.mk none 0 []))), _, rfl, ⟨_, 4, Answer.cells (Answer.mk 0 false false (SI.mk none 0 [])), rfl, rfl, rfl, rfl, ⟨rfl, Rdc.blk (.head _) rfl⟩, rfl⟩, ⟨(.bool true), _, rfl, rfl, rfl⟩⟩⟩, .cons _ (.cons _ (.cons _ (.cons _ (.refl _)))), ?_⟩
        exact ⟨m, (Answer.mk 0 false false (SI.mk none 0 [])), (by simp [mkRes, *]), rfl, hm, ⟨(Sl.nil _ _)⟩, by first | (exfalso; omega) | (simp [dcd_eq, Nat.not_lt_of_le, List.erase_of_not_mem, listS, wordS, applyS, Mem.abs, getI_map, Answer.abs, an0, changeL, List.map_set, erase_idx, mkRes, *]; done) | (simp_all [dcd_eq, Nat.not_lt_of_le, List.erase_of_not_mem, listS, wordS, applyS, Mem.abs, getI_map, Answer.abs, an0, changeL, List.map_set, erase_idx, mkRes]; done) | (simp_all [dcd_eq, Nat.not_lt_of_le, List.erase_of_not_mem, listS, wordS, applyS, Mem.abs, getI_map, Answer.abs, an0, changeL, List.map_set, erase_idx, mkRes]; omega)⟩
      · skip
        have hb112 := getI_get hg111
        have hx113 := hb112.2.2
        have hb112 : 0 ≤ a.address ∧ a.address < ((m.words.l.length : Nat) : Int) := ⟨hb112.1, hb112.2.1⟩
        refine Ow_cons rfl (OpW_callP (v0 := (.bool true)) rfl Try.call58 rfl rfl (c_wordR m a.address (some w110) hg111 _ _ hm) ?_)
        refine Ow_q rfl rfl rfl (Qt_not rfl) ?_
        refine Ow_nil ?_
        refine Cw_cond_f rfl ?_
        refine Cw_skip ?_
        refine Cw_seq ?_
        refine Cw_region ?_
        refine Ow_q rfl rfl rfl (Qt_fieldAddr (m := 0) rfl rfl rfl rfl rfl) ?_
        refine Ow_q rfl rfl rfl (Qt_load1 (v := (.slice m.words.A m.words.l.length m.words.cp)) rfl rfl rfl (Rdc.blk (.tail _ (.tail _ (.tail _ (.head _)))) rfl)) ?_
        refine Ow_q rfl rfl rfl (Qt_fieldAddr (m := 1) rfl rfl rfl rfl rfl) ?_
        refine Ow_q rfl rfl rfl (Qt_load1 (v := (.int .i64 a.address)) rfl rfl rfl (Rdc.blk (.tail _ (.tail _ (.head _))) rfl)) ?_
        refine Ow_q rfl rfl rfl (Qt_ixK (q := (a.address).toNat) rfl rfl rfl rfl rfl hm.w (by omega) (map_get hx113)) ?_
        refine Ow_q rfl rfl rfl (Qt_load1 (v := (.int .u64 w110)) rfl rfl rfl (Rdc.k (Sl.at hm.w (map_get hx113)) rfl)) ?_
        refine Ow_q rfl rfl rfl (Qt_assign rfl) ?_
        refine Ow_nil ?_
        refine Cw_seq ?_
        refine Cw_seq ?_
        refine Cw_region ?_
        refine Ow_q rfl rfl rfl (Qt_fieldAddr (m := 0) rfl rfl rfl rfl rfl) ?_
        refine Ow_q rfl rfl rfl (Qt_load1 (v := (.int .i64 a.kind)) rfl rfl rfl (Rdc.blk (.tail _ (.tail _ (.head _))) rfl)) ?_
        refine Ow_nil ?_
        refine Cw_block ?_
        refine Cw_seq ?_
        refine Cw_seq ?_
        refine Cw_region ?_
        refine Ow_q rfl rfl rfl (Qt_cmp rfl rfl rfl) ?_
        refine Ow_q rfl rfl rfl (Qt_assign rfl) ?_
        refine Ow_nil ?_
        refine Cw_cond rfl ?_ ?_
        · intro h114
          have h114 := dcd_t (h114)
          refine Cw_skip ?_
          refine Cw_cond_kt rfl (dcd_pos h114) ?_
          refine Cw_seq ?_
          refine Cw_region ?_
          refine Ow_q rfl rfl rfl (Qt_loadA (m := 3) (cs := Mem.cells m) rfl rfl rfl rfl ⟨rfl, Rdc.blk (.tail _ (.tail _ (.tail _ (.head _)))) rfl⟩) ?_
          refine Ow_q rfl rfl rfl (Qt_fieldAddr (m := 1) rfl rfl rfl rfl rfl) ?_
          refine Ow_q rfl rfl rfl (Qt_load1 (v := (.int .i64 a.address)) rfl rfl rfl (Rdc.blk (.tail _ (.tail _ (.head _))) rfl)) ?_
          refine Ow_q rfl rfl rfl (Qt_fieldAddr (m := 3) rfl rfl rfl rfl rfl) ?_
          refine Ow_q rfl rfl rfl (Qt_load1 (v := (.int .u64 a.new)) rfl rfl rfl (Rdc.blk (.tail _ (.tail _ (.head _))) rfl)) ?_
          refine Ow_cons rfl (OpW_call rfl Try.call59 rfl rfl (c_set m a.address a.new (by first | omega | (simp only [List.length_append, List.length_cons, List.length_nil, List.length_replicate, List.length_set]; omega) | (simp; omega)) _ _ hm) ?_)
          rintro _ K116 _ hK117 ⟨m115, rfl, rfl, hm118, he119⟩
          have hs120 := hm.mono hK117
          have hm118w := Sl.le hm118.w
          have hm118l := Sl.le hm118.l
          have hm118zw := hm118.zw
          have hm118zl := hm118.zl
          refine Ow_q rfl rfl rfl (Qt_build (cs := Answer.cells (Answer.mk 0 false false (SI.mk none 0 []))) rfl rfl rfl rfl rfl rfl) ?_
          refine Ow_cons rfl (OpW_store (vs := [(.slice m115.words.A m115.words.l.length m115.words.cp), (.slice m115.lists.A m115.lists.l.length m115.lists.cp), (.int .i64 m115.tick)]) (all' := [(.slice m115.words.A m115.words.l.length m115.words.cp), (.slice m115.lists.A m115.lists.l.length m115.lists.cp), (.int .i64 m115.tick)]) rfl rfl rfl rfl rfl (.there .here) rfl rfl rfl ?_)
          refine Ow_cons rfl (OpW_store (vs := [(.int .u64 0), (.bool false), (.bool false), (.slice none 0 0)]) (all' := [(.int .u64 0), (.bool false), (.bool false), (.slice none 0 0)]) rfl rfl rfl rfl rfl .here rfl rfl rfl ?_)
          refine Ow_q rfl rfl rfl (Qt_assign rfl) ?_
          refine Ow_nil ?_
          refine Cw_ret ?_
          refine ⟨(by first | exact .inl rfl | exact .inr rfl), [(Mem.val m115), (Answer.val (Answer.mk 0 false false (SI.mk none 0 []))), (.bool true)], G, ⟨(Mem.val m115), _, rfl, ⟨_, 3, Mem.cells m115, rfl, rfl, rfl, rfl, ⟨rfl, Rdc.blk (.tail _ (.head _)) rfl⟩, rfl⟩, ⟨(Answer.val (Answer.mk 0 false false (SI.mk none 0 []))), _, rfl, ⟨_, 4, Answer.cells (Answer.mk 0 false false (SI.mk none 0 [])), rfl, rfl, rfl, rfl, ⟨rfl, Rdc.blk (.head _) rfl⟩, rfl⟩, ⟨(.bool true), _, rfl, rfl, rfl⟩⟩⟩, .cons _ (.cons _ (.cons _ (.cons _ (.refl _)))), ?_⟩
          exact ⟨m115, (Answer.mk 0 false false (SI.mk none 0 [])), (by simp [mkRes, *]), rfl, hm118, ⟨(Sl.nil _ _)⟩, by first | (exfalso; omega) | (simp [dcd_eq, Nat.not_lt_of_le, List.erase_of_not_mem, listS, wordS, applyS, Mem.abs, getI_map, Answer.abs, an0, changeL, List.map_set, erase_idx, mkRes, *]; done) | (simp_all [dcd_eq, Nat.not_lt_of_le, List.erase_of_not_mem, listS, wordS, applyS, Mem.abs, getI_map, Answer.abs, an0, changeL, List.map_set, erase_idx, mkRes]; done) | (simp_all [dcd_eq, Nat.not_lt_of_le, List.erase_of_not_mem, listS, wordS, applyS, Mem.abs, getI_map, Answer.abs, an0, changeL, List.map_set, erase_idx, mkRes]; omega)⟩
        · intro h114
          have h114 := dcd_f (h114)
          refine Cw_region ?_
          refine Ow_q rfl rfl rfl (Qt_cmp rfl rfl rfl) ?_
          refine Ow_q rfl rfl rfl (Qt_assign rfl) ?_
          refine Ow_nil ?_
          refine Cw_cond rfl ?_ ?_
          · intro h121
            have h121 := dcd_t (h121)
            refine Cw_seq ?_
            refine Cw_region ?_
            refine Ow_q rfl rfl rfl (Qt_loadA (m := 3) (cs := Mem.cells m) rfl rfl rfl rfl ⟨rfl, Rdc.blk (.tail _ (.tail _ (.tail _ (.head _)))) rfl⟩) ?_
            refine Ow_q rfl rfl rfl (Qt_fieldAddr (m := 1) rfl rfl rfl rfl rfl) ?_
            refine Ow_q rfl rfl rfl (Qt_load1 (v := (.int .i64 a.address)) rfl rfl rfl (Rdc.blk (.tail _ (.tail _ (.head _))) rfl)) ?_
            refine Ow_q rfl rfl rfl (Qt_fieldAddr (m := 3) rfl rfl rfl rfl rfl) ?_
            refine Ow_q rfl rfl rfl (Qt_load1 (v := (.int .u64 a.new)) rfl rfl rfl (Rdc.blk (.tail _ (.tail _ (.head _))) rfl)) ?_
            refine Ow_cons rfl (OpW_call rfl Try.call59 rfl rfl (c_set m a.address a.new (by first | omega | (simp only [List.length_append, List.length_cons, List.length_nil, List.length_replicate, List.length_set]; omega) | (simp; omega)) _ _ hm) ?_)
            rintro _ K123 _ hK124 ⟨m122, rfl, rfl, hm125, he126⟩
            have hs127 := hm.mono hK124
            have hm125w := Sl.le hm125.w
            have hm125l := Sl.le hm125.l
            have hm125zw := hm125.zw
            have hm125zl := hm125.zl
            refine Ow_q rfl rfl rfl (Qt_build (cs := Answer.cells (Answer.mk 0 false false (SI.mk none 0 []))) rfl rfl rfl rfl rfl rfl) ?_
            refine Ow_cons rfl (OpW_store (vs := [(.slice m122.words.A m122.words.l.length m122.words.cp), (.slice m122.lists.A m122.lists.l.length m122.lists.cp), (.int .i64 m122.tick)]) (all' := [(.slice m122.words.A m122.words.l.length m122.words.cp), (.slice m122.lists.A m122.lists.l.length m122.lists.cp), (.int .i64 m122.tick)]) rfl rfl rfl rfl rfl (.there .here) rfl rfl rfl ?_)
            refine Ow_cons rfl (OpW_store (vs := [(.int .u64 0), (.bool false), (.bool false), (.slice none 0 0)]) (all' := [(.int .u64 0), (.bool false), (.bool false), (.slice none 0 0)]) rfl rfl rfl rfl rfl .here rfl rfl rfl ?_)
            refine Ow_q rfl rfl rfl (Qt_assign rfl) ?_
            refine Ow_nil ?_
            refine Cw_ret ?_
            refine ⟨(by first | exact .inl rfl | exact .inr rfl), [(Mem.val m122), (Answer.val (Answer.mk 0 false false (SI.mk none 0 []))), (.bool true)], G, ⟨(Mem.val m122), _, rfl, ⟨_, 3, Mem.cells m122, rfl, rfl, rfl, rfl, ⟨rfl, Rdc.blk (.tail _ (.head _)) rfl⟩, rfl⟩, ⟨(Answer.val (Answer.mk 0 false false (SI.mk none 0 []))), _, rfl, ⟨_, 4, Answer.cells (Answer.mk 0 false false (SI.mk none 0 [])), rfl, rfl, rfl, rfl, ⟨rfl, Rdc.blk (.head _) rfl⟩, rfl⟩, ⟨(.bool true), _, rfl, rfl, rfl⟩⟩⟩, .cons _ (.cons _ (.cons _ (.cons _ (.refl _)))), ?_⟩
            exact ⟨m122, (Answer.mk 0 false false (SI.mk none 0 [])), (by simp [mkRes, *]), rfl, hm125, ⟨(Sl.nil _ _)⟩, by first | (exfalso; omega) | (simp [dcd_eq, Nat.not_lt_of_le, List.erase_of_not_mem, listS, wordS, applyS, Mem.abs, getI_map, Answer.abs, an0, changeL, List.map_set, erase_idx, mkRes, *]; done) | (simp_all [dcd_eq, Nat.not_lt_of_le, List.erase_of_not_mem, listS, wordS, applyS, Mem.abs, getI_map, Answer.abs, an0, changeL, List.map_set, erase_idx, mkRes]; done) | (simp_all [dcd_eq, Nat.not_lt_of_le, List.erase_of_not_mem, listS, wordS, applyS, Mem.abs, getI_map, Answer.abs, an0, changeL, List.map_set, erase_idx, mkRes]; omega)⟩
          · intro h121
            have h121 := dcd_f (h121)
            refine Cw_seq ?_
            refine Cw_region ?_
            refine Ow_q rfl rfl rfl (Qt_cmp rfl rfl rfl) ?_
            refine Ow_q rfl rfl rfl (Qt_assign rfl) ?_
            refine Ow_nil ?_
            refine Cw_cond rfl ?_ ?_
            · intro h128
              have h128 := dcd_t (h128)
              refine Cw_seq ?_
              refine Cw_seq ?_
              refine Cw_region ?_
              refine Ow_q rfl rfl rfl (Qt_move rfl) ?_
              refine Ow_q rfl rfl rfl (Qt_fieldAddr (m := 2) rfl rfl rfl rfl rfl) ?_
              refine Ow_q rfl rfl rfl (Qt_load1 (v := (.int .u64 a.old)) rfl rfl rfl (Rdc.blk (.tail _ (.tail _ (.head _))) rfl)) ?_
              refine Ow_q rfl rfl rfl (Qt_cmp rfl rfl rfl) ?_
              refine Ow_nil ?_
              refine Cw_cond rfl ?_ ?_
              · intro h129
                have h129 := dcd_f (nt_t (h129))
                refine Cw_seq ?_
                refine Cw_region ?_
                refine Ow_q rfl rfl rfl (Qt_loadA (m := 3) (cs := Mem.cells m) rfl rfl rfl rfl ⟨rfl, Rdc.blk (.tail _ (.tail _ (.tail _ (.head _)))) rfl⟩) ?_
                refine Ow_q rfl rfl rfl (Qt_move rfl) ?_
                refine Ow_q rfl rfl rfl (Qt_build (cs := Answer.cells (Answer.mk w110 false false (SI.mk none 0 []))) rfl rfl rfl rfl rfl rfl) ?_
                refine Ow_cons rfl (OpW_store (vs := [(.slice m.words.A m.words.l.length m.words.cp), (.slice m.lists.A m.lists.l.length m.lists.cp), (.int .i64 m.tick)]) (all' := [(.slice m.words.A m.words.l.length m.words.cp), (.slice m.lists.A m.lists.l.length m.lists.cp), (.int .i64 m.tick)]) rfl rfl rfl rfl rfl (.there .here) rfl rfl rfl ?_)
                refine Ow_cons rfl (OpW_store (vs := [(.int .u64 w110), (.bool false), (.bool false), (.slice none 0 0)]) (all' := [(.int .u64 w110), (.bool false), (.bool false), (.slice none 0 0)]) rfl rfl rfl rfl rfl .here rfl rfl rfl ?_)
                refine Ow_q rfl rfl rfl (Qt_assign rfl) ?_
                refine Ow_nil ?_
                refine Cw_ret ?_
                refine ⟨(by first | exact .inl rfl | exact .inr rfl), [(Mem.val m), (Answer.val (Answer.mk w110 false false (SI.mk none 0 []))), (.bool true)], G, ⟨(Mem.val m), _, rfl, ⟨_, 3, Mem.cells m, rfl, rfl, rfl, rfl, ⟨rfl, Rdc.blk (.tail _ (.head _)) rfl⟩, rfl⟩, ⟨(Answer.val (Answer.mk w110 false false (SI.mk none 0 []))), _, rfl, ⟨_, 4, Answer.cells (Answer.mk w110 false false (SI.mk none 0 [])), rfl, rfl, rfl, rfl, ⟨rfl, Rdc.blk (.head _) rfl⟩, rfl⟩, ⟨(.bool true), _, rfl, rfl, rfl⟩⟩⟩, .cons _ (.cons _ (.cons _ (.cons _ (.refl _)))), ?_⟩
                exact ⟨m, (Answer.mk w110 false false (SI.mk none 0 [])), (by simp [mkRes, *]), rfl, hm, ⟨(Sl.nil _ _)⟩, by first | (exfalso; omega) | (simp [dcd_eq, Nat.not_lt_of_le, List.erase_of_not_mem, listS, wordS, applyS, Mem.abs, getI_map, Answer.abs, an0, changeL, List.map_set, erase_idx, mkRes, *]; done) | (simp_all [dcd_eq, Nat.not_lt_of_le, List.erase_of_not_mem, listS, wordS, applyS, Mem.abs, getI_map, Answer.abs, an0, changeL, List.map_set, erase_idx, mkRes]; done) | (simp_all [dcd_eq, Nat.not_lt_of_le, List.erase_of_not_mem, listS, wordS, applyS, Mem.abs, getI_map, Answer.abs, an0, changeL, List.map_set, erase_idx, mkRes]; omega)⟩
              · intro h129
                have h129 := dcd_t (nt_f (h129))
                refine Cw_skip ?_
                refine Cw_seq ?_
                refine Cw_region ?_
                refine Ow_q rfl rfl rfl (Qt_loadA (m := 3) (cs := Mem.cells m) rfl rfl rfl rfl ⟨rfl, Rdc.blk (.tail _ (.tail _ (.tail _ (.head _)))) rfl⟩) ?_
                refine Ow_q rfl rfl rfl (Qt_fieldAddr (m := 1) rfl rfl rfl rfl rfl) ?_
                refine Ow_q rfl rfl rfl (Qt_load1 (v := (.int .i64 a.address)) rfl rfl rfl (Rdc.blk (.tail _ (.tail _ (.head _))) rfl)) ?_
                refine Ow_q rfl rfl rfl (Qt_fieldAddr (m := 3) rfl rfl rfl rfl rfl) ?_
                refine Ow_q rfl rfl rfl (Qt_load1 (v := (.int .u64 a.new)) rfl rfl rfl (Rdc.blk (.tail _ (.tail _ (.head _))) rfl)) ?_
                refine Ow_cons rfl (OpW_call rfl Try.call59 rfl rfl (c_set m a.address a.new (by first | omega | (simp only [List.length_append, List.length_cons, List.length_nil, List.length_replicate, List.length_set]; omega) | (simp; omega)) _ _ hm) ?_)
                rintro _ K131 _ hK132 ⟨m130, rfl, rfl, hm133, he134⟩
                have hs135 := hm.mono hK132
                have hm133w := Sl.le hm133.w
                have hm133l := Sl.le hm133.l
                have hm133zw := hm133.zw
                have hm133zl := hm133.zl
                refine Ow_q rfl rfl rfl (Qt_move rfl) ?_
                refine Ow_q rfl rfl rfl (Qt_build (cs := Answer.cells (Answer.mk w110 true false (SI.mk none 0 []))) rfl rfl rfl rfl rfl rfl) ?_
                refine Ow_cons rfl (OpW_store (vs := [(.slice m130.words.A m130.words.l.length m130.words.cp), (.slice m130.lists.A m130.lists.l.length m130.lists.cp), (.int .i64 m130.tick)]) (all' := [(.slice m130.words.A m130.words.l.length m130.words.cp), (.slice m130.lists.A m130.lists.l.length m130.lists.cp), (.int .i64 m130.tick)]) rfl rfl rfl rfl rfl (.there .here) rfl rfl rfl ?_)
                refine Ow_cons rfl (OpW_store (vs := [(.int .u64 w110), (.bool true), (.bool false), (.slice none 0 0)]) (all' := [(.int .u64 w110), (.bool true), (.bool false), (.slice none 0 0)]) rfl rfl rfl rfl rfl .here rfl rfl rfl ?_)
                refine Ow_q rfl rfl rfl (Qt_assign rfl) ?_
                refine Ow_nil ?_
                refine Cw_ret ?_
                refine ⟨(by first | exact .inl rfl | exact .inr rfl), [(Mem.val m130), (Answer.val (Answer.mk w110 true false (SI.mk none 0 []))), (.bool true)], G, ⟨(Mem.val m130), _, rfl, ⟨_, 3, Mem.cells m130, rfl, rfl, rfl, rfl, ⟨rfl, Rdc.blk (.tail _ (.head _)) rfl⟩, rfl⟩, ⟨(Answer.val (Answer.mk w110 true false (SI.mk none 0 []))), _, rfl, ⟨_, 4, Answer.cells (Answer.mk w110 true false (SI.mk none 0 [])), rfl, rfl, rfl, rfl, ⟨rfl, Rdc.blk (.head _) rfl⟩, rfl⟩, ⟨(.bool true), _, rfl, rfl, rfl⟩⟩⟩, .cons _ (.cons _ (.cons _ (.cons _ (.refl _)))), ?_⟩
                exact ⟨m130, (Answer.mk w110 true false (SI.mk none 0 [])), (by simp [mkRes, *]), rfl, hm133, ⟨(Sl.nil _ _)⟩, by first | (exfalso; omega) | (simp [dcd_eq, Nat.not_lt_of_le, List.erase_of_not_mem, listS, wordS, applyS, Mem.abs, getI_map, Answer.abs, an0, changeL, List.map_set, erase_idx, mkRes, *]; done) | (simp_all [dcd_eq, Nat.not_lt_of_le, List.erase_of_not_mem, listS, wordS, applyS, Mem.abs, getI_map, Answer.abs, an0, changeL, List.map_set, erase_idx, mkRes]; done) | (simp_all [dcd_eq, Nat.not_lt_of_le, List.erase_of_not_mem, listS, wordS, applyS, Mem.abs, getI_map, Answer.abs, an0, changeL, List.map_set, erase_idx, mkRes]; omega)⟩
            · intro h128
              have h128 := dcd_f (h128)
              refine Cw_seq ?_
              refine Cw_region ?_
              refine Ow_q rfl rfl rfl (Qt_cmp rfl rfl rfl) ?_
              refine Ow_q rfl rfl rfl (Qt_assign rfl) ?_
              refine Ow_nil ?_
              refine Cw_cond rfl ?_ ?_
              · intro h136
                have h136 := dcd_t (h136)
                refine Cw_seq ?_
                refine Cw_region_any [.blk b2 24 [(.int .i64 a.kind), (.int .i64 a.address), (.int .u64 a.old), (.int .u64 a.new), (.int .i64 a.until_)], .blk b1 49 [(.slice m.words.A m.words.l.length m.words.cp), (.slice m.lists.A m.lists.l.length m.lists.cp), (.int .i64 m.tick)]] rfl (Inc.cons (.tail _ (.tail _ (.head _))) (Inc.cons (.tail _ (.tail _ (.tail _ (.head _)))) Inc.nil)) ?_
                refine Aw_q 0 rfl (by kernel_rfl) (by kernel_rfl) (by kernel_rfl) rfl rfl rfl (Qt_loadA (m := 3) (cs := Mem.cells m) rfl rfl rfl rfl ⟨rfl, Rdc.blk (.tail _ (.head _)) rfl⟩) ?_
                refine Aw_q 1 rfl (by kernel_rfl) (by kernel_rfl) (by kernel_rfl) rfl rfl rfl (Qt_move rfl) ?_
                refine Aw_q 2 rfl (by kernel_rfl) (by kernel_rfl) (by kernel_rfl) rfl rfl rfl (Qt_move rfl) ?_
                refine Aw_q 3 rfl (by kernel_rfl) (by kernel_rfl) (by kernel_rfl) rfl rfl rfl (Qt_fieldAddr (m := 2) rfl rfl rfl rfl rfl) ?_
                refine Aw_q 4 rfl (by kernel_rfl) (by kernel_rfl) (by kernel_rfl) rfl rfl rfl (Qt_load1 (v := (.int .u64 a.old)) rfl rfl rfl (Rdc.blk (.head _) rfl)) ?_
                refine Aw_q 5 rfl (by kernel_rfl) (by kernel_rfl) (by kernel_rfl) rfl rfl rfl (Qt_cmp rfl rfl rfl) ?_
                refine Aw_q 6 rfl (by kernel_rfl) (by kernel_rfl) (by kernel_rfl) rfl rfl rfl (Qt_build (cs := Answer.cells (Answer.mk w110 false (dcd (w110 = a.old)) (SI.mk none 0 []))) rfl rfl rfl rfl rfl rfl) ?_
                refine Aw_one 7 (by kernel_rfl) (Ax_mk rfl rfl (OpW_store (vs := [(.slice m.words.A m.words.l.length m.words.cp), (.slice m.lists.A m.lists.l.length m.lists.cp), (.int .i64 m.tick)]) (all' := [(.slice m.words.A m.words.l.length m.words.cp), (.slice m.lists.A m.lists.l.length m.lists.cp), (.int .i64 m.tick)]) rfl rfl rfl rfl rfl (.there .here) rfl rfl rfl ⟨(Inc.cons (.tail _ (.tail _ (.head _))) (Inc.cons (.tail _ (.tail _ (.tail _ (.head _)))) Inc.nil)), ?_⟩))
                refine Aw_one 8 (by kernel_rfl) (Ax_mk rfl rfl (OpW_store (vs := [(.int .u64 w110), (.bool false), (.bool (dcd (w110 = a.old))), (.slice none 0 0)]) (all' := [(.int .u64 w110), (.bool false), (.bool (dcd (w110 = a.old))), (.slice none 0 0)]) rfl rfl rfl rfl rfl .here rfl rfl rfl ⟨(Inc.cons (.tail _ (.tail _ (.head _))) (Inc.cons (.tail _ (.tail _ (.tail _ (.head _)))) Inc.nil)), ?_⟩))
                refine Aw_q 9 rfl (by kernel_rfl) (by kernel_rfl) (by kernel_rfl) rfl rfl rfl (Qt_assign rfl) ?_
                refine Aw_done (by kernel_rfl) ?_
                refine Cw_ret ?_
                refine ⟨(by first | exact .inl rfl | exact .inr rfl), [(Mem.val m), (Answer.val (Answer.mk w110 false (dcd (w110 = a.old)) (SI.mk none 0 []))), (.bool true)], G, ⟨(Mem.val m), _, rfl, ⟨_, 3, Mem.cells m, rfl, rfl, rfl, rfl, ⟨rfl, Rdc.blk (.tail _ (.head _)) rfl⟩, rfl⟩, ⟨(Answer.val (Answer.mk w110 false (dcd (w110 = a.old)) (SI.mk none 0 []))), _, rfl, ⟨_, 4, Answer.cells (Answer.mk w110 false (dcd (w110 = a.old)) (SI.mk none 0 [])), rfl, rfl, rfl, rfl, ⟨rfl, Rdc.blk (.head _) rfl⟩, rfl⟩, ⟨(.bool true), _, rfl, rfl, rfl⟩⟩⟩, .cons _ (.cons _ (.cons _ (.cons _ (.refl _)))), ?_⟩
                exact ⟨m, (Answer.mk w110 false (dcd (w110 = a.old)) (SI.mk none 0 [])), (by simp [mkRes, *]), rfl, hm, ⟨(Sl.nil _ _)⟩, by first | (exfalso; omega) | (simp [dcd_eq, Nat.not_lt_of_le, List.erase_of_not_mem, listS, wordS, applyS, Mem.abs, getI_map, Answer.abs, an0, changeL, List.map_set, erase_idx, mkRes, *]; done) | (simp_all [dcd_eq, Nat.not_lt_of_le, List.erase_of_not_mem, listS, wordS, applyS, Mem.abs, getI_map, Answer.abs, an0, changeL, List.map_set, erase_idx, mkRes]; done) | (simp_all [dcd_eq, Nat.not_lt_of_le, List.erase_of_not_mem, listS, wordS, applyS, Mem.abs, getI_map, Answer.abs, an0, changeL, List.map_set, erase_idx, mkRes]; omega)⟩
              · intro h136
                have h136 := dcd_f (h136)
                refine Cw_skip ?_
                refine Cw_seq ?_
                refine Cw_region ?_
                refine Ow_q rfl rfl rfl (Qt_loadA (m := 3) (cs := Mem.cells m) rfl rfl rfl rfl ⟨rfl, Rdc.blk (.tail _ (.tail _ (.tail _ (.head _)))) rfl⟩) ?_
                refine Ow_q rfl rfl rfl (Qt_move rfl) ?_
                refine Ow_q rfl rfl rfl (Qt_build (cs := Answer.cells (Answer.mk w110 false false (SI.mk none 0 []))) rfl rfl rfl rfl rfl rfl) ?_
                refine Ow_cons rfl (OpW_store (vs := [(.slice m.words.A m.words.l.length m.words.cp), (.slice m.lists.A m.lists.l.length m.lists.cp), (.int .i64 m.tick)]) (all' := [(.slice m.words.A m.words.l.length m.words.cp), (.slice m.lists.A m.lists.l.length m.lists.cp), (.int .i64 m.tick)]) rfl rfl rfl rfl rfl (.there .here) rfl rfl rfl ?_)
                refine Ow_cons rfl (OpW_store (vs := [(.int .u64 w110), (.bool false), (.bool false), (.slice none 0 0)]) (all' := [(.int .u64 w110), (.bool false), (.bool false), (.slice none 0 0)]) rfl rfl rfl rfl rfl .here rfl rfl rfl ?_)
                refine Ow_q rfl rfl rfl (Qt_assign rfl) ?_
                refine Ow_nil ?_
                refine Cw_ret ?_
                refine ⟨(by first | exact .inl rfl | exact .inr rfl), [(Mem.val m), (Answer.val (Answer.mk w110 false false (SI.mk none 0 []))), (.bool true)], G, ⟨(Mem.val m), _, rfl, ⟨_, 3, Mem.cells m, rfl, rfl, rfl, rfl, ⟨rfl, Rdc.blk (.tail _ (.head _)) rfl⟩, rfl⟩, ⟨(Answer.val (Answer.mk w110 false false (SI.mk none 0 []))), _, rfl, ⟨_, 4, Answer.cells (Answer.mk w110 false false (SI.mk none 0 [])), rfl, rfl, rfl, rfl, ⟨rfl, Rdc.blk (.head _) rfl⟩, rfl⟩, ⟨(.bool true), _, rfl, rfl, rfl⟩⟩⟩, .cons _ (.cons _ (.cons _ (.cons _ (.refl _)))), ?_⟩
                exact ⟨m, (Answer.mk w110 false false (SI.mk none 0 [])), (by simp [mkRes, *]), rfl, hm, ⟨(Sl.nil _ _)⟩, by first | (exfalso; omega) | (simp [dcd_eq, Nat.not_lt_of_le, List.erase_of_not_mem, listS, wordS, applyS, Mem.abs, getI_map, Answer.abs, an0, changeL, List.map_set, erase_idx, mkRes, *]; done) | (simp_all [dcd_eq, Nat.not_lt_of_le, List.erase_of_not_mem, listS, wordS, applyS, Mem.abs, getI_map, Answer.abs, an0, changeL, List.map_set, erase_idx, mkRes]; done) | (simp_all [dcd_eq, Nat.not_lt_of_le, List.erase_of_not_mem, listS, wordS, applyS, Mem.abs, getI_map, Answer.abs, an0, changeL, List.map_set, erase_idx, mkRes]; omega)⟩

end Go.Ghl
