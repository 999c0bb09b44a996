/- Contracts of functions, walked: printed by program. -/
import Derived.Test.YtgkmiemclhaahaaProg
import Derived.Test.YtgkmiemclhaahaaGhlMore
import Derived.Test.YtgkmiemclhaahaaSAAw4
namespace Go.Ghl
open Go.Proofs
set_option linter.unusedSimpArgs false
set_option linter.unusedVariables false

set_option maxHeartbeats 4000000 in
theorem c_memoryWaits (word old tick until_ : Int) (same : Bool) (hu : -9223372036854775808 ≤ until_ ∧ until_ ≤ 9223372036854775807) (K : Kp) (G : List Ent)  :
    Fc Try.prog 7 #[(.int .u64 word), (.int .u64 old), (.int .i64 tick), (.int .i64 until_), (.bool same)] K G (fun v K' G' => v = .bool true) := by
  refine Fc_of Try.func7 rfl Try.ntmps7 Try.results7 rfl ?_
  refine Cw_seq ?_
  refine Cw_region ?_
  refine Ow_q rfl rfl rfl (Qt_assign rfl) ?_
  refine Ow_nil ?_
  refine Cw_seq ?_
  refine Cw_seq ?_
  refine Cw_region ?_
  refine Ow_cons rfl (OpW_call rfl Try.call30 rfl rfl (c_awake4 _ _) ?_)
  rintro _ K1 _ hK2 ⟨rfl, rfl⟩
  refine Ow_q rfl rfl rfl (Qt_not rfl) ?_
  refine Ow_nil ?_
  refine Cw_cond_f rfl ?_
  refine Cw_skip ?_
  refine Cw_seq ?_
  refine Cw_region ?_
  refine Ow_q rfl rfl rfl (Qt_move rfl) ?_
  have hm3 : (0 : Int) < 1000 ∧ (1000 : Int) ≤ 9223372036854775807 := (by first | omega | (simp only [List.length_append, List.length_cons, List.length_nil, List.length_replicate, List.length_set]; omega) | (simp; omega))
  have he4 := Int.emod_nonneg tick (show (1000 : Int) ≠ 0 by omega)
  have he5 := Int.emod_lt_of_pos tick (show (0 : Int) < 1000 by omega)
  refine Ow_cons rfl (OpW_callP (v0 := (.int .i64 (tick % 1000))) rfl Try.call23 rfl rfl (c_mod tick 1000 hm3 _ _ trivial) ?_)
  refine Ow_q rfl rfl rfl (Qt_assign rfl) ?_
  refine Ow_nil ?_
  refine Cw_seq ?_
  refine Cw_seq ?_
  refine Cw_region ?_
  refine Ow_q rfl rfl rfl (Qt_move rfl) ?_
  refine Ow_nil ?_
  refine Cw_cond rfl ?_ ?_
  · intro h6
    refine Cw_region ?_
    refine Ow_q rfl rfl rfl (Qt_move rfl) ?_
    refine Ow_q rfl rfl rfl (Qt_assign rfl) ?_
    refine Ow_nil ?_
    refine Cw_seq ?_
    refine Cw_region ?_
    refine Ow_q rfl rfl rfl (Qt_move rfl) ?_
    refine Ow_cons rfl (OpW_buildSliceX (xs := (([word]).map u64c).flatten) rfl rfl rfl rfl rfl rfl rfl rfl rfl rfl rfl (fun a7 => ?_))
    refine Ow_q rfl rfl rfl (Qt_move rfl) ?_
    refine Ow_q rfl rfl rfl (Qt_build (cs := Mem.cells (Mem.mk (SI.mk (some a7) 1 [word]) (SS.mk none 0 []) (tick % 1000))) rfl rfl rfl rfl rfl rfl) ?_
    refine Ow_cons rfl (OpW_alloc (cs := [(.slice none 0 0), (.slice none 0 0), (.int .i64 0)]) rfl rfl rfl rfl (fun b8 => ?_))
    refine Ow_cons rfl (OpW_store (vs := [(.slice (some a7) 1 1), (.slice none 0 0), (.int .i64 (tick % 1000))]) (all' := [(.slice (some a7) 1 1), (.slice none 0 0), (.int .i64 (tick % 1000))]) rfl rfl rfl rfl rfl .here rfl rfl rfl ?_)
    refine Ow_nil ?_
    refine Cw_seq ?_
    refine Cw_seq ?_
    refine Cw_region ?_
    refine Ow_q rfl rfl rfl (Qt_move rfl) ?_
    refine Ow_q rfl rfl rfl (Qt_move rfl) ?_
    refine Ow_q rfl rfl rfl (Qt_move rfl) ?_
    refine Ow_q rfl rfl rfl (Qt_arith (e := (tick % 1000) + 1) rfl rfl rfl (IntWalk.i64_in _ (by omega))) ?_
    refine Ow_q rfl rfl rfl (Qt_move rfl) ?_
    refine Ow_q rfl rfl rfl (Qt_arith (e := (tick % 1000) + 2) rfl rfl rfl (IntWalk.i64_in _ (by omega))) ?_
    refine Ow_cons rfl (OpW_buildSliceX (xs := (([until_, (tick % 1000), (tick % 1000) + 1, (tick % 1000) + 2, 0]).map i64c).flatten) rfl rfl rfl rfl rfl rfl rfl rfl rfl rfl rfl (fun a9 => ?_))
    refine Ow_q rfl rfl rfl (Qt_len rfl rfl) ?_
    refine Ow_q rfl rfl rfl (Qt_move rfl) ?_
    refine Ow_nil ?_
    refine Cw_block ?_
    refine Cw.settleT Enc.i64 rfl (.here) ?_
    intro K10 hK11 hs12
    have hl13 := Sl.le hs12
    refine Cw.settleT Enc.u64 rfl (.there (.here)) ?_
    intro K14 hK15 hs16
    have hs17 := hs12.mono hK15
    have hl18 := Sl.le hs16
    have hall : ∀ x ∈ [until_, (tick % 1000), (tick % 1000) + 1, (tick % 1000) + 2, 0], -9223372036854775808 ≤ x ∧ x ≤ 9223372036854775807 := by intro x hx; simp at hx; omega
    refine Cw_loop (S := Nat) (fun s env' K' G' => ∃ (i : Nat), [until_, (tick % 1000), (tick % 1000) + 1, (tick % 1000) + 2, 0].length - i = s ∧ [(0, (.int .u64 word)), (1, (.int .u64 word)), (2, (.int .i64 (tick % 1000))), (3, (.int .i64 until_)), (11, (.pointer (some ((⟨b8, 0, none⟩ : Addr).add 0)))), (38, (.slice (some a9) 5 5)), (39, (.int .i64 5)), (40, (.int .i64 ((i : Nat) : Int)))] = env' ∧ .blk b8 49 [(.slice (some a7) 1 1), (.slice none 0 0), (.int .i64 (tick % 1000))] :: G = G' ∧ i ≤ [until_, (tick % 1000), (tick % 1000) + 1, (tick % 1000) + 2, 0].length) (fun s => s) ([until_, (tick % 1000), (tick % 1000) + 1, (tick % 1000) + 2, 0].length - 0) [(0, (.int .u64 word)), (1, (.int .u64 word)), (2, (.int .i64 (tick % 1000))), (3, (.int .i64 until_)), (11, (.pointer (some ((⟨b8, 0, none⟩ : Addr).add 0)))), (38, (.slice (some a9) 5 5)), (39, (.int .i64 5)), (40, (.int .i64 ((0 : Nat) : Int)))] (.blk b8 49 [(.slice (some a7) 1 1), (.slice none 0 0), (.int .i64 (tick % 1000))] :: G)
      ⟨0, rfl, rfl, rfl, (Nat.zero_le _)⟩ ⟨rfl, rfl, rfl, rfl, rfl, rfl, rfl, rfl, trivial⟩ (.cons_cons _ (.refl _)) ?_
    rintro s _ K19 _ hK20 ⟨i, rfl, rfl, rfl, hi⟩
    have hs21 := hs17.mono hK20
    have hs22 := hs16.mono hK20
    refine Cw_seq ?_
    refine Cw_region ?_
    refine Ow_q rfl rfl rfl (Qt_cmp rfl rfl rfl) ?_
    refine Ow_nil ?_
    refine Cw_seq ?_
    refine Cw_cond rfl ?_ ?_
    · intro h23
      have h23 := dcd_t (h23)
      refine Cw_skip ?_
      refine Cw_seq ?_
      refine Cw_block ?_
      refine Cw_seq ?_
      refine Cw_region ?_
      obtain ⟨x24, hx25⟩ : ∃ x, [until_, (tick % 1000), (tick % 1000) + 1, (tick % 1000) + 2, 0][i]? = some x := ⟨_, List.getElem?_eq_getElem (by first | omega | (simp only [List.length_append, List.length_cons, List.length_nil, List.length_replicate, List.length_set]; omega) | (simp; omega))⟩
      have hr := hall _ (List.mem_of_getElem? hx25)
      have hw1 := waits_iff (some a7) none 1 0 word word (tick % 1000) x24 (by omega)
      have hw2 := waits_app (some a7) none 1 0 word word (tick % 1000) x24
      have hw3 := waits_out (some a7) none 1 0 word word (tick % 1000) x24 (1 + until_ % 5) (by omega)
      refine Ow_q rfl rfl rfl (Qt_ixK (q := i) rfl rfl rfl rfl rfl hs21 rfl (map_get hx25)) ?_
      refine Ow_q rfl rfl rfl (Qt_load1 (v := (.int .i64 x24)) rfl rfl rfl (Rdc.k (Sl.at hs21 (map_get hx25)) rfl)) ?_
      refine Ow_q rfl rfl rfl (Qt_assign rfl) ?_
      refine Ow_nil ?_
      refine Cw_seq ?_
      refine Cw_region ?_
      refine Ow_q rfl rfl rfl (Qt_move rfl) ?_
      refine Ow_q rfl rfl rfl (Qt_move rfl) ?_
      refine Ow_q rfl rfl rfl (Qt_build (cs := Access.cells (Access.mk 4 0 word 0 x24)) rfl rfl rfl rfl rfl rfl) ?_
      refine Ow_cons rfl (OpW_alloc (cs := [(.int .i64 0), (.int .i64 0), (.int .u64 0), (.int .u64 0), (.int .i64 0)]) rfl rfl rfl rfl (fun b26 => ?_))
      refine Ow_cons rfl (OpW_store (vs := [(.int .i64 4), (.int .i64 0), (.int .u64 word), (.int .u64 0), (.int .i64 x24)]) (all' := [(.int .i64 4), (.int .i64 0), (.int .u64 word), (.int .u64 0), (.int .i64 x24)]) rfl rfl rfl rfl rfl .here rfl rfl rfl ?_)
      refine Ow_nil ?_
      refine Cw_seq ?_
      refine Cw_region ?_
      refine Ow_q rfl rfl rfl (Qt_move rfl) ?_
      refine Ow_q rfl rfl rfl (Qt_cmp rfl rfl rfl) ?_
      refine Ow_q rfl rfl rfl (Qt_move rfl) ?_
      refine Ow_caseG rfl rfl rfl ?_ ?_
      · intro h27
        have h27 := dcd_t (h27)
        refine Ow_qw rfl rfl rfl rfl rfl rfl (Qt_move rfl) ?_
        refine Ow_qw rfl rfl rfl rfl rfl rfl (Qt_move rfl) ?_
        refine Ow_qw rfl rfl rfl rfl rfl rfl (Qt_arith (e := (tick % 1000) + 1) rfl rfl rfl (IntWalk.i64_in _ (by omega))) ?_
        refine Ow_qw rfl rfl rfl rfl rfl rfl (Qt_cmp rfl rfl rfl) ?_
        refine Ow_q rfl rfl rfl (Qt_pick_t rfl rfl) ?_
        refine Ow_q rfl rfl rfl (Qt_assign rfl) ?_
        refine Ow_nil ?_
        refine Cw_seq ?_
        refine Cw_region ?_
        refine Ow_q rfl rfl rfl (Qt_loadA (m := 3) (cs := Mem.cells (Mem.mk (SI.mk (some a7) 1 [word]) (SS.mk none 0 []) (tick % 1000))) rfl rfl rfl rfl ⟨rfl, Rdc.blk (.tail _ (.head _)) rfl⟩) ?_
        refine Ow_q rfl rfl rfl (Qt_loadA (m := 5) (cs := Access.cells (Access.mk 4 0 word 0 x24)) rfl rfl rfl rfl ⟨rfl, Rdc.blk (.head _) rfl⟩) ?_
        refine Ow_cons rfl (OpW_call rfl Try.call34 rfl rfl (c_apply (Mem.mk (SI.mk (some a7) 1 [word]) (SS.mk none 0 []) (tick % 1000)) (Access.mk 4 0 word 0 x24) _ _ ⟨hs22, (Sl.nil _ _), SlAll.nil, (by first | omega | (simp only [List.length_append, List.length_cons, List.length_nil, List.length_replicate, List.length_set]; omega) | (simp; omega)), (by first | omega | (simp only [List.length_append, List.length_cons, List.length_nil, List.length_replicate, List.length_set]; omega) | (simp; omega))⟩) ?_)
        rintro _ K30 _ hK31 ⟨m28, b29, rfl, rfl, hm32, hb33, he34⟩
        have he341 : m28.abs = (applyS (Mem.mk (SI.mk (some a7) 1 [word]) (SS.mk none 0 []) (tick % 1000)).abs (Access.mk 4 0 word 0 x24)).1 := by rw [← he34]
        have he342 : b29.abs = (applyS (Mem.mk (SI.mk (some a7) 1 [word]) (SS.mk none 0 []) (tick % 1000)).abs (Access.mk 4 0 word 0 x24)).2 := by rw [← he34]
        have hs35 := hs21.mono hK31
        have hs36 := hs22.mono hK31
        have hm32w := Sl.le hm32.w
        have hm32l := Sl.le hm32.l
        have hm32zw := hm32.zw
        have hm32zl := hm32.zl
        refine Ow_q rfl rfl rfl (Qt_move rfl) ?_
        refine Ow_q rfl rfl rfl (Qt_extract rfl rfl) ?_
        refine Ow_q rfl rfl rfl (Qt_extract rfl rfl) ?_
        refine Ow_q rfl rfl rfl (Qt_extract rfl rfl) ?_
        refine Ow_cons rfl (OpW_alloc (cs := [(.slice none 0 0), (.slice none 0 0), (.int .i64 0)]) rfl rfl rfl rfl (fun b37 => ?_))
        refine Ow_cons rfl (OpW_alloc (cs := [(.int .u64 0), (.bool false), (.bool false), (.slice none 0 0)]) rfl rfl rfl rfl (fun b38 => ?_))
        refine Ow_cons rfl (OpW_store (vs := [(.slice m28.words.A m28.words.l.length m28.words.cp), (.slice m28.lists.A m28.lists.l.length m28.lists.cp), (.int .i64 m28.tick)]) (all' := [(.slice m28.words.A m28.words.l.length m28.words.cp), (.slice m28.lists.A m28.lists.l.length m28.lists.cp), (.int .i64 m28.tick)]) rfl rfl rfl rfl rfl (.there .here) rfl rfl rfl ?_)
        refine Ow_cons rfl (OpW_store (vs := [(.int .u64 b29.value), (.bool b29.ok), (.bool b29.late), (.slice b29.list.A b29.list.l.length b29.list.cp)]) (all' := [(.int .u64 b29.value), (.bool b29.ok), (.bool b29.late), (.slice b29.list.A b29.list.l.length b29.list.cp)]) rfl rfl rfl rfl rfl .here rfl rfl rfl ?_)
        refine Ow_q rfl rfl rfl (Qt_assign rfl) ?_
        refine Ow_nil ?_
        refine Cw_seq ?_
        refine Cw_seq ?_
        refine Cw_region ?_
        refine Ow_q rfl rfl rfl (Qt_move rfl) ?_
        refine Ow_q rfl rfl rfl (Qt_move rfl) ?_
        refine Ow_q rfl rfl rfl (Qt_move rfl) ?_
        refine Ow_q rfl rfl rfl (Qt_cmp rfl rfl rfl) ?_
        refine Ow_q rfl rfl rfl (Qt_move rfl) ?_
        refine Ow.known (d := 66) rfl (nt_mf (dcd_pos rfl)) ?_
        refine Ow_qw rfl rfl rfl rfl rfl rfl (Qt_move rfl) ?_
        refine Ow_q rfl rfl rfl (Qt_pick_f rfl rfl) ?_
        refine Ow_q rfl rfl rfl (Qt_neB rfl rfl rfl) ?_
        refine Ow_q rfl rfl rfl (Qt_move rfl) ?_
        refine Ow_caseG rfl rfl rfl ?_ ?_
        · intro h39
          have h39 := nt_t (h39)
          refine Ow_pass rfl rfl rfl rfl rfl rfl rfl ?_
          refine Ow_pass rfl rfl rfl rfl rfl rfl rfl ?_
          refine Ow_pass rfl rfl rfl rfl rfl rfl rfl ?_
          refine Ow_pass rfl rfl rfl rfl rfl rfl rfl ?_
          refine Ow_pass rfl rfl rfl rfl rfl rfl rfl ?_
          refine Ow_q rfl rfl rfl (Qt_pick_t rfl rfl) ?_
          refine Ow_q rfl rfl rfl (Qt_move rfl) ?_
          refine Ow_pass rfl rfl rfl rfl rfl rfl rfl ?_
          refine Ow_pass rfl rfl rfl rfl rfl rfl rfl ?_
          refine Ow_pass rfl rfl rfl rfl rfl rfl rfl ?_
          refine Ow_pass rfl rfl rfl rfl rfl rfl rfl ?_
          refine Ow_q rfl rfl rfl (Qt_pick_t rfl rfl) ?_
          refine Ow_nil ?_
          refine Cw_cond_t rfl ?_
          refine Cw_seq ?_
          refine Cw_region ?_
          refine Ow_q rfl rfl rfl (Qt_assign rfl) ?_
          refine Ow_nil ?_
          refine Cw_ret ?_
          refine ⟨(by first | exact .inl rfl | exact .inr rfl), [(.bool false)], G, ⟨(.bool false), _, rfl, rfl, rfl⟩, .cons _ (.cons _ (.cons _ (.cons _ (.refl _)))), ?_⟩
          exfalso
          first | omega | (simp_all [Answer.abs, An.mk.injEq, an0, dcd_eq]; done) | (simp_all [Answer.abs, An.mk.injEq, an0, dcd_eq]; omega)
        · intro h39
          have h39 := nt_f (h39)
          refine Ow_qw rfl rfl rfl rfl rfl rfl (Qt_loadA (m := 3) (cs := Mem.cells (Mem.mk (SI.mk (some a7) 1 [word]) (SS.mk none 0 []) (tick % 1000))) rfl rfl rfl rfl ⟨rfl, Rdc.blk (.tail _ (.tail _ (.tail _ (.head _)))) rfl⟩) ?_
          refine Ow_qw rfl rfl rfl rfl rfl rfl (Qt_loadA (m := 5) (cs := Access.cells (Access.mk 4 0 word 0 x24)) rfl rfl rfl rfl ⟨rfl, Rdc.blk (.tail _ (.tail _ (.head _))) rfl⟩) ?_
          refine Ow_want rfl rfl rfl rfl (OpW_callP (v0 := (.bool (grantedS (Mem.mk (SI.mk (some a7) 1 [word]) (SS.mk none 0 []) (tick % 1000)).abs (Access.mk 4 0 word 0 x24)))) rfl Try.call36 rfl rfl (c_granted (Mem.mk (SI.mk (some a7) 1 [word]) (SS.mk none 0 []) (tick % 1000)) (Access.mk 4 0 word 0 x24) _ _ ⟨hs36, (Sl.nil _ _), SlAll.nil, (by first | omega | (simp only [List.length_append, List.length_cons, List.length_nil, List.length_replicate, List.length_set]; omega) | (simp; omega)), (by first | omega | (simp only [List.length_append, List.length_cons, List.length_nil, List.length_replicate, List.length_set]; omega) | (simp; omega))⟩) ?_)
          refine Ow_qw rfl rfl rfl rfl rfl rfl (Qt_move rfl) ?_
          refine Ow_qw rfl rfl rfl rfl rfl rfl (Qt_neB rfl rfl rfl) ?_
          refine Ow_q rfl rfl rfl (Qt_pick_f rfl rfl) ?_
          refine Ow_q rfl rfl rfl (Qt_move rfl) ?_
          refine Ow.known (d := 77) rfl (nt_mf (beq_self_eq_true _)) ?_
          refine Ow_qw rfl rfl rfl rfl rfl rfl (Qt_loadA (m := 3) (cs := Mem.cells m28) rfl rfl rfl rfl ⟨rfl, Rdc.blk (.tail _ (.head _)) rfl⟩) ?_
          refine Ow_qw rfl rfl rfl rfl rfl rfl (Qt_loadA (m := 3) (cs := Mem.cells (Mem.mk (SI.mk (some a7) 1 [word]) (SS.mk none 0 []) (tick % 1000))) rfl rfl rfl rfl ⟨rfl, Rdc.blk (.tail _ (.tail _ (.tail _ (.head _)))) rfl⟩) ?_
          refine Ow_want rfl rfl rfl rfl (OpW_callP (v0 := (.bool (decide (m28.abs = (Mem.mk (SI.mk (some a7) 1 [word]) (SS.mk none 0 []) (tick % 1000)).abs)))) rfl Try.call38 rfl rfl (c_sameMem m28 (Mem.mk (SI.mk (some a7) 1 [word]) (SS.mk none 0 []) (tick % 1000)) _ _ hm32 ⟨hs36, (Sl.nil _ _), SlAll.nil, (by first | omega | (simp only [List.length_append, List.length_cons, List.length_nil, List.length_replicate, List.length_set]; omega) | (simp; omega)), (by first | omega | (simp only [List.length_append, List.length_cons, List.length_nil, List.length_replicate, List.length_set]; omega) | (simp; omega))⟩) ?_)
          refine Ow_qw rfl rfl rfl rfl rfl rfl (Qt_not rfl) ?_
          refine Ow_q rfl rfl rfl (Qt_pick_f rfl rfl) ?_
          refine Ow_nil ?_
          refine Cw_cond rfl ?_ ?_
          · intro h40
            have h40 := nt_t (h40)
            refine Cw_seq ?_
            refine Cw_region ?_
            refine Ow_q rfl rfl rfl (Qt_assign rfl) ?_
            refine Ow_nil ?_
            refine Cw_ret ?_
            refine ⟨(by first | exact .inl rfl | exact .inr rfl), [(.bool false)], G, ⟨(.bool false), _, rfl, rfl, rfl⟩, .cons _ (.cons _ (.cons _ (.cons _ (.refl _)))), ?_⟩
            exfalso
            first | omega | (simp_all [Answer.abs, An.mk.injEq, an0, dcd_eq]; done) | (simp_all [Answer.abs, An.mk.injEq, an0, dcd_eq]; omega)
          · intro h40
            have h40 := nt_f (h40)
            refine Cw_skip ?_
            refine Cw_seq ?_
            refine Cw_seq ?_
            refine Cw_region ?_
            refine Ow_q rfl rfl rfl (Qt_move rfl) ?_
            refine Ow_q rfl rfl rfl (Qt_move rfl) ?_
            refine Ow_caseG rfl rfl rfl ?_ ?_
            · intro h41
              refine Ow_qw rfl rfl rfl rfl rfl rfl (Qt_fieldAddr (m := 0) rfl rfl rfl rfl rfl) ?_
              refine Ow_qw rfl rfl rfl rfl rfl rfl (Qt_load1 (v := (.int .u64 b29.value)) rfl rfl rfl (Rdc.blk (.head _) rfl)) ?_
              refine Ow_qw rfl rfl rfl rfl rfl rfl (Qt_move rfl) ?_
              refine Ow_qw rfl rfl rfl rfl rfl rfl (Qt_cmp rfl rfl rfl) ?_
              refine Ow_qw rfl rfl rfl rfl rfl rfl (Qt_move rfl) ?_
              refine Ow_caseG rfl rfl rfl ?_ ?_
              · intro h42
                have h42 := dcd_f (nt_t (h42))
                refine Ow_pass rfl rfl rfl rfl rfl rfl rfl ?_
                refine Ow_pass rfl rfl rfl rfl rfl rfl rfl ?_
                refine Ow_pass rfl rfl rfl rfl rfl rfl rfl ?_
                refine Ow_pass rfl rfl rfl rfl rfl rfl rfl ?_
                refine Ow_pass rfl rfl rfl rfl rfl rfl rfl ?_
                refine Ow_pass rfl rfl rfl rfl rfl rfl rfl ?_
                refine Ow_qw rfl rfl rfl rfl rfl rfl (Qt_pick_t rfl rfl) ?_
                refine Ow_qw rfl rfl rfl rfl rfl rfl (Qt_move rfl) ?_
                refine Ow_pass rfl rfl rfl rfl rfl rfl rfl ?_
                refine Ow_pass rfl rfl rfl rfl rfl rfl rfl ?_
                refine Ow_qw rfl rfl rfl rfl rfl rfl (Qt_pick_t rfl rfl) ?_
                refine Ow_q rfl rfl rfl (Qt_pick_t rfl rfl) ?_
                refine Ow_nil ?_
                refine Cw_cond_t rfl ?_
                refine Cw_seq ?_
                refine Cw_region ?_
                refine Ow_q rfl rfl rfl (Qt_assign rfl) ?_
                refine Ow_nil ?_
                refine Cw_ret ?_
                refine ⟨(by first | exact .inl rfl | exact .inr rfl), [(.bool false)], G, ⟨(.bool false), _, rfl, rfl, rfl⟩, .cons _ (.cons _ (.cons _ (.cons _ (.refl _)))), ?_⟩
                exfalso
                first | omega | (simp_all [Answer.abs, An.mk.injEq, an0, dcd_eq]; done) | (simp_all [Answer.abs, An.mk.injEq, an0, dcd_eq]; omega)
              · intro h42
                have h42 := dcd_t (nt_f (h42))
                refine Ow_qw rfl rfl rfl rfl rfl rfl (Qt_fieldAddr (m := 2) rfl rfl rfl rfl rfl) ?_
                refine Ow_qw rfl rfl rfl rfl rfl rfl (Qt_load1 (v := (.bool b29.late)) rfl rfl rfl (Rdc.blk (.head _) rfl)) ?_
                refine Ow_qw rfl rfl rfl rfl rfl rfl (Qt_move rfl) ?_
                refine Ow_qw rfl rfl rfl rfl rfl rfl (Qt_move rfl) ?_
                refine Ow_qw rfl rfl rfl rfl rfl rfl (Qt_cmp rfl rfl rfl) ?_
                refine Ow_qw rfl rfl rfl rfl rfl rfl (Qt_neB rfl rfl rfl) ?_
                refine Ow_qw rfl rfl rfl rfl rfl rfl (Qt_pick_f rfl rfl) ?_
                refine Ow_qw rfl rfl rfl rfl rfl rfl (Qt_move rfl) ?_
                refine Ow_caseG rfl rfl rfl ?_ ?_
                · intro h43
                  have h43 := nt_t (h43)
                  refine Ow_pass rfl rfl rfl rfl rfl rfl rfl ?_
                  refine Ow_pass rfl rfl rfl rfl rfl rfl rfl ?_
                  refine Ow_qw rfl rfl rfl rfl rfl rfl (Qt_pick_t rfl rfl) ?_
                  refine Ow_q rfl rfl rfl (Qt_pick_t rfl rfl) ?_
                  refine Ow_nil ?_
                  refine Cw_cond_t rfl ?_
                  refine Cw_seq ?_
                  refine Cw_region ?_
                  refine Ow_q rfl rfl rfl (Qt_assign rfl) ?_
                  refine Ow_nil ?_
                  refine Cw_ret ?_
                  refine ⟨(by first | exact .inl rfl | exact .inr rfl), [(.bool false)], G, ⟨(.bool false), _, rfl, rfl, rfl⟩, .cons _ (.cons _ (.cons _ (.cons _ (.refl _)))), ?_⟩
                  exfalso
                  first | omega | (simp_all [Answer.abs, An.mk.injEq, an0, dcd_eq]; done) | (simp_all [Answer.abs, An.mk.injEq, an0, dcd_eq]; omega)
                · intro h43
                  have h43 := nt_f (h43)
                  refine Ow_qw rfl rfl rfl rfl rfl rfl (Qt_fieldAddr (m := 1) rfl rfl rfl rfl rfl) ?_
                  refine Ow_qw rfl rfl rfl rfl rfl rfl (Qt_load1 (v := (.bool b29.ok)) rfl rfl rfl (Rdc.blk (.head _) rfl)) ?_
                  refine Ow_qw rfl rfl rfl rfl rfl rfl (Qt_pick_f rfl rfl) ?_
                  refine Ow_q rfl rfl rfl (Qt_pick_t rfl rfl) ?_
                  refine Ow_nil ?_
                  refine Cw_cond rfl ?_ ?_
                  · intro h44
                    refine Cw_seq ?_
                    refine Cw_region ?_
                    refine Ow_q rfl rfl rfl (Qt_assign rfl) ?_
                    refine Ow_nil ?_
                    refine Cw_ret ?_
                    refine ⟨(by first | exact .inl rfl | exact .inr rfl), [(.bool false)], G, ⟨(.bool false), _, rfl, rfl, rfl⟩, .cons _ (.cons _ (.cons _ (.cons _ (.refl _)))), ?_⟩
                    exfalso
                    first | omega | (simp_all [Answer.abs, An.mk.injEq, an0, dcd_eq]; done) | (simp_all [Answer.abs, An.mk.injEq, an0, dcd_eq]; omega)
                  · intro h44
                    refine Cw_skip ?_
                    refine Cw_seq ?_
                    refine Cw_region ?_
                    refine Ow_q rfl rfl rfl (Qt_move rfl) ?_
                    have hm45 : (0 : Int) < 5 ∧ (5 : Int) ≤ 9223372036854775807 := (by first | omega | (simp only [List.length_append, List.length_cons, List.length_nil, List.length_replicate, List.length_set]; omega) | (simp; omega))
                    have he46 := Int.emod_nonneg until_ (show (5 : Int) ≠ 0 by omega)
                    have he47 := Int.emod_lt_of_pos until_ (show (0 : Int) < 5 by omega)
                    refine Ow_cons rfl (OpW_callP (v0 := (.int .i64 (until_ % 5))) rfl Try.call23 rfl rfl (c_mod until_ 5 hm45 _ _ trivial) ?_)
                    refine Ow_q rfl rfl rfl (Qt_arith (e := 1 + (until_ % 5)) rfl rfl rfl (IntWalk.i64_in _ (by omega))) ?_
                    refine Ow_q rfl rfl rfl (Qt_fieldAddr (m := 1) rfl rfl rfl rfl rfl) ?_
                    refine Ow_cons rfl (OpW_store (vs := [(.int .i64 (1 + (until_ % 5)))]) (all' := [(.int .i64 4), (.int .i64 (1 + (until_ % 5))), (.int .u64 word), (.int .u64 0), (.int .i64 x24)]) rfl rfl rfl rfl rfl (.there (.there .here)) rfl rfl rfl ?_)
                    refine Ow_nil ?_
                    refine Cw_seq ?_
                    refine Cw_region ?_
                    refine Ow_q rfl rfl rfl (Qt_loadA (m := 3) (cs := Mem.cells (Mem.mk (SI.mk (some a7) 1 [word]) (SS.mk none 0 []) (tick % 1000))) rfl rfl rfl rfl ⟨rfl, Rdc.blk (.tail _ (.tail _ (.tail _ (.head _)))) rfl⟩) ?_
                    refine Ow_q rfl rfl rfl (Qt_loadA (m := 5) (cs := Access.cells (Access.mk 4 (1 + (until_ % 5)) word 0 x24)) rfl rfl rfl rfl ⟨rfl, Rdc.blk (.tail _ (.tail _ (.head _))) rfl⟩) ?_
                    refine Ow_cons rfl (OpW_call rfl Try.call34 rfl rfl (c_apply (Mem.mk (SI.mk (some a7) 1 [word]) (SS.mk none 0 []) (tick % 1000)) (Access.mk 4 (1 + (until_ % 5)) word 0 x24) _ _ ⟨hs36, (Sl.nil _ _), SlAll.nil, (by first | omega | (simp only [List.length_append, List.length_cons, List.length_nil, List.length_replicate, List.length_set]; omega) | (simp; omega)), (by first | omega | (simp only [List.length_append, List.length_cons, List.length_nil, List.length_replicate, List.length_set]; omega) | (simp; omega))⟩) ?_)
                    rintro _ K50 _ hK51 ⟨m48, b49, rfl, rfl, hm52, hb53, he54⟩
                    have he541 : m48.abs = (applyS (Mem.mk (SI.mk (some a7) 1 [word]) (SS.mk none 0 []) (tick % 1000)).abs (Access.mk 4 (1 + (until_ % 5)) word 0 x24)).1 := by rw [← he54]
                    have he542 : b49.abs = (applyS (Mem.mk (SI.mk (some a7) 1 [word]) (SS.mk none 0 []) (tick % 1000)).abs (Access.mk 4 (1 + (until_ % 5)) word 0 x24)).2 := by rw [← he54]
                    have hs55 := hs35.mono hK51
                    have hs56 := hs36.mono hK51
                    have hs57 := hb33.mono hK51
                    have hs58 := hm32.mono hK51
                    have hm52w := Sl.le hm52.w
                    have hm52l := Sl.le hm52.l
                    have hm52zw := hm52.zw
                    have hm52zl := hm52.zl
                    refine Ow_q rfl rfl rfl (Qt_move rfl) ?_
                    refine Ow_q rfl rfl rfl (Qt_extract rfl rfl) ?_
                    refine Ow_q rfl rfl rfl (Qt_extract rfl rfl) ?_
                    refine Ow_q rfl rfl rfl (Qt_extract rfl rfl) ?_
                    refine Ow_cons rfl (OpW_alloc (cs := [(.slice none 0 0), (.slice none 0 0), (.int .i64 0)]) rfl rfl rfl rfl (fun b59 => ?_))
                    refine Ow_cons rfl (OpW_alloc (cs := [(.int .u64 0), (.bool false), (.bool false), (.slice none 0 0)]) rfl rfl rfl rfl (fun b60 => ?_))
                    refine Ow_cons rfl (OpW_store (vs := [(.slice m48.words.A m48.words.l.length m48.words.cp), (.slice m48.lists.A m48.lists.l.length m48.lists.cp), (.int .i64 m48.tick)]) (all' := [(.slice m48.words.A m48.words.l.length m48.words.cp), (.slice m48.lists.A m48.lists.l.length m48.lists.cp), (.int .i64 m48.tick)]) rfl rfl rfl rfl rfl (.there .here) rfl rfl rfl ?_)
                    refine Ow_cons rfl (OpW_store (vs := [(.int .u64 b49.value), (.bool b49.ok), (.bool b49.late), (.slice b49.list.A b49.list.l.length b49.list.cp)]) (all' := [(.int .u64 b49.value), (.bool b49.ok), (.bool b49.late), (.slice b49.list.A b49.list.l.length b49.list.cp)]) rfl rfl rfl rfl rfl .here rfl rfl rfl ?_)
                    refine Ow_q rfl rfl rfl (Qt_assign rfl) ?_
                    refine Ow_nil ?_
                    refine Cw_seq ?_
                    refine Cw_region ?_
                    refine Ow_q rfl rfl rfl (Qt_move rfl) ?_
                    refine Ow_q rfl rfl rfl (Qt_not rfl) ?_
                    refine Ow_q rfl rfl rfl (Qt_move rfl) ?_
                    refine Ow_caseG rfl rfl rfl ?_ ?_
                    · intro h61
                      have h61 := nt_t (h61)
                      refine Ow_pass rfl rfl rfl rfl rfl rfl rfl ?_
                      refine Ow_pass rfl rfl rfl rfl rfl rfl rfl ?_
                      refine Ow_pass rfl rfl rfl rfl rfl rfl rfl ?_
                      refine Ow_pass rfl rfl rfl rfl rfl rfl rfl ?_
                      refine Ow_q rfl rfl rfl (Qt_pick_t rfl rfl) ?_
                      refine Ow_nil ?_
                      refine Cw_cond_t rfl ?_
                      refine Cw_seq ?_
                      refine Cw_region ?_
                      refine Ow_q rfl rfl rfl (Qt_assign rfl) ?_
                      refine Ow_nil ?_
                      refine Cw_ret ?_
                      refine ⟨(by first | exact .inl rfl | exact .inr rfl), [(.bool false)], G, ⟨(.bool false), _, rfl, rfl, rfl⟩, .cons _ (.cons _ (.cons _ (.cons _ (.cons _ (.cons _ (.refl _)))))), ?_⟩
                      exfalso
                      first | omega | (simp_all [Answer.abs, An.mk.injEq, an0, dcd_eq]; done) | (simp_all [Answer.abs, An.mk.injEq, an0, dcd_eq]; omega)
                    · intro h61
                      have h61 := nt_f (h61)
                      refine Ow_qw rfl rfl rfl rfl rfl rfl (Qt_loadA (m := 4) (cs := Answer.cells b49) rfl rfl rfl rfl ⟨rfl, Rdc.blk (.head _) rfl⟩) ?_
                      refine Ow_qw rfl rfl rfl rfl rfl rfl (Qt_build (cs := Answer.cells (Answer.mk 0 false false (SI.mk none 0 []))) rfl rfl rfl rfl rfl rfl) ?_
                      refine Ow_want rfl rfl rfl rfl (OpW_callP (v0 := (.bool (decide (b49.abs = (Answer.mk 0 false false (SI.mk none 0 [])).abs)))) rfl Try.call39 rfl rfl (c_sameAns b49 (Answer.mk 0 false false (SI.mk none 0 [])) _ _ hb53 ⟨(Sl.nil _ _)⟩) ?_)
                      refine Ow_qw rfl rfl rfl rfl rfl rfl (Qt_not rfl) ?_
                      refine Ow_q rfl rfl rfl (Qt_pick_f rfl rfl) ?_
                      refine Ow_nil ?_
                      refine Cw_cond rfl ?_ ?_
                      · intro h62
                        have h62 := nt_t (h62)
                        refine Cw_seq ?_
                        refine Cw_region ?_
                        refine Ow_q rfl rfl rfl (Qt_assign rfl) ?_
                        refine Ow_nil ?_
                        refine Cw_ret ?_
                        refine ⟨(by first | exact .inl rfl | exact .inr rfl), [(.bool false)], G, ⟨(.bool false), _, rfl, rfl, rfl⟩, .cons _ (.cons _ (.cons _ (.cons _ (.cons _ (.cons _ (.refl _)))))), ?_⟩
                        exfalso
                        first | omega | (simp_all [Answer.abs, An.mk.injEq, an0, dcd_eq]; done) | (simp_all [Answer.abs, An.mk.injEq, an0, dcd_eq]; omega)
                      · intro h62
                        have h62 := nt_f (h62)
                        refine Cw_skip ?_
                        refine Cw_region ?_
                        refine Ow_q rfl rfl rfl (Qt_arith (e := (((i : Nat) : Int) + 1)) rfl rfl rfl (wrap_eq (by omega) (by omega))) ?_
                        refine Ow_q rfl rfl rfl (Qt_move rfl) ?_
                        refine Ow_nil ?_
                        refine ⟨_, [(0, (.int .u64 word)), (1, (.int .u64 word)), (2, (.int .i64 (tick % 1000))), (3, (.int .i64 until_)), (11, (.pointer (some ((⟨b8, 0, none⟩ : Addr).add 0)))), (38, (.slice (some a9) 5 5)), (39, (.int .i64 5)), (40, (.int .i64 (((i + 1) : Nat) : Int)))], .blk b8 49 [(.slice (some a7) 1 1), (.slice none 0 0), (.int .i64 (tick % 1000))] :: G, ⟨rfl, rfl, rfl, rfl, rfl, rfl, rfl, rfl, trivial⟩, (.cons _ (.cons _ (.cons _ (.cons _ (.cons _ (.cons_cons _ (.refl _))))))), (by first | omega | (simp only [List.length_append, List.length_cons, List.length_nil]; omega)), (i + 1), rfl, rfl, rfl, (by first | omega | (simp only [List.length_append, List.length_cons, List.length_nil, List.length_replicate, List.length_set]; omega) | (simp; omega))⟩
            · intro h41
              refine Ow_pass rfl rfl rfl rfl rfl rfl rfl ?_
              refine Ow_pass rfl rfl rfl rfl rfl rfl rfl ?_
              refine Ow_pass rfl rfl rfl rfl rfl rfl rfl ?_
              refine Ow_pass rfl rfl rfl rfl rfl rfl rfl ?_
              refine Ow_pass rfl rfl rfl rfl rfl rfl rfl ?_
              refine Ow_passU rfl rfl rfl rfl rfl ?_
              refine Ow_passU rfl rfl rfl rfl rfl ?_
              refine Ow_passU rfl rfl rfl rfl rfl ?_
              refine Ow_passU rfl rfl rfl rfl rfl ?_
              refine Ow_passU rfl rfl rfl rfl rfl ?_
              refine Ow_passU rfl rfl rfl rfl rfl ?_
              refine Ow_pass rfl rfl rfl rfl rfl rfl rfl ?_
              refine Ow_pass rfl rfl rfl rfl rfl rfl rfl ?_
              refine Ow_passU rfl rfl rfl rfl rfl ?_
              refine Ow_passU rfl rfl rfl rfl rfl ?_
              refine Ow_pass rfl rfl rfl rfl rfl rfl rfl ?_
              refine Ow_q rfl rfl rfl (Qt_pick_f rfl rfl) ?_
              refine Ow_nil ?_
              refine Cw_cond_f rfl ?_
              refine Cw_skip ?_
              refine Cw_seq ?_
              refine Cw_region ?_
              refine Ow_q rfl rfl rfl (Qt_move rfl) ?_
              have hm63 : (0 : Int) < 5 ∧ (5 : Int) ≤ 9223372036854775807 := (by first | omega | (simp only [List.length_append, List.length_cons, List.length_nil, List.length_replicate, List.length_set]; omega) | (simp; omega))
              have he64 := Int.emod_nonneg until_ (show (5 : Int) ≠ 0 by omega)
              have he65 := Int.emod_lt_of_pos until_ (show (0 : Int) < 5 by omega)
              refine Ow_cons rfl (OpW_callP (v0 := (.int .i64 (until_ % 5))) rfl Try.call23 rfl rfl (c_mod until_ 5 hm63 _ _ trivial) ?_)
              refine Ow_q rfl rfl rfl (Qt_arith (e := 1 + (until_ % 5)) rfl rfl rfl (IntWalk.i64_in _ (by omega))) ?_
              refine Ow_q rfl rfl rfl (Qt_fieldAddr (m := 1) rfl rfl rfl rfl rfl) ?_
              refine Ow_cons rfl (OpW_store (vs := [(.int .i64 (1 + (until_ % 5)))]) (all' := [(.int .i64 4), (.int .i64 (1 + (until_ % 5))), (.int .u64 word), (.int .u64 0), (.int .i64 x24)]) rfl rfl rfl rfl rfl (.there (.there .here)) rfl rfl rfl ?_)
              refine Ow_nil ?_
              refine Cw_seq ?_
              refine Cw_region ?_
              refine Ow_q rfl rfl rfl (Qt_loadA (m := 3) (cs := Mem.cells (Mem.mk (SI.mk (some a7) 1 [word]) (SS.mk none 0 []) (tick % 1000))) rfl rfl rfl rfl ⟨rfl, Rdc.blk (.tail _ (.tail _ (.tail _ (.head _)))) rfl⟩) ?_
              refine Ow_q rfl rfl rfl (Qt_loadA (m := 5) (cs := Access.cells (Access.mk 4 (1 + (until_ % 5)) word 0 x24)) rfl rfl rfl rfl ⟨rfl, Rdc.blk (.tail _ (.tail _ (.head _))) rfl⟩) ?_
              refine Ow_cons rfl (OpW_call rfl Try.call34 rfl rfl (c_apply (Mem.mk (SI.mk (some a7) 1 [word]) (SS.mk none 0 []) (tick % 1000)) (Access.mk 4 (1 + (until_ % 5)) word 0 x24) _ _ ⟨hs36, (Sl.nil _ _), SlAll.nil, (by first | omega | (simp only [List.length_append, List.length_cons, List.length_nil, List.length_replicate, List.length_set]; omega) | (simp; omega)), (by first | omega | (simp only [List.length_append, List.length_cons, List.length_nil, List.length_replicate, List.length_set]; omega) | (simp; omega))⟩) ?_)
              rintro _ K68 _ hK69 ⟨m66, b67, rfl, rfl, hm70, hb71, he72⟩
              have he721 : m66.abs = (applyS (Mem.mk (SI.mk (some a7) 1 [word]) (SS.mk none 0 []) (tick % 1000)).abs (Access.mk 4 (1 + (until_ % 5)) word 0 x24)).1 := by rw [← he72]
              have he722 : b67.abs = (applyS (Mem.mk (SI.mk (some a7) 1 [word]) (SS.mk none 0 []) (tick % 1000)).abs (Access.mk 4 (1 + (until_ % 5)) word 0 x24)).2 := by rw [← he72]
              have hs73 := hs35.mono hK69
              have hs74 := hs36.mono hK69
              have hs75 := hb33.mono hK69
              have hs76 := hm32.mono hK69
              have hm70w := Sl.le hm70.w
              have hm70l := Sl.le hm70.l
              have hm70zw := hm70.zw
              have hm70zl := hm70.zl
              refine Ow_q rfl rfl rfl (Qt_move rfl) ?_
              refine Ow_q rfl rfl rfl (Qt_extract rfl rfl) ?_
              refine Ow_q rfl rfl rfl (Qt_extract rfl rfl) ?_
              refine Ow_q rfl rfl rfl (Qt_extract rfl rfl) ?_
              refine Ow_cons rfl (OpW_alloc (cs := [(.slice none 0 0), (.slice none 0 0), (.int .i64 0)]) rfl rfl rfl rfl (fun b77 => ?_))
              refine Ow_cons rfl (OpW_alloc (cs := [(.int .u64 0), (.bool false), (.bool false), (.slice none 0 0)]) rfl rfl rfl rfl (fun b78 => ?_))
              refine Ow_cons rfl (OpW_store (vs := [(.slice m66.words.A m66.words.l.length m66.words.cp), (.slice m66.lists.A m66.lists.l.length m66.lists.cp), (.int .i64 m66.tick)]) (all' := [(.slice m66.words.A m66.words.l.length m66.words.cp), (.slice m66.lists.A m66.lists.l.length m66.lists.cp), (.int .i64 m66.tick)]) rfl rfl rfl rfl rfl (.there .here) rfl rfl rfl ?_)
              refine Ow_cons rfl (OpW_store (vs := [(.int .u64 b67.value), (.bool b67.ok), (.bool b67.late), (.slice b67.list.A b67.list.l.length b67.list.cp)]) (all' := [(.int .u64 b67.value), (.bool b67.ok), (.bool b67.late), (.slice b67.list.A b67.list.l.length b67.list.cp)]) rfl rfl rfl rfl rfl .here rfl rfl rfl ?_)
              refine Ow_q rfl rfl rfl (Qt_assign rfl) ?_
              refine Ow_nil ?_
              refine Cw_seq ?_
              refine Cw_region ?_
              refine Ow_q rfl rfl rfl (Qt_move rfl) ?_
              refine Ow_q rfl rfl rfl (Qt_not rfl) ?_
              refine Ow_q rfl rfl rfl (Qt_move rfl) ?_
              refine Ow_caseG rfl rfl rfl ?_ ?_
              · intro h79
                have h79 := nt_t (h79)
                refine Ow_pass rfl rfl rfl rfl rfl rfl rfl ?_
                refine Ow_pass rfl rfl rfl rfl rfl rfl rfl ?_
                refine Ow_pass rfl rfl rfl rfl rfl rfl rfl ?_
                refine Ow_pass rfl rfl rfl rfl rfl rfl rfl ?_
                refine Ow_q rfl rfl rfl (Qt_pick_t rfl rfl) ?_
                refine Ow_nil ?_
                refine Cw_cond_t rfl ?_
                refine Cw_seq ?_
                refine Cw_region ?_
                refine Ow_q rfl rfl rfl (Qt_assign rfl) ?_
                refine Ow_nil ?_
                refine Cw_ret ?_
                refine ⟨(by first | exact .inl rfl | exact .inr rfl), [(.bool false)], G, ⟨(.bool false), _, rfl, rfl, rfl⟩, .cons _ (.cons _ (.cons _ (.cons _ (.cons _ (.cons _ (.refl _)))))), ?_⟩
                exfalso
                first | omega | (simp_all [Answer.abs, An.mk.injEq, an0, dcd_eq]; done) | (simp_all [Answer.abs, An.mk.injEq, an0, dcd_eq]; omega)
              · intro h79
                have h79 := nt_f (h79)
                refine Ow_qw rfl rfl rfl rfl rfl rfl (Qt_loadA (m := 4) (cs := Answer.cells b67) rfl rfl rfl rfl ⟨rfl, Rdc.blk (.head _) rfl⟩) ?_
                refine Ow_qw rfl rfl rfl rfl rfl rfl (Qt_build (cs := Answer.cells (Answer.mk 0 false false (SI.mk none 0 []))) rfl rfl rfl rfl rfl rfl) ?_
                refine Ow_want rfl rfl rfl rfl (OpW_callP (v0 := (.bool (decide (b67.abs = (Answer.mk 0 false false (SI.mk none 0 [])).abs)))) rfl Try.call39 rfl rfl (c_sameAns b67 (Answer.mk 0 false false (SI.mk none 0 [])) _ _ hb71 ⟨(Sl.nil _ _)⟩) ?_)
                refine Ow_qw rfl rfl rfl rfl rfl rfl (Qt_not rfl) ?_
                refine Ow_q rfl rfl rfl (Qt_pick_f rfl rfl) ?_
                refine Ow_nil ?_
                refine Cw_cond rfl ?_ ?_
                · intro h80
                  have h80 := nt_t (h80)
                  refine Cw_seq ?_
                  refine Cw_region ?_
                  refine Ow_q rfl rfl rfl (Qt_assign rfl) ?_
                  refine Ow_nil ?_
                  refine Cw_ret ?_
                  refine ⟨(by first | exact .inl rfl | exact .inr rfl), [(.bool false)], G, ⟨(.bool false), _, rfl, rfl, rfl⟩, .cons _ (.cons _ (.cons _ (.cons _ (.cons _ (.cons _ (.refl _)))))), ?_⟩
                  exfalso
                  first | omega | (simp_all [Answer.abs, An.mk.injEq, an0, dcd_eq]; done) | (simp_all [Answer.abs, An.mk.injEq, an0, dcd_eq]; omega)
                · intro h80
                  have h80 := nt_f (h80)
                  refine Cw_skip ?_
                  refine Cw_region ?_
                  refine Ow_q rfl rfl rfl (Qt_arith (e := (((i : Nat) : Int) + 1)) rfl rfl rfl (wrap_eq (by omega) (by omega))) ?_
                  refine Ow_q rfl rfl rfl (Qt_move rfl) ?_
                  refine Ow_nil ?_
                  refine ⟨_, [(0, (.int .u64 word)), (1, (.int .u64 word)), (2, (.int .i64 (tick % 1000))), (3, (.int .i64 until_)), (11, (.pointer (some ((⟨b8, 0, none⟩ : Addr).add 0)))), (38, (.slice (some a9) 5 5)), (39, (.int .i64 5)), (40, (.int .i64 (((i + 1) : Nat) : Int)))], .blk b8 49 [(.slice (some a7) 1 1), (.slice none 0 0), (.int .i64 (tick % 1000))] :: G, ⟨rfl, rfl, rfl, rfl, rfl, rfl, rfl, rfl, trivial⟩, (.cons _ (.cons _ (.cons _ (.cons _ (.cons _ (.cons_cons _ (.refl _))))))), (by first | omega | (simp only [List.length_append, List.length_cons, List.length_nil]; omega)), (i + 1), rfl, rfl, rfl, (by first | omega | (simp only [List.length_append, List.length_cons, List.length_nil, List.length_replicate, List.length_set]; omega) | (simp; omega))⟩
      · intro h27
        have h27 := dcd_f (h27)
        refine Ow_pass rfl rfl rfl rfl rfl rfl rfl ?_
        refine Ow_pass rfl rfl rfl rfl rfl rfl rfl ?_
        refine Ow_pass rfl rfl rfl rfl rfl rfl rfl ?_
        refine Ow_pass rfl rfl rfl rfl rfl rfl rfl ?_
        refine Ow_q rfl rfl rfl (Qt_pick_f rfl rfl) ?_
        refine Ow_q rfl rfl rfl (Qt_assign rfl) ?_
        refine Ow_nil ?_
        refine Cw_seq ?_
        refine Cw_region ?_
        refine Ow_q rfl rfl rfl (Qt_loadA (m := 3) (cs := Mem.cells (Mem.mk (SI.mk (some a7) 1 [word]) (SS.mk none 0 []) (tick % 1000))) rfl rfl rfl rfl ⟨rfl, Rdc.blk (.tail _ (.head _)) rfl⟩) ?_
        refine Ow_q rfl rfl rfl (Qt_loadA (m := 5) (cs := Access.cells (Access.mk 4 0 word 0 x24)) rfl rfl rfl rfl ⟨rfl, Rdc.blk (.head _) rfl⟩) ?_
        refine Ow_cons rfl (OpW_call rfl Try.call34 rfl rfl (c_apply (Mem.mk (SI.mk (some a7) 1 [word]) (SS.mk none 0 []) (tick % 1000)) (Access.mk 4 0 word 0 x24) _ _ ⟨hs22, (Sl.nil _ _), SlAll.nil, (by first | omega | (simp only [List.length_append, List.length_cons, List.length_nil, List.length_replicate, List.length_set]; omega) | (simp; omega)), (by first | omega | (simp only [List.length_append, List.length_cons, List.length_nil, List.length_replicate, List.length_set]; omega) | (simp; omega))⟩) ?_)
        rintro _ K83 _ hK84 ⟨m81, b82, rfl, rfl, hm85, hb86, he87⟩
        have he871 : m81.abs = (applyS (Mem.mk (SI.mk (some a7) 1 [word]) (SS.mk none 0 []) (tick % 1000)).abs (Access.mk 4 0 word 0 x24)).1 := by rw [← he87]
        have he872 : b82.abs = (applyS (Mem.mk (SI.mk (some a7) 1 [word]) (SS.mk none 0 []) (tick % 1000)).abs (Access.mk 4 0 word 0 x24)).2 := by rw [← he87]
        have hs88 := hs21.mono hK84
        have hs89 := hs22.mono hK84
        have hm85w := Sl.le hm85.w
        have hm85l := Sl.le hm85.l
        have hm85zw := hm85.zw
        have hm85zl := hm85.zl
        refine Ow_q rfl rfl rfl (Qt_move rfl) ?_
        refine Ow_q rfl rfl rfl (Qt_extract rfl rfl) ?_
        refine Ow_q rfl rfl rfl (Qt_extract rfl rfl) ?_
        refine Ow_q rfl rfl rfl (Qt_extract rfl rfl) ?_
        refine Ow_cons rfl (OpW_alloc (cs := [(.slice none 0 0), (.slice none 0 0), (.int .i64 0)]) rfl rfl rfl rfl (fun b90 => ?_))
        refine Ow_cons rfl (OpW_alloc (cs := [(.int .u64 0), (.bool false), (.bool false), (.slice none 0 0)]) rfl rfl rfl rfl (fun b91 => ?_))
        refine Ow_cons rfl (OpW_store (vs := [(.slice m81.words.A m81.words.l.length m81.words.cp), (.slice m81.lists.A m81.lists.l.length m81.lists.cp), (.int .i64 m81.tick)]) (all' := [(.slice m81.words.A m81.words.l.length m81.words.cp), (.slice m81.lists.A m81.lists.l.length m81.lists.cp), (.int .i64 m81.tick)]) rfl rfl rfl rfl rfl (.there .here) rfl rfl rfl ?_)
        refine Ow_cons rfl (OpW_store (vs := [(.int .u64 b82.value), (.bool b82.ok), (.bool b82.late), (.slice b82.list.A b82.list.l.length b82.list.cp)]) (all' := [(.int .u64 b82.value), (.bool b82.ok), (.bool b82.late), (.slice b82.list.A b82.list.l.length b82.list.cp)]) rfl rfl rfl rfl rfl .here rfl rfl rfl ?_)
        refine Ow_q rfl rfl rfl (Qt_assign rfl) ?_
        refine Ow_nil ?_
        refine Cw_seq ?_
        refine Cw_seq ?_
        refine Cw_region ?_
        refine Ow_q rfl rfl rfl (Qt_move rfl) ?_
        refine Ow_q rfl rfl rfl (Qt_move rfl) ?_
        refine Ow_q rfl rfl rfl (Qt_move rfl) ?_
        refine Ow_q rfl rfl rfl (Qt_cmp rfl rfl rfl) ?_
        refine Ow_q rfl rfl rfl (Qt_move rfl) ?_
        refine Ow.known (d := 66) rfl (nt_mf (dcd_pos rfl)) ?_
        refine Ow_qw rfl rfl rfl rfl rfl rfl (Qt_move rfl) ?_
        refine Ow_q rfl rfl rfl (Qt_pick_f rfl rfl) ?_
        refine Ow_q rfl rfl rfl (Qt_neB rfl rfl rfl) ?_
        refine Ow_q rfl rfl rfl (Qt_move rfl) ?_
        refine Ow_caseG rfl rfl rfl ?_ ?_
        · intro h92
          have h92 := nt_t (h92)
          refine Ow_pass rfl rfl rfl rfl rfl rfl rfl ?_
          refine Ow_pass rfl rfl rfl rfl rfl rfl rfl ?_
          refine Ow_pass rfl rfl rfl rfl rfl rfl rfl ?_
          refine Ow_pass rfl rfl rfl rfl rfl rfl rfl ?_
          refine Ow_pass rfl rfl rfl rfl rfl rfl rfl ?_
          refine Ow_q rfl rfl rfl (Qt_pick_t rfl rfl) ?_
          refine Ow_q rfl rfl rfl (Qt_move rfl) ?_
          refine Ow_pass rfl rfl rfl rfl rfl rfl rfl ?_
          refine Ow_pass rfl rfl rfl rfl rfl rfl rfl ?_
          refine Ow_pass rfl rfl rfl rfl rfl rfl rfl ?_
          refine Ow_pass rfl rfl rfl rfl rfl rfl rfl ?_
          refine Ow_q rfl rfl rfl (Qt_pick_t rfl rfl) ?_
          refine Ow_nil ?_
          refine Cw_cond_t rfl ?_
          refine Cw_seq ?_
          refine Cw_region ?_
          refine Ow_q rfl rfl rfl (Qt_assign rfl) ?_
          refine Ow_nil ?_
          refine Cw_ret ?_
          refine ⟨(by first | exact .inl rfl | exact .inr rfl), [(.bool false)], G, ⟨(.bool false), _, rfl, rfl, rfl⟩, .cons _ (.cons _ (.cons _ (.cons _ (.refl _)))), ?_⟩
          exfalso
          first | omega | (simp_all [Answer.abs, An.mk.injEq, an0, dcd_eq]; done) | (simp_all [Answer.abs, An.mk.injEq, an0, dcd_eq]; omega)
        · intro h92
          have h92 := nt_f (h92)
          refine Ow_qw rfl rfl rfl rfl rfl rfl (Qt_loadA (m := 3) (cs := Mem.cells (Mem.mk (SI.mk (some a7) 1 [word]) (SS.mk none 0 []) (tick % 1000))) rfl rfl rfl rfl ⟨rfl, Rdc.blk (.tail _ (.tail _ (.tail _ (.head _)))) rfl⟩) ?_
          refine Ow_qw rfl rfl rfl rfl rfl rfl (Qt_loadA (m := 5) (cs := Access.cells (Access.mk 4 0 word 0 x24)) rfl rfl rfl rfl ⟨rfl, Rdc.blk (.tail _ (.tail _ (.head _))) rfl⟩) ?_
          refine Ow_want rfl rfl rfl rfl (OpW_callP (v0 := (.bool (grantedS (Mem.mk (SI.mk (some a7) 1 [word]) (SS.mk none 0 []) (tick % 1000)).abs (Access.mk 4 0 word 0 x24)))) rfl Try.call36 rfl rfl (c_granted (Mem.mk (SI.mk (some a7) 1 [word]) (SS.mk none 0 []) (tick % 1000)) (Access.mk 4 0 word 0 x24) _ _ ⟨hs89, (Sl.nil _ _), SlAll.nil, (by first | omega | (simp only [List.length_append, List.length_cons, List.length_nil, List.length_replicate, List.length_set]; omega) | (simp; omega)), (by first | omega | (simp only [List.length_append, List.length_cons, List.length_nil, List.length_replicate, List.length_set]; omega) | (simp; omega))⟩) ?_)
          refine Ow_qw rfl rfl rfl rfl rfl rfl (Qt_move rfl) ?_
          refine Ow_qw rfl rfl rfl rfl rfl rfl (Qt_neB rfl rfl rfl) ?_
          refine Ow_q rfl rfl rfl (Qt_pick_f rfl rfl) ?_
          refine Ow_q rfl rfl rfl (Qt_move rfl) ?_
          refine Ow.known (d := 77) rfl (nt_mf (beq_self_eq_true _)) ?_
          refine Ow_qw rfl rfl rfl rfl rfl rfl (Qt_loadA (m := 3) (cs := Mem.cells m81) rfl rfl rfl rfl ⟨rfl, Rdc.blk (.tail _ (.head _)) rfl⟩) ?_
          refine Ow_qw rfl rfl rfl rfl rfl rfl (Qt_loadA (m := 3) (cs := Mem.cells (Mem.mk (SI.mk (some a7) 1 [word]) (SS.mk none 0 []) (tick % 1000))) rfl rfl rfl rfl ⟨rfl, Rdc.blk (.tail _ (.tail _ (.tail _ (.head _)))) rfl⟩) ?_
          refine Ow_want rfl rfl rfl rfl (OpW_callP (v0 := (.bool (decide (m81.abs = (Mem.mk (SI.mk (some a7) 1 [word]) (SS.mk none 0 []) (tick % 1000)).abs)))) rfl Try.call38 rfl rfl (c_sameMem m81 (Mem.mk (SI.mk (some a7) 1 [word]) (SS.mk none 0 []) (tick % 1000)) _ _ hm85 ⟨hs89, (Sl.nil _ _), SlAll.nil, (by first | omega | (simp only [List.length_append, List.length_cons, List.length_nil, List.length_replicate, List.length_set]; omega) | (simp; omega)), (by first | omega | (simp only [List.length_append, List.length_cons, List.length_nil, List.length_replicate, List.length_set]; omega) | (simp; omega))⟩) ?_)
          refine Ow_qw rfl rfl rfl rfl rfl rfl (Qt_not rfl) ?_
          refine Ow_q rfl rfl rfl (Qt_pick_f rfl rfl) ?_
          refine Ow_nil ?_
          refine Cw_cond rfl ?_ ?_
          · intro h93
            have h93 := nt_t (h93)
            refine Cw_seq ?_
            refine Cw_region ?_
            refine Ow_q rfl rfl rfl (Qt_assign rfl) ?_
            refine Ow_nil ?_
            refine Cw_ret ?_
            refine ⟨(by first | exact .inl rfl | exact .inr rfl), [(.bool false)], G, ⟨(.bool false), _, rfl, rfl, rfl⟩, .cons _ (.cons _ (.cons _ (.cons _ (.refl _)))), ?_⟩
            exfalso
            first | omega | (simp_all [Answer.abs, An.mk.injEq, an0, dcd_eq]; done) | (simp_all [Answer.abs, An.mk.injEq, an0, dcd_eq]; omega)
          · intro h93
            have h93 := nt_f (h93)
            refine Cw_skip ?_
            refine Cw_seq ?_
            refine Cw_seq ?_
            refine Cw_region ?_
            refine Ow_q rfl rfl rfl (Qt_move rfl) ?_
            refine Ow_q rfl rfl rfl (Qt_move rfl) ?_
            refine Ow_caseG rfl rfl rfl ?_ ?_
            · intro h94
              refine Ow_qw rfl rfl rfl rfl rfl rfl (Qt_fieldAddr (m := 0) rfl rfl rfl rfl rfl) ?_
              refine Ow_qw rfl rfl rfl rfl rfl rfl (Qt_load1 (v := (.int .u64 b82.value)) rfl rfl rfl (Rdc.blk (.head _) rfl)) ?_
              refine Ow_qw rfl rfl rfl rfl rfl rfl (Qt_move rfl) ?_
              refine Ow_qw rfl rfl rfl rfl rfl rfl (Qt_cmp rfl rfl rfl) ?_
              refine Ow_qw rfl rfl rfl rfl rfl rfl (Qt_move rfl) ?_
              refine Ow_caseG rfl rfl rfl ?_ ?_
              · intro h95
                have h95 := dcd_f (nt_t (h95))
                refine Ow_pass rfl rfl rfl rfl rfl rfl rfl ?_
                refine Ow_pass rfl rfl rfl rfl rfl rfl rfl ?_
                refine Ow_pass rfl rfl rfl rfl rfl rfl rfl ?_
                refine Ow_pass rfl rfl rfl rfl rfl rfl rfl ?_
                refine Ow_pass rfl rfl rfl rfl rfl rfl rfl ?_
                refine Ow_pass rfl rfl rfl rfl rfl rfl rfl ?_
                refine Ow_qw rfl rfl rfl rfl rfl rfl (Qt_pick_t rfl rfl) ?_
                refine Ow_qw rfl rfl rfl rfl rfl rfl (Qt_move rfl) ?_
                refine Ow_pass rfl rfl rfl rfl rfl rfl rfl ?_
                refine Ow_pass rfl rfl rfl rfl rfl rfl rfl ?_
                refine Ow_qw rfl rfl rfl rfl rfl rfl (Qt_pick_t rfl rfl) ?_
                refine Ow_q rfl rfl rfl (Qt_pick_t rfl rfl) ?_
                refine Ow_nil ?_
                refine Cw_cond_t rfl ?_
                refine Cw_seq ?_
                refine Cw_region ?_
                refine Ow_q rfl rfl rfl (Qt_assign rfl) ?_
                refine Ow_nil ?_
                refine Cw_ret ?_
                refine ⟨(by first | exact .inl rfl | exact .inr rfl), [(.bool false)], G, ⟨(.bool false), _, rfl, rfl, rfl⟩, .cons _ (.cons _ (.cons _ (.cons _ (.refl _)))), ?_⟩
                exfalso
                first | omega | (simp_all [Answer.abs, An.mk.injEq, an0, dcd_eq]; done) | (simp_all [Answer.abs, An.mk.injEq, an0, dcd_eq]; omega)
              · intro h95
                have h95 := dcd_t (nt_f (h95))
                refine Ow_qw rfl rfl rfl rfl rfl rfl (Qt_fieldAddr (m := 2) rfl rfl rfl rfl rfl) ?_
                refine Ow_qw rfl rfl rfl rfl rfl rfl (Qt_load1 (v := (.bool b82.late)) rfl rfl rfl (Rdc.blk (.head _) rfl)) ?_
                refine Ow_qw rfl rfl rfl rfl rfl rfl (Qt_move rfl) ?_
                refine Ow_qw rfl rfl rfl rfl rfl rfl (Qt_move rfl) ?_
                refine Ow_qw rfl rfl rfl rfl rfl rfl (Qt_cmp rfl rfl rfl) ?_
                refine Ow_qw rfl rfl rfl rfl rfl rfl (Qt_neB rfl rfl rfl) ?_
                refine Ow_qw rfl rfl rfl rfl rfl rfl (Qt_pick_f rfl rfl) ?_
                refine Ow_qw rfl rfl rfl rfl rfl rfl (Qt_move rfl) ?_
                refine Ow_caseG rfl rfl rfl ?_ ?_
                · intro h96
                  have h96 := nt_t (h96)
                  refine Ow_pass rfl rfl rfl rfl rfl rfl rfl ?_
                  refine Ow_pass rfl rfl rfl rfl rfl rfl rfl ?_
                  refine Ow_qw rfl rfl rfl rfl rfl rfl (Qt_pick_t rfl rfl) ?_
                  refine Ow_q rfl rfl rfl (Qt_pick_t rfl rfl) ?_
                  refine Ow_nil ?_
                  refine Cw_cond_t rfl ?_
                  refine Cw_seq ?_
                  refine Cw_region ?_
                  refine Ow_q rfl rfl rfl (Qt_assign rfl) ?_
                  refine Ow_nil ?_
                  refine Cw_ret ?_
                  refine ⟨(by first | exact .inl rfl | exact .inr rfl), [(.bool false)], G, ⟨(.bool false), _, rfl, rfl, rfl⟩, .cons _ (.cons _ (.cons _ (.cons _ (.refl _)))), ?_⟩
                  exfalso
                  first | omega | (simp_all [Answer.abs, An.mk.injEq, an0, dcd_eq]; done) | (simp_all [Answer.abs, An.mk.injEq, an0, dcd_eq]; omega)
                · intro h96
                  have h96 := nt_f (h96)
                  refine Ow_qw rfl rfl rfl rfl rfl rfl (Qt_fieldAddr (m := 1) rfl rfl rfl rfl rfl) ?_
                  refine Ow_qw rfl rfl rfl rfl rfl rfl (Qt_load1 (v := (.bool b82.ok)) rfl rfl rfl (Rdc.blk (.head _) rfl)) ?_
                  refine Ow_qw rfl rfl rfl rfl rfl rfl (Qt_pick_f rfl rfl) ?_
                  refine Ow_q rfl rfl rfl (Qt_pick_t rfl rfl) ?_
                  refine Ow_nil ?_
                  refine Cw_cond rfl ?_ ?_
                  · intro h97
                    refine Cw_seq ?_
                    refine Cw_region ?_
                    refine Ow_q rfl rfl rfl (Qt_assign rfl) ?_
                    refine Ow_nil ?_
                    refine Cw_ret ?_
                    refine ⟨(by first | exact .inl rfl | exact .inr rfl), [(.bool false)], G, ⟨(.bool false), _, rfl, rfl, rfl⟩, .cons _ (.cons _ (.cons _ (.cons _ (.refl _)))), ?_⟩
                    exfalso
                    first | omega | (simp_all [Answer.abs, An.mk.injEq, an0, dcd_eq]; done) | (simp_all [Answer.abs, An.mk.injEq, an0, dcd_eq]; omega)
                  · intro h97
                    refine Cw_skip ?_
                    refine Cw_seq ?_
                    refine Cw_region ?_
                    refine Ow_q rfl rfl rfl (Qt_move rfl) ?_
                    have hm98 : (0 : Int) < 5 ∧ (5 : Int) ≤ 9223372036854775807 := (by first | omega | (simp only [List.length_append, List.length_cons, List.length_nil, List.length_replicate, List.length_set]; omega) | (simp; omega))
                    have he99 := Int.emod_nonneg until_ (show (5 : Int) ≠ 0 by omega)
                    have he100 := Int.emod_lt_of_pos until_ (show (0 : Int) < 5 by omega)
                    refine Ow_cons rfl (OpW_callP (v0 := (.int .i64 (until_ % 5))) rfl Try.call23 rfl rfl (c_mod until_ 5 hm98 _ _ trivial) ?_)
                    refine Ow_q rfl rfl rfl (Qt_arith (e := 1 + (until_ % 5)) rfl rfl rfl (IntWalk.i64_in _ (by omega))) ?_
                    refine Ow_q rfl rfl rfl (Qt_fieldAddr (m := 1) rfl rfl rfl rfl rfl) ?_
                    refine Ow_cons rfl (OpW_store (vs := [(.int .i64 (1 + (until_ % 5)))]) (all' := [(.int .i64 4), (.int .i64 (1 + (until_ % 5))), (.int .u64 word), (.int .u64 0), (.int .i64 x24)]) rfl rfl rfl rfl rfl (.there (.there .here)) rfl rfl rfl ?_)
                    refine Ow_nil ?_
                    refine Cw_seq ?_
                    refine Cw_region ?_
                    refine Ow_q rfl rfl rfl (Qt_loadA (m := 3) (cs := Mem.cells (Mem.mk (SI.mk (some a7) 1 [word]) (SS.mk none 0 []) (tick % 1000))) rfl rfl rfl rfl ⟨rfl, Rdc.blk (.tail _ (.tail _ (.tail _ (.head _)))) rfl⟩) ?_
                    refine Ow_q rfl rfl rfl (Qt_loadA (m := 5) (cs := Access.cells (Access.mk 4 (1 + (until_ % 5)) word 0 x24)) rfl rfl rfl rfl ⟨rfl, Rdc.blk (.tail _ (.tail _ (.head _))) rfl⟩) ?_
                    refine Ow_cons rfl (OpW_call rfl Try.call34 rfl rfl (c_apply (Mem.mk (SI.mk (some a7) 1 [word]) (SS.mk none 0 []) (tick % 1000)) (Access.mk 4 (1 + (until_ % 5)) word 0 x24) _ _ ⟨hs89, (Sl.nil _ _), SlAll.nil, (by first | omega | (simp only [List.length_append, List.length_cons, List.length_nil, List.length_replicate, List.length_set]; omega) | (simp; omega)), (by first | omega | (simp only [List.length_append, List.length_cons, List.length_nil, List.length_replicate, List.length_set]; omega) | (simp; omega))⟩) ?_)
                    rintro _ K103 _ hK104 ⟨m101, b102, rfl, rfl, hm105, hb106, he107⟩
                    have he1071 : m101.abs = (applyS (Mem.mk (SI.mk (some a7) 1 [word]) (SS.mk none 0 []) (tick % 1000)).abs (Access.mk 4 (1 + (until_ % 5)) word 0 x24)).1 := by rw [← he107]
                    have he1072 : b102.abs = (applyS (Mem.mk (SI.mk (some a7) 1 [word]) (SS.mk none 0 []) (tick % 1000)).abs (Access.mk 4 (1 + (until_ % 5)) word 0 x24)).2 := by rw [← he107]
                    have hs108 := hs88.mono hK104
                    have hs109 := hs89.mono hK104
                    have hs110 := hb86.mono hK104
                    have hs111 := hm85.mono hK104
                    have hm105w := Sl.le hm105.w
                    have hm105l := Sl.le hm105.l
                    have hm105zw := hm105.zw
                    have hm105zl := hm105.zl
                    refine Ow_q rfl rfl rfl (Qt_move rfl) ?_
                    refine Ow_q rfl rfl rfl (Qt_extract rfl rfl) ?_
                    refine Ow_q rfl rfl rfl (Qt_extract rfl rfl) ?_
                    refine Ow_q rfl rfl rfl (Qt_extract rfl rfl) ?_
                    refine Ow_cons rfl (OpW_alloc (cs := [(.slice none 0 0), (.slice none 0 0), (.int .i64 0)]) rfl rfl rfl rfl (fun b112 => ?_))
                    refine Ow_cons rfl (OpW_alloc (cs := [(.int .u64 0), (.bool false), (.bool false), (.slice none 0 0)]) rfl rfl rfl rfl (fun b113 => ?_))
                    refine Ow_cons rfl (OpW_store (vs := [(.slice m101.words.A m101.words.l.length m101.words.cp), (.slice m101.lists.A m101.lists.l.length m101.lists.cp), (.int .i64 m101.tick)]) (all' := [(.slice m101.words.A m101.words.l.length m101.words.cp), (.slice m101.lists.A m101.lists.l.length m101.lists.cp), (.int .i64 m101.tick)]) rfl rfl rfl rfl rfl (.there .here) rfl rfl rfl ?_)
                    refine Ow_cons rfl (OpW_store (vs := [(.int .u64 b102.value), (.bool b102.ok), (.bool b102.late), (.slice b102.list.A b102.list.l.length b102.list.cp)]) (all' := [(.int .u64 b102.value), (.bool b102.ok), (.bool b102.late), (.slice b102.list.A b102.list.l.length b102.list.cp)]) rfl rfl rfl rfl rfl .here rfl rfl rfl ?_)
                    refine Ow_q rfl rfl rfl (Qt_assign rfl) ?_
                    refine Ow_nil ?_
                    refine Cw_seq ?_
                    refine Cw_region ?_
                    refine Ow_q rfl rfl rfl (Qt_move rfl) ?_
                    refine Ow_q rfl rfl rfl (Qt_not rfl) ?_
                    refine Ow_q rfl rfl rfl (Qt_move rfl) ?_
                    refine Ow_caseG rfl rfl rfl ?_ ?_
                    · intro h114
                      have h114 := nt_t (h114)
                      refine Ow_pass rfl rfl rfl rfl rfl rfl rfl ?_
                      refine Ow_pass rfl rfl rfl rfl rfl rfl rfl ?_
                      refine Ow_pass rfl rfl rfl rfl rfl rfl rfl ?_
                      refine Ow_pass rfl rfl rfl rfl rfl rfl rfl ?_
                      refine Ow_q rfl rfl rfl (Qt_pick_t rfl rfl) ?_
                      refine Ow_nil ?_
                      refine Cw_cond_t rfl ?_
                      refine Cw_seq ?_
                      refine Cw_region ?_
                      refine Ow_q rfl rfl rfl (Qt_assign rfl) ?_
                      refine Ow_nil ?_
                      refine Cw_ret ?_
                      refine ⟨(by first | exact .inl rfl | exact .inr rfl), [(.bool false)], G, ⟨(.bool false), _, rfl, rfl, rfl⟩, .cons _ (.cons _ (.cons _ (.cons _ (.cons _ (.cons _ (.refl _)))))), ?_⟩
                      exfalso
                      first | omega | (simp_all [Answer.abs, An.mk.injEq, an0, dcd_eq]; done) | (simp_all [Answer.abs, An.mk.injEq, an0, dcd_eq]; omega)
                    · intro h114
                      have h114 := nt_f (h114)
                      refine Ow_qw rfl rfl rfl rfl rfl rfl (Qt_loadA (m := 4) (cs := Answer.cells b102) rfl rfl rfl rfl ⟨rfl, Rdc.blk (.head _) rfl⟩) ?_
                      refine Ow_qw rfl rfl rfl rfl rfl rfl (Qt_build (cs := Answer.cells (Answer.mk 0 false false (SI.mk none 0 []))) rfl rfl rfl rfl rfl rfl) ?_
                      refine Ow_want rfl rfl rfl rfl (OpW_callP (v0 := (.bool (decide (b102.abs = (Answer.mk 0 false false (SI.mk none 0 [])).abs)))) rfl Try.call39 rfl rfl (c_sameAns b102 (Answer.mk 0 false false (SI.mk none 0 [])) _ _ hb106 ⟨(Sl.nil _ _)⟩) ?_)
                      refine Ow_qw rfl rfl rfl rfl rfl rfl (Qt_not rfl) ?_
                      refine Ow_q rfl rfl rfl (Qt_pick_f rfl rfl) ?_
                      refine Ow_nil ?_
                      refine Cw_cond rfl ?_ ?_
                      · intro h115
                        have h115 := nt_t (h115)
                        refine Cw_seq ?_
                        refine Cw_region ?_
                        refine Ow_q rfl rfl rfl (Qt_assign rfl) ?_
                        refine Ow_nil ?_
                        refine Cw_ret ?_
                        refine ⟨(by first | exact .inl rfl | exact .inr rfl), [(.bool false)], G, ⟨(.bool false), _, rfl, rfl, rfl⟩, .cons _ (.cons _ (.cons _ (.cons _ (.cons _ (.cons _ (.refl _)))))), ?_⟩
                        exfalso
                        first | omega | (simp_all [Answer.abs, An.mk.injEq, an0, dcd_eq]; done) | (simp_all [Answer.abs, An.mk.injEq, an0, dcd_eq]; omega)
                      · intro h115
                        have h115 := nt_f (h115)
                        refine Cw_skip ?_
                        refine Cw_region ?_
                        refine Ow_q rfl rfl rfl (Qt_arith (e := (((i : Nat) : Int) + 1)) rfl rfl rfl (wrap_eq (by omega) (by omega))) ?_
                        refine Ow_q rfl rfl rfl (Qt_move rfl) ?_
                        refine Ow_nil ?_
                        refine ⟨_, [(0, (.int .u64 word)), (1, (.int .u64 word)), (2, (.int .i64 (tick % 1000))), (3, (.int .i64 until_)), (11, (.pointer (some ((⟨b8, 0, none⟩ : Addr).add 0)))), (38, (.slice (some a9) 5 5)), (39, (.int .i64 5)), (40, (.int .i64 (((i + 1) : Nat) : Int)))], .blk b8 49 [(.slice (some a7) 1 1), (.slice none 0 0), (.int .i64 (tick % 1000))] :: G, ⟨rfl, rfl, rfl, rfl, rfl, rfl, rfl, rfl, trivial⟩, (.cons _ (.cons _ (.cons _ (.cons _ (.cons _ (.cons_cons _ (.refl _))))))), (by first | omega | (simp only [List.length_append, List.length_cons, List.length_nil]; omega)), (i + 1), rfl, rfl, rfl, (by first | omega | (simp only [List.length_append, List.length_cons, List.length_nil, List.length_replicate, List.length_set]; omega) | (simp; omega))⟩
            · intro h94
              refine Ow_pass rfl rfl rfl rfl rfl rfl rfl ?_
              refine Ow_pass rfl rfl rfl rfl rfl rfl rfl ?_
              refine Ow_pass rfl rfl rfl rfl rfl rfl rfl ?_
              refine Ow_pass rfl rfl rfl rfl rfl rfl rfl ?_
              refine Ow_pass rfl rfl rfl rfl rfl rfl rfl ?_
              refine Ow_passU rfl rfl rfl rfl rfl ?_
              refine Ow_passU rfl rfl rfl rfl rfl ?_
              refine Ow_passU rfl rfl rfl rfl rfl ?_
              refine Ow_passU rfl rfl rfl rfl rfl ?_
              refine Ow_passU rfl rfl rfl rfl rfl ?_
              refine Ow_passU rfl rfl rfl rfl rfl ?_
              refine Ow_pass rfl rfl rfl rfl rfl rfl rfl ?_
              refine Ow_pass rfl rfl rfl rfl rfl rfl rfl ?_
              refine Ow_passU rfl rfl rfl rfl rfl ?_
              refine Ow_passU rfl rfl rfl rfl rfl ?_
              refine Ow_pass rfl rfl rfl rfl rfl rfl rfl ?_
              refine Ow_q rfl rfl rfl (Qt_pick_f rfl rfl) ?_
              refine Ow_nil ?_
              refine Cw_cond_f rfl ?_
              refine Cw_skip ?_
              refine Cw_seq ?_
              refine Cw_region ?_
              refine Ow_q rfl rfl rfl (Qt_move rfl) ?_
              have hm116 : (0 : Int) < 5 ∧ (5 : Int) ≤ 9223372036854775807 := (by first | omega | (simp only [List.length_append, List.length_cons, List.length_nil, List.length_replicate, List.length_set]; omega) | (simp; omega))
              have he117 := Int.emod_nonneg until_ (show (5 : Int) ≠ 0 by omega)
              have he118 := Int.emod_lt_of_pos until_ (show (0 : Int) < 5 by omega)
              refine Ow_cons rfl (OpW_callP (v0 := (.int .i64 (until_ % 5))) rfl Try.call23 rfl rfl (c_mod until_ 5 hm116 _ _ trivial) ?_)
              refine Ow_q rfl rfl rfl (Qt_arith (e := 1 + (until_ % 5)) rfl rfl rfl (IntWalk.i64_in _ (by omega))) ?_
              refine Ow_q rfl rfl rfl (Qt_fieldAddr (m := 1) rfl rfl rfl rfl rfl) ?_
              refine Ow_cons rfl (OpW_store (vs := [(.int .i64 (1 + (until_ % 5)))]) (all' := [(.int .i64 4), (.int .i64 (1 + (until_ % 5))), (.int .u64 word), (.int .u64 0), (.int .i64 x24)]) rfl rfl rfl rfl rfl (.there (.there .here)) rfl rfl rfl ?_)
              refine Ow_nil ?_
              refine Cw_seq ?_
              refine Cw_region ?_
              refine Ow_q rfl rfl rfl (Qt_loadA (m := 3) (cs := Mem.cells (Mem.mk (SI.mk (some a7) 1 [word]) (SS.mk none 0 []) (tick % 1000))) rfl rfl rfl rfl ⟨rfl, Rdc.blk (.tail _ (.tail _ (.tail _ (.head _)))) rfl⟩) ?_
              refine Ow_q rfl rfl rfl (Qt_loadA (m := 5) (cs := Access.cells (Access.mk 4 (1 + (until_ % 5)) word 0 x24)) rfl rfl rfl rfl ⟨rfl, Rdc.blk (.tail _ (.tail _ (.head _))) rfl⟩) ?_
              refine Ow_cons rfl (OpW_call rfl Try.call34 rfl rfl (c_apply (Mem.mk (SI.mk (some a7) 1 [word]) (SS.mk none 0 []) (tick % 1000)) (Access.mk 4 (1 + (until_ % 5)) word 0 x24) _ _ ⟨hs89, (Sl.nil _ _), SlAll.nil, (by first | omega | (simp only [List.length_append, List.length_cons, List.length_nil, List.length_replicate, List.length_set]; omega) | (simp; omega)), (by first | omega | (simp only [List.length_append, List.length_cons, List.length_nil, List.length_replicate, List.length_set]; omega) | (simp; omega))⟩) ?_)
              rintro _ K121 _ hK122 ⟨m119, b120, rfl, rfl, hm123, hb124, he125⟩
              have he1251 : m119.abs = (applyS (Mem.mk (SI.mk (some a7) 1 [word]) (SS.mk none 0 []) (tick % 1000)).abs (Access.mk 4 (1 + (until_ % 5)) word 0 x24)).1 := by rw [← he125]
              have he1252 : b120.abs = (applyS (Mem.mk (SI.mk (some a7) 1 [word]) (SS.mk none 0 []) (tick % 1000)).abs (Access.mk 4 (1 + (until_ % 5)) word 0 x24)).2 := by rw [← he125]
              have hs126 := hs88.mono hK122
              have hs127 := hs89.mono hK122
              have hs128 := hb86.mono hK122
              have hs129 := hm85.mono hK122
              have hm123w := Sl.le hm123.w
              have hm123l := Sl.le hm123.l
              have hm123zw := hm123.zw
              have hm123zl := hm123.zl
              refine Ow_q rfl rfl rfl (Qt_move rfl) ?_
              refine Ow_q rfl rfl rfl (Qt_extract rfl rfl) ?_
              refine Ow_q rfl rfl rfl (Qt_extract rfl rfl) ?_
              refine Ow_q rfl rfl rfl (Qt_extract rfl rfl) ?_
              refine Ow_cons rfl (OpW_alloc (cs := [(.slice none 0 0), (.slice none 0 0), (.int .i64 0)]) rfl rfl rfl rfl (fun b130 => ?_))
              refine Ow_cons rfl (OpW_alloc (cs := [(.int .u64 0), (.bool false), (.bool false), (.slice none 0 0)]) rfl rfl rfl rfl (fun b131 => ?_))
              refine Ow_cons rfl (OpW_store (vs := [(.slice m119.words.A m119.words.l.length m119.words.cp), (.slice m119.lists.A m119.lists.l.length m119.lists.cp), (.int .i64 m119.tick)]) (all' := [(.slice m119.words.A m119.words.l.length m119.words.cp), (.slice m119.lists.A m119.lists.l.length m119.lists.cp), (.int .i64 m119.tick)]) rfl rfl rfl rfl rfl (.there .here) rfl rfl rfl ?_)
              refine Ow_cons rfl (OpW_store (vs := [(.int .u64 b120.value), (.bool b120.ok), (.bool b120.late), (.slice b120.list.A b120.list.l.length b120.list.cp)]) (all' := [(.int .u64 b120.value), (.bool b120.ok), (.bool b120.late), (.slice b120.list.A b120.list.l.length b120.list.cp)]) rfl rfl rfl rfl rfl .here rfl rfl rfl ?_)
              refine Ow_q rfl rfl rfl (Qt_assign rfl) ?_
              refine Ow_nil ?_
              refine Cw_seq ?_
              refine Cw_region ?_
              refine Ow_q rfl rfl rfl (Qt_move rfl) ?_
              refine Ow_q rfl rfl rfl (Qt_not rfl) ?_
              refine Ow_q rfl rfl rfl (Qt_move rfl) ?_
              refine Ow_caseG rfl rfl rfl ?_ ?_
              · intro h132
                have h132 := nt_t (h132)
                refine Ow_pass rfl rfl rfl rfl rfl rfl rfl ?_
                refine Ow_pass rfl rfl rfl rfl rfl rfl rfl ?_
                refine Ow_pass rfl rfl rfl rfl rfl rfl rfl ?_
                refine Ow_pass rfl rfl rfl rfl rfl rfl rfl ?_
                refine Ow_q rfl rfl rfl (Qt_pick_t rfl rfl) ?_
                refine Ow_nil ?_
                refine Cw_cond_t rfl ?_
                refine Cw_seq ?_
                refine Cw_region ?_
                refine Ow_q rfl rfl rfl (Qt_assign rfl) ?_
                refine Ow_nil ?_
                refine Cw_ret ?_
                refine ⟨(by first | exact .inl rfl | exact .inr rfl), [(.bool false)], G, ⟨(.bool false), _, rfl, rfl, rfl⟩, .cons _ (.cons _ (.cons _ (.cons _ (.cons _ (.cons _ (.refl _)))))), ?_⟩
                exfalso
                first | omega | (simp_all [Answer.abs, An.mk.injEq, an0, dcd_eq]; done) | (simp_all [Answer.abs, An.mk.injEq, an0, dcd_eq]; omega)
              · intro h132
                have h132 := nt_f (h132)
                refine Ow_qw rfl rfl rfl rfl rfl rfl (Qt_loadA (m := 4) (cs := Answer.cells b120) rfl rfl rfl rfl ⟨rfl, Rdc.blk (.head _) rfl⟩) ?_
                refine Ow_qw rfl rfl rfl rfl rfl rfl (Qt_build (cs := Answer.cells (Answer.mk 0 false false (SI.mk none 0 []))) rfl rfl rfl rfl rfl rfl) ?_
                refine Ow_want rfl rfl rfl rfl (OpW_callP (v0 := (.bool (decide (b120.abs = (Answer.mk 0 false false (SI.mk none 0 [])).abs)))) rfl Try.call39 rfl rfl (c_sameAns b120 (Answer.mk 0 false false (SI.mk none 0 [])) _ _ hb124 ⟨(Sl.nil _ _)⟩) ?_)
                refine Ow_qw rfl rfl rfl rfl rfl rfl (Qt_not rfl) ?_
                refine Ow_q rfl rfl rfl (Qt_pick_f rfl rfl) ?_
                refine Ow_nil ?_
                refine Cw_cond rfl ?_ ?_
                · intro h133
                  have h133 := nt_t (h133)
                  refine Cw_seq ?_
                  refine Cw_region ?_
                  refine Ow_q rfl rfl rfl (Qt_assign rfl) ?_
                  refine Ow_nil ?_
                  refine Cw_ret ?_
                  refine ⟨(by first | exact .inl rfl | exact .inr rfl), [(.bool false)], G, ⟨(.bool false), _, rfl, rfl, rfl⟩, .cons _ (.cons _ (.cons _ (.cons _ (.cons _ (.cons _ (.refl _)))))), ?_⟩
                  exfalso
                  first | omega | (simp_all [Answer.abs, An.mk.injEq, an0, dcd_eq]; done) | (simp_all [Answer.abs, An.mk.injEq, an0, dcd_eq]; omega)
                · intro h133
                  have h133 := nt_f (h133)
                  refine Cw_skip ?_
                  refine Cw_region ?_
                  refine Ow_q rfl rfl rfl (Qt_arith (e := (((i : Nat) : Int) + 1)) rfl rfl rfl (wrap_eq (by omega) (by omega))) ?_
                  refine Ow_q rfl rfl rfl (Qt_move rfl) ?_
                  refine Ow_nil ?_
                  refine ⟨_, [(0, (.int .u64 word)), (1, (.int .u64 word)), (2, (.int .i64 (tick % 1000))), (3, (.int .i64 until_)), (11, (.pointer (some ((⟨b8, 0, none⟩ : Addr).add 0)))), (38, (.slice (some a9) 5 5)), (39, (.int .i64 5)), (40, (.int .i64 (((i + 1) : Nat) : Int)))], .blk b8 49 [(.slice (some a7) 1 1), (.slice none 0 0), (.int .i64 (tick % 1000))] :: G, ⟨rfl, rfl, rfl, rfl, rfl, rfl, rfl, rfl, trivial⟩, (.cons _ (.cons _ (.cons _ (.cons _ (.cons _ (.cons_cons _ (.refl _))))))), (by first | omega | (simp only [List.length_append, List.length_cons, List.length_nil]; omega)), (i + 1), rfl, rfl, rfl, (by first | omega | (simp only [List.length_append, List.length_cons, List.length_nil, List.length_replicate, List.length_set]; omega) | (simp; omega))⟩
    · intro h23
      have h23 := dcd_f (h23)
      refine Cw_exit ?_
      refine Cw_seq ?_
      refine Cw_region ?_
      refine Ow_q rfl rfl rfl (Qt_assign rfl) ?_
      refine Ow_nil ?_
      refine Cw_ret ?_
      refine ⟨(by first | exact .inl rfl | exact .inr rfl), [(.bool true)], G, ⟨(.bool true), _, rfl, rfl, rfl⟩, .cons _ (.refl _), ?_⟩
      rfl
  · intro h6
    refine Cw_skip ?_
    refine Cw_seq ?_
    refine Cw_region ?_
    refine Ow_q rfl rfl rfl (Qt_move rfl) ?_
    refine Ow_cons rfl (OpW_buildSliceX (xs := (([word]).map u64c).flatten) rfl rfl rfl rfl rfl rfl rfl rfl rfl rfl rfl (fun a134 => ?_))
    refine Ow_q rfl rfl rfl (Qt_move rfl) ?_
    refine Ow_q rfl rfl rfl (Qt_build (cs := Mem.cells (Mem.mk (SI.mk (some a134) 1 [word]) (SS.mk none 0 []) (tick % 1000))) rfl rfl rfl rfl rfl rfl) ?_
    refine Ow_cons rfl (OpW_alloc (cs := [(.slice none 0 0), (.slice none 0 0), (.int .i64 0)]) rfl rfl rfl rfl (fun b135 => ?_))
    refine Ow_cons rfl (OpW_store (vs := [(.slice (some a134) 1 1), (.slice none 0 0), (.int .i64 (tick % 1000))]) (all' := [(.slice (some a134) 1 1), (.slice none 0 0), (.int .i64 (tick % 1000))]) rfl rfl rfl rfl rfl .here rfl rfl rfl ?_)
    refine Ow_nil ?_
    refine Cw_seq ?_
    refine Cw_seq ?_
    refine Cw_region ?_
    refine Ow_q rfl rfl rfl (Qt_move rfl) ?_
    refine Ow_q rfl rfl rfl (Qt_move rfl) ?_
    refine Ow_q rfl rfl rfl (Qt_move rfl) ?_
    refine Ow_q rfl rfl rfl (Qt_arith (e := (tick % 1000) + 1) rfl rfl rfl (IntWalk.i64_in _ (by omega))) ?_
    refine Ow_q rfl rfl rfl (Qt_move rfl) ?_
    refine Ow_q rfl rfl rfl (Qt_arith (e := (tick % 1000) + 2) rfl rfl rfl (IntWalk.i64_in _ (by omega))) ?_
    refine Ow_cons rfl (OpW_buildSliceX (xs := (([until_, (tick % 1000), (tick % 1000) + 1, (tick % 1000) + 2, 0]).map i64c).flatten) rfl rfl rfl rfl rfl rfl rfl rfl rfl rfl rfl (fun a136 => ?_))
    refine Ow_q rfl rfl rfl (Qt_len rfl rfl) ?_
    refine Ow_q rfl rfl rfl (Qt_move rfl) ?_
    refine Ow_nil ?_
    refine Cw_block ?_
    refine Cw.settleT Enc.i64 rfl (.here) ?_
    intro K137 hK138 hs139
    have hl140 := Sl.le hs139
    refine Cw.settleT Enc.u64 rfl (.there (.here)) ?_
    intro K141 hK142 hs143
    have hs144 := hs139.mono hK142
    have hl145 := Sl.le hs143
    have hall : ∀ x ∈ [until_, (tick % 1000), (tick % 1000) + 1, (tick % 1000) + 2, 0], -9223372036854775808 ≤ x ∧ x ≤ 9223372036854775807 := by intro x hx; simp at hx; omega
    refine Cw_loop (S := Nat) (fun s env' K' G' => ∃ (i : Nat), [until_, (tick % 1000), (tick % 1000) + 1, (tick % 1000) + 2, 0].length - i = s ∧ [(0, (.int .u64 word)), (1, (.int .u64 old)), (2, (.int .i64 (tick % 1000))), (3, (.int .i64 until_)), (11, (.pointer (some ((⟨b135, 0, none⟩ : Addr).add 0)))), (38, (.slice (some a136) 5 5)), (39, (.int .i64 5)), (40, (.int .i64 ((i : Nat) : Int)))] = env' ∧ .blk b135 49 [(.slice (some a134) 1 1), (.slice none 0 0), (.int .i64 (tick % 1000))] :: G = G' ∧ i ≤ [until_, (tick % 1000), (tick % 1000) + 1, (tick % 1000) + 2, 0].length) (fun s => s) ([until_, (tick % 1000), (tick % 1000) + 1, (tick % 1000) + 2, 0].length - 0) [(0, (.int .u64 word)), (1, (.int .u64 old)), (2, (.int .i64 (tick % 1000))), (3, (.int .i64 until_)), (11, (.pointer (some ((⟨b135, 0, none⟩ : Addr).add 0)))), (38, (.slice (some a136) 5 5)), (39, (.int .i64 5)), (40, (.int .i64 ((0 : Nat) : Int)))] (.blk b135 49 [(.slice (some a134) 1 1), (.slice none 0 0), (.int .i64 (tick % 1000))] :: G)
      ⟨0, rfl, rfl, rfl, (Nat.zero_le _)⟩ ⟨rfl, rfl, rfl, rfl, rfl, rfl, rfl, rfl, trivial⟩ (.cons_cons _ (.refl _)) ?_
    rintro s _ K146 _ hK147 ⟨i, rfl, rfl, rfl, hi⟩
    have hs148 := hs144.mono hK147
    have hs149 := hs143.mono hK147
    refine Cw_seq ?_
    refine Cw_region ?_
    refine Ow_q rfl rfl rfl (Qt_cmp rfl rfl rfl) ?_
    refine Ow_nil ?_
    refine Cw_seq ?_
    refine Cw_cond rfl ?_ ?_
    · intro h150
      have h150 := dcd_t (h150)
      refine Cw_skip ?_
      refine Cw_seq ?_
      refine Cw_block ?_
      refine Cw_seq ?_
      refine Cw_region ?_
      obtain ⟨x151, hx152⟩ : ∃ x, [until_, (tick % 1000), (tick % 1000) + 1, (tick % 1000) + 2, 0][i]? = some x := ⟨_, List.getElem?_eq_getElem (by first | omega | (simp only [List.length_append, List.length_cons, List.length_nil, List.length_replicate, List.length_set]; omega) | (simp; omega))⟩
      have hr := hall _ (List.mem_of_getElem? hx152)
      have hw1 := waits_iff (some a134) none 1 0 word old (tick % 1000) x151 (by omega)
      have hw2 := waits_app (some a134) none 1 0 word old (tick % 1000) x151
      have hw3 := waits_out (some a134) none 1 0 word old (tick % 1000) x151 (1 + until_ % 5) (by omega)
      refine Ow_q rfl rfl rfl (Qt_ixK (q := i) rfl rfl rfl rfl rfl hs148 rfl (map_get hx152)) ?_
      refine Ow_q rfl rfl rfl (Qt_load1 (v := (.int .i64 x151)) rfl rfl rfl (Rdc.k (Sl.at hs148 (map_get hx152)) rfl)) ?_
      refine Ow_q rfl rfl rfl (Qt_assign rfl) ?_
      refine Ow_nil ?_
      refine Cw_seq ?_
      refine Cw_region ?_
      refine Ow_q rfl rfl rfl (Qt_move rfl) ?_
      refine Ow_q rfl rfl rfl (Qt_move rfl) ?_
      refine Ow_q rfl rfl rfl (Qt_build (cs := Access.cells (Access.mk 4 0 old 0 x151)) rfl rfl rfl rfl rfl rfl) ?_
      refine Ow_cons rfl (OpW_alloc (cs := [(.int .i64 0), (.int .i64 0), (.int .u64 0), (.int .u64 0), (.int .i64 0)]) rfl rfl rfl rfl (fun b153 => ?_))
      refine Ow_cons rfl (OpW_store (vs := [(.int .i64 4), (.int .i64 0), (.int .u64 old), (.int .u64 0), (.int .i64 x151)]) (all' := [(.int .i64 4), (.int .i64 0), (.int .u64 old), (.int .u64 0), (.int .i64 x151)]) rfl rfl rfl rfl rfl .here rfl rfl rfl ?_)
      refine Ow_nil ?_
      refine Cw_seq ?_
      refine Cw_region ?_
      refine Ow_q rfl rfl rfl (Qt_move rfl) ?_
      refine Ow_q rfl rfl rfl (Qt_cmp rfl rfl rfl) ?_
      refine Ow_q rfl rfl rfl (Qt_move rfl) ?_
      refine Ow_caseG rfl rfl rfl ?_ ?_
      · intro h154
        have h154 := dcd_t (h154)
        refine Ow_qw rfl rfl rfl rfl rfl rfl (Qt_move rfl) ?_
        refine Ow_qw rfl rfl rfl rfl rfl rfl (Qt_move rfl) ?_
        refine Ow_qw rfl rfl rfl rfl rfl rfl (Qt_arith (e := (tick % 1000) + 1) rfl rfl rfl (IntWalk.i64_in _ (by omega))) ?_
        refine Ow_qw rfl rfl rfl rfl rfl rfl (Qt_cmp rfl rfl rfl) ?_
        refine Ow_q rfl rfl rfl (Qt_pick_t rfl rfl) ?_
        refine Ow_q rfl rfl rfl (Qt_assign rfl) ?_
        refine Ow_nil ?_
        refine Cw_seq ?_
        refine Cw_region ?_
        refine Ow_q rfl rfl rfl (Qt_loadA (m := 3) (cs := Mem.cells (Mem.mk (SI.mk (some a134) 1 [word]) (SS.mk none 0 []) (tick % 1000))) rfl rfl rfl rfl ⟨rfl, Rdc.blk (.tail _ (.head _)) rfl⟩) ?_
        refine Ow_q rfl rfl rfl (Qt_loadA (m := 5) (cs := Access.cells (Access.mk 4 0 old 0 x151)) rfl rfl rfl rfl ⟨rfl, Rdc.blk (.head _) rfl⟩) ?_
        refine Ow_cons rfl (OpW_call rfl Try.call34 rfl rfl (c_apply (Mem.mk (SI.mk (some a134) 1 [word]) (SS.mk none 0 []) (tick % 1000)) (Access.mk 4 0 old 0 x151) _ _ ⟨hs149, (Sl.nil _ _), SlAll.nil, (by first | omega | (simp only [List.length_append, List.length_cons, List.length_nil, List.length_replicate, List.length_set]; omega) | (simp; omega)), (by first | omega | (simp only [List.length_append, List.length_cons, List.length_nil, List.length_replicate, List.length_set]; omega) | (simp; omega))⟩) ?_)
        rintro _ K157 _ hK158 ⟨m155, b156, rfl, rfl, hm159, hb160, he161⟩
        have he1611 : m155.abs = (applyS (Mem.mk (SI.mk (some a134) 1 [word]) (SS.mk none 0 []) (tick % 1000)).abs (Access.mk 4 0 old 0 x151)).1 := by rw [← he161]
        have he1612 : b156.abs = (applyS (Mem.mk (SI.mk (some a134) 1 [word]) (SS.mk none 0 []) (tick % 1000)).abs (Access.mk 4 0 old 0 x151)).2 := by rw [← he161]
        have hs162 := hs148.mono hK158
        have hs163 := hs149.mono hK158
        have hm159w := Sl.le hm159.w
        have hm159l := Sl.le hm159.l
        have hm159zw := hm159.zw
        have hm159zl := hm159.zl
        refine Ow_q rfl rfl rfl (Qt_move rfl) ?_
        refine Ow_q rfl rfl rfl (Qt_extract rfl rfl) ?_
        refine Ow_q rfl rfl rfl (Qt_extract rfl rfl) ?_
        refine Ow_q rfl rfl rfl (Qt_extract rfl rfl) ?_
        refine Ow_cons rfl (OpW_alloc (cs := [(.slice none 0 0), (.slice none 0 0), (.int .i64 0)]) rfl rfl rfl rfl (fun b164 => ?_))
        refine Ow_cons rfl (OpW_alloc (cs := [(.int .u64 0), (.bool false), (.bool false), (.slice none 0 0)]) rfl rfl rfl rfl (fun b165 => ?_))
        refine Ow_cons rfl (OpW_store (vs := [(.slice m155.words.A m155.words.l.length m155.words.cp), (.slice m155.lists.A m155.lists.l.length m155.lists.cp), (.int .i64 m155.tick)]) (all' := [(.slice m155.words.A m155.words.l.length m155.words.cp), (.slice m155.lists.A m155.lists.l.length m155.lists.cp), (.int .i64 m155.tick)]) rfl rfl rfl rfl rfl (.there .here) rfl rfl rfl ?_)
        refine Ow_cons rfl (OpW_store (vs := [(.int .u64 b156.value), (.bool b156.ok), (.bool b156.late), (.slice b156.list.A b156.list.l.length b156.list.cp)]) (all' := [(.int .u64 b156.value), (.bool b156.ok), (.bool b156.late), (.slice b156.list.A b156.list.l.length b156.list.cp)]) rfl rfl rfl rfl rfl .here rfl rfl rfl ?_)
        refine Ow_q rfl rfl rfl (Qt_assign rfl) ?_
        refine Ow_nil ?_
        refine Cw_seq ?_
        refine Cw_seq ?_
        refine Cw_region ?_
        refine Ow_q rfl rfl rfl (Qt_move rfl) ?_
        refine Ow_q rfl rfl rfl (Qt_move rfl) ?_
        refine Ow_q rfl rfl rfl (Qt_move rfl) ?_
        refine Ow_q rfl rfl rfl (Qt_cmp rfl rfl rfl) ?_
        refine Ow_q rfl rfl rfl (Qt_move rfl) ?_
        refine Ow_caseG rfl rfl rfl ?_ ?_
        · intro h166
          have h166 := dcd_f (nt_t (h166))
          refine Ow_pass rfl rfl rfl rfl rfl rfl rfl ?_
          refine Ow_q rfl rfl rfl (Qt_pick_t rfl rfl) ?_
          refine Ow_q rfl rfl rfl (Qt_neB rfl rfl rfl) ?_
          refine Ow_q rfl rfl rfl (Qt_move rfl) ?_
          refine Ow_caseG rfl rfl rfl ?_ ?_
          · intro h167
            have h167 := nt_t (h167)
            refine Ow_pass rfl rfl rfl rfl rfl rfl rfl ?_
            refine Ow_pass rfl rfl rfl rfl rfl rfl rfl ?_
            refine Ow_pass rfl rfl rfl rfl rfl rfl rfl ?_
            refine Ow_pass rfl rfl rfl rfl rfl rfl rfl ?_
            refine Ow_pass rfl rfl rfl rfl rfl rfl rfl ?_
            refine Ow_q rfl rfl rfl (Qt_pick_t rfl rfl) ?_
            refine Ow_q rfl rfl rfl (Qt_move rfl) ?_
            refine Ow_pass rfl rfl rfl rfl rfl rfl rfl ?_
            refine Ow_pass rfl rfl rfl rfl rfl rfl rfl ?_
            refine Ow_pass rfl rfl rfl rfl rfl rfl rfl ?_
            refine Ow_pass rfl rfl rfl rfl rfl rfl rfl ?_
            refine Ow_q rfl rfl rfl (Qt_pick_t rfl rfl) ?_
            refine Ow_nil ?_
            refine Cw_cond_t rfl ?_
            refine Cw_seq ?_
            refine Cw_region ?_
            refine Ow_q rfl rfl rfl (Qt_assign rfl) ?_
            refine Ow_nil ?_
            refine Cw_ret ?_
            refine ⟨(by first | exact .inl rfl | exact .inr rfl), [(.bool false)], G, ⟨(.bool false), _, rfl, rfl, rfl⟩, .cons _ (.cons _ (.cons _ (.cons _ (.refl _)))), ?_⟩
            exfalso
            first | omega | (simp_all [Answer.abs, An.mk.injEq, an0, dcd_eq]; done) | (simp_all [Answer.abs, An.mk.injEq, an0, dcd_eq]; omega)
          · intro h167
            have h167 := nt_f (h167)
            refine Ow_qw rfl rfl rfl rfl rfl rfl (Qt_loadA (m := 3) (cs := Mem.cells (Mem.mk (SI.mk (some a134) 1 [word]) (SS.mk none 0 []) (tick % 1000))) rfl rfl rfl rfl ⟨rfl, Rdc.blk (.tail _ (.tail _ (.tail _ (.head _)))) rfl⟩) ?_
            refine Ow_qw rfl rfl rfl rfl rfl rfl (Qt_loadA (m := 5) (cs := Access.cells (Access.mk 4 0 old 0 x151)) rfl rfl rfl rfl ⟨rfl, Rdc.blk (.tail _ (.tail _ (.head _))) rfl⟩) ?_
            refine Ow_want rfl rfl rfl rfl (OpW_callP (v0 := (.bool (grantedS (Mem.mk (SI.mk (some a134) 1 [word]) (SS.mk none 0 []) (tick % 1000)).abs (Access.mk 4 0 old 0 x151)))) rfl Try.call36 rfl rfl (c_granted (Mem.mk (SI.mk (some a134) 1 [word]) (SS.mk none 0 []) (tick % 1000)) (Access.mk 4 0 old 0 x151) _ _ ⟨hs163, (Sl.nil _ _), SlAll.nil, (by first | omega | (simp only [List.length_append, List.length_cons, List.length_nil, List.length_replicate, List.length_set]; omega) | (simp; omega)), (by first | omega | (simp only [List.length_append, List.length_cons, List.length_nil, List.length_replicate, List.length_set]; omega) | (simp; omega))⟩) ?_)
            refine Ow_qw rfl rfl rfl rfl rfl rfl (Qt_move rfl) ?_
            refine Ow_qw rfl rfl rfl rfl rfl rfl (Qt_neB rfl rfl rfl) ?_
            refine Ow_q rfl rfl rfl (Qt_pick_f rfl rfl) ?_
            refine Ow_q rfl rfl rfl (Qt_move rfl) ?_
            refine Ow.known (d := 77) rfl (nt_mf (beq_self_eq_true _)) ?_
            refine Ow_qw rfl rfl rfl rfl rfl rfl (Qt_loadA (m := 3) (cs := Mem.cells m155) rfl rfl rfl rfl ⟨rfl, Rdc.blk (.tail _ (.head _)) rfl⟩) ?_
            refine Ow_qw rfl rfl rfl rfl rfl rfl (Qt_loadA (m := 3) (cs := Mem.cells (Mem.mk (SI.mk (some a134) 1 [word]) (SS.mk none 0 []) (tick % 1000))) rfl rfl rfl rfl ⟨rfl, Rdc.blk (.tail _ (.tail _ (.tail _ (.head _)))) rfl⟩) ?_
            refine Ow_want rfl rfl rfl rfl (OpW_callP (v0 := (.bool (decide (m155.abs = (Mem.mk (SI.mk (some a134) 1 [word]) (SS.mk none 0 []) (tick % 1000)).abs)))) rfl Try.call38 rfl rfl (c_sameMem m155 (Mem.mk (SI.mk (some a134) 1 [word]) (SS.mk none 0 []) (tick % 1000)) _ _ hm159 ⟨hs163, (Sl.nil _ _), SlAll.nil, (by first | omega | (simp only [List.length_append, List.length_cons, List.length_nil, List.length_replicate, List.length_set]; omega) | (simp; omega)), (by first | omega | (simp only [List.length_append, List.length_cons, List.length_nil, List.length_replicate, List.length_set]; omega) | (simp; omega))⟩) ?_)
            refine Ow_qw rfl rfl rfl rfl rfl rfl (Qt_not rfl) ?_
            refine Ow_q rfl rfl rfl (Qt_pick_f rfl rfl) ?_
            refine Ow_nil ?_
            refine Cw_cond rfl ?_ ?_
            · intro h168
              have h168 := nt_t (h168)
              refine Cw_seq ?_
              refine Cw_region ?_
              refine Ow_q rfl rfl rfl (Qt_assign rfl) ?_
              refine Ow_nil ?_
              refine Cw_ret ?_
              refine ⟨(by first | exact .inl rfl | exact .inr rfl), [(.bool false)], G, ⟨(.bool false), _, rfl, rfl, rfl⟩, .cons _ (.cons _ (.cons _ (.cons _ (.refl _)))), ?_⟩
              exfalso
              first | omega | (simp_all [Answer.abs, An.mk.injEq, an0, dcd_eq]; done) | (simp_all [Answer.abs, An.mk.injEq, an0, dcd_eq]; omega)
            · intro h168
              have h168 := nt_f (h168)
              refine Cw_skip ?_
              refine Cw_seq ?_
              refine Cw_seq ?_
              refine Cw_region ?_
              refine Ow_q rfl rfl rfl (Qt_move rfl) ?_
              refine Ow_q rfl rfl rfl (Qt_move rfl) ?_
              refine Ow_caseG rfl rfl rfl ?_ ?_
              · intro h169
                refine Ow_qw rfl rfl rfl rfl rfl rfl (Qt_fieldAddr (m := 0) rfl rfl rfl rfl rfl) ?_
                refine Ow_qw rfl rfl rfl rfl rfl rfl (Qt_load1 (v := (.int .u64 b156.value)) rfl rfl rfl (Rdc.blk (.head _) rfl)) ?_
                refine Ow_qw rfl rfl rfl rfl rfl rfl (Qt_move rfl) ?_
                refine Ow_qw rfl rfl rfl rfl rfl rfl (Qt_cmp rfl rfl rfl) ?_
                refine Ow_qw rfl rfl rfl rfl rfl rfl (Qt_move rfl) ?_
                refine Ow_caseG rfl rfl rfl ?_ ?_
                · intro h170
                  have h170 := dcd_f (nt_t (h170))
                  refine Ow_pass rfl rfl rfl rfl rfl rfl rfl ?_
                  refine Ow_pass rfl rfl rfl rfl rfl rfl rfl ?_
                  refine Ow_pass rfl rfl rfl rfl rfl rfl rfl ?_
                  refine Ow_pass rfl rfl rfl rfl rfl rfl rfl ?_
                  refine Ow_pass rfl rfl rfl rfl rfl rfl rfl ?_
                  refine Ow_pass rfl rfl rfl rfl rfl rfl rfl ?_
                  refine Ow_qw rfl rfl rfl rfl rfl rfl (Qt_pick_t rfl rfl) ?_
                  refine Ow_qw rfl rfl rfl rfl rfl rfl (Qt_move rfl) ?_
                  refine Ow_pass rfl rfl rfl rfl rfl rfl rfl ?_
                  refine Ow_pass rfl rfl rfl rfl rfl rfl rfl ?_
                  refine Ow_qw rfl rfl rfl rfl rfl rfl (Qt_pick_t rfl rfl) ?_
                  refine Ow_q rfl rfl rfl (Qt_pick_t rfl rfl) ?_
                  refine Ow_nil ?_
                  refine Cw_cond_t rfl ?_
                  refine Cw_seq ?_
                  refine Cw_region ?_
                  refine Ow_q rfl rfl rfl (Qt_assign rfl) ?_
                  refine Ow_nil ?_
                  refine Cw_ret ?_
                  refine ⟨(by first | exact .inl rfl | exact .inr rfl), [(.bool false)], G, ⟨(.bool false), _, rfl, rfl, rfl⟩, .cons _ (.cons _ (.cons _ (.cons _ (.refl _)))), ?_⟩
                  exfalso
                  first | omega | (simp_all [Answer.abs, An.mk.injEq, an0, dcd_eq]; done) | (simp_all [Answer.abs, An.mk.injEq, an0, dcd_eq]; omega)
                · intro h170
                  have h170 := dcd_t (nt_f (h170))
                  refine Ow_qw rfl rfl rfl rfl rfl rfl (Qt_fieldAddr (m := 2) rfl rfl rfl rfl rfl) ?_
                  refine Ow_qw rfl rfl rfl rfl rfl rfl (Qt_load1 (v := (.bool b156.late)) rfl rfl rfl (Rdc.blk (.head _) rfl)) ?_
                  refine Ow_qw rfl rfl rfl rfl rfl rfl (Qt_move rfl) ?_
                  refine Ow_qw rfl rfl rfl rfl rfl rfl (Qt_move rfl) ?_
                  refine Ow_qw rfl rfl rfl rfl rfl rfl (Qt_cmp rfl rfl rfl) ?_
                  refine Ow_qw rfl rfl rfl rfl rfl rfl (Qt_neB rfl rfl rfl) ?_
                  refine Ow_qw rfl rfl rfl rfl rfl rfl (Qt_pick_f rfl rfl) ?_
                  refine Ow_qw rfl rfl rfl rfl rfl rfl (Qt_move rfl) ?_
                  refine Ow_caseG rfl rfl rfl ?_ ?_
                  · intro h171
                    have h171 := nt_t (h171)
                    refine Ow_pass rfl rfl rfl rfl rfl rfl rfl ?_
                    refine Ow_pass rfl rfl rfl rfl rfl rfl rfl ?_
                    refine Ow_qw rfl rfl rfl rfl rfl rfl (Qt_pick_t rfl rfl) ?_
                    refine Ow_q rfl rfl rfl (Qt_pick_t rfl rfl) ?_
                    refine Ow_nil ?_
                    refine Cw_cond_t rfl ?_
                    refine Cw_seq ?_
                    refine Cw_region ?_
                    refine Ow_q rfl rfl rfl (Qt_assign rfl) ?_
                    refine Ow_nil ?_
                    refine Cw_ret ?_
                    refine ⟨(by first | exact .inl rfl | exact .inr rfl), [(.bool false)], G, ⟨(.bool false), _, rfl, rfl, rfl⟩, .cons _ (.cons _ (.cons _ (.cons _ (.refl _)))), ?_⟩
                    exfalso
                    first | omega | (simp_all [Answer.abs, An.mk.injEq, an0, dcd_eq]; done) | (simp_all [Answer.abs, An.mk.injEq, an0, dcd_eq]; omega)
                  · intro h171
                    have h171 := nt_f (h171)
                    refine Ow_qw rfl rfl rfl rfl rfl rfl (Qt_fieldAddr (m := 1) rfl rfl rfl rfl rfl) ?_
                    refine Ow_qw rfl rfl rfl rfl rfl rfl (Qt_load1 (v := (.bool b156.ok)) rfl rfl rfl (Rdc.blk (.head _) rfl)) ?_
                    refine Ow_qw rfl rfl rfl rfl rfl rfl (Qt_pick_f rfl rfl) ?_
                    refine Ow_q rfl rfl rfl (Qt_pick_t rfl rfl) ?_
                    refine Ow_nil ?_
                    refine Cw_cond rfl ?_ ?_
                    · intro h172
                      refine Cw_seq ?_
                      refine Cw_region ?_
                      refine Ow_q rfl rfl rfl (Qt_assign rfl) ?_
                      refine Ow_nil ?_
                      refine Cw_ret ?_
                      refine ⟨(by first | exact .inl rfl | exact .inr rfl), [(.bool false)], G, ⟨(.bool false), _, rfl, rfl, rfl⟩, .cons _ (.cons _ (.cons _ (.cons _ (.refl _)))), ?_⟩
                      exfalso
                      first | omega | (simp_all [Answer.abs, An.mk.injEq, an0, dcd_eq]; done) | (simp_all [Answer.abs, An.mk.injEq, an0, dcd_eq]; omega)
                    · intro h172
                      refine Cw_skip ?_
                      refine Cw_seq ?_
                      refine Cw_region ?_
                      refine Ow_q rfl rfl rfl (Qt_move rfl) ?_
                      have hm173 : (0 : Int) < 5 ∧ (5 : Int) ≤ 9223372036854775807 := (by first | omega | (simp only [List.length_append, List.length_cons, List.length_nil, List.length_replicate, List.length_set]; omega) | (simp; omega))
                      have he174 := Int.emod_nonneg until_ (show (5 : Int) ≠ 0 by omega)
                      have he175 := Int.emod_lt_of_pos until_ (show (0 : Int) < 5 by omega)
                      refine Ow_cons rfl (OpW_callP (v0 := (.int .i64 (until_ % 5))) rfl Try.call23 rfl rfl (c_mod until_ 5 hm173 _ _ trivial) ?_)
                      refine Ow_q rfl rfl rfl (Qt_arith (e := 1 + (until_ % 5)) rfl rfl rfl (IntWalk.i64_in _ (by omega))) ?_
                      refine Ow_q rfl rfl rfl (Qt_fieldAddr (m := 1) rfl rfl rfl rfl rfl) ?_
                      refine Ow_cons rfl (OpW_store (vs := [(.int .i64 (1 + (until_ % 5)))]) (all' := [(.int .i64 4), (.int .i64 (1 + (until_ % 5))), (.int .u64 old), (.int .u64 0), (.int .i64 x151)]) rfl rfl rfl rfl rfl (.there (.there .here)) rfl rfl rfl ?_)
                      refine Ow_nil ?_
                      refine Cw_seq ?_
                      refine Cw_region ?_
                      refine Ow_q rfl rfl rfl (Qt_loadA (m := 3) (cs := Mem.cells (Mem.mk (SI.mk (some a134) 1 [word]) (SS.mk none 0 []) (tick % 1000))) rfl rfl rfl rfl ⟨rfl, Rdc.blk (.tail _ (.tail _ (.tail _ (.head _)))) rfl⟩) ?_
                      refine Ow_q rfl rfl rfl (Qt_loadA (m := 5) (cs := Access.cells (Access.mk 4 (1 + (until_ % 5)) old 0 x151)) rfl rfl rfl rfl ⟨rfl, Rdc.blk (.tail _ (.tail _ (.head _))) rfl⟩) ?_
                      refine Ow_cons rfl (OpW_call rfl Try.call34 rfl rfl (c_apply (Mem.mk (SI.mk (some a134) 1 [word]) (SS.mk none 0 []) (tick % 1000)) (Access.mk 4 (1 + (until_ % 5)) old 0 x151) _ _ ⟨hs163, (Sl.nil _ _), SlAll.nil, (by first | omega | (simp only [List.length_append, List.length_cons, List.length_nil, List.length_replicate, List.length_set]; omega) | (simp; omega)), (by first | omega | (simp only [List.length_append, List.length_cons, List.length_nil, List.length_replicate, List.length_set]; omega) | (simp; omega))⟩) ?_)
                      rintro _ K178 _ hK179 ⟨m176, b177, rfl, rfl, hm180, hb181, he182⟩
                      have he1821 : m176.abs = (applyS (Mem.mk (SI.mk (some a134) 1 [word]) (SS.mk none 0 []) (tick % 1000)).abs (Access.mk 4 (1 + (until_ % 5)) old 0 x151)).1 := by rw [← he182]
                      have he1822 : b177.abs = (applyS (Mem.mk (SI.mk (some a134) 1 [word]) (SS.mk none 0 []) (tick % 1000)).abs (Access.mk 4 (1 + (until_ % 5)) old 0 x151)).2 := by rw [← he182]
                      have hs183 := hs162.mono hK179
                      have hs184 := hs163.mono hK179
                      have hs185 := hb160.mono hK179
                      have hs186 := hm159.mono hK179
                      have hm180w := Sl.le hm180.w
                      have hm180l := Sl.le hm180.l
                      have hm180zw := hm180.zw
                      have hm180zl := hm180.zl
                      refine Ow_q rfl rfl rfl (Qt_move rfl) ?_
                      refine Ow_q rfl rfl rfl (Qt_extract rfl rfl) ?_
                      refine Ow_q rfl rfl rfl (Qt_extract rfl rfl) ?_
                      refine Ow_q rfl rfl rfl (Qt_extract rfl rfl) ?_
                      refine Ow_cons rfl (OpW_alloc (cs := [(.slice none 0 0), (.slice none 0 0), (.int .i64 0)]) rfl rfl rfl rfl (fun b187 => ?_))
                      refine Ow_cons rfl (OpW_alloc (cs := [(.int .u64 0), (.bool false), (.bool false), (.slice none 0 0)]) rfl rfl rfl rfl (fun b188 => ?_))
                      refine Ow_cons rfl (OpW_store (vs := [(.slice m176.words.A m176.words.l.length m176.words.cp), (.slice m176.lists.A m176.lists.l.length m176.lists.cp), (.int .i64 m176.tick)]) (all' := [(.slice m176.words.A m176.words.l.length m176.words.cp), (.slice m176.lists.A m176.lists.l.length m176.lists.cp), (.int .i64 m176.tick)]) rfl rfl rfl rfl rfl (.there .here) rfl rfl rfl ?_)
                      refine Ow_cons rfl (OpW_store (vs := [(.int .u64 b177.value), (.bool b177.ok), (.bool b177.late), (.slice b177.list.A b177.list.l.length b177.list.cp)]) (all' := [(.int .u64 b177.value), (.bool b177.ok), (.bool b177.late), (.slice b177.list.A b177.list.l.length b177.list.cp)]) rfl rfl rfl rfl rfl .here rfl rfl rfl ?_)
                      refine Ow_q rfl rfl rfl (Qt_assign rfl) ?_
                      refine Ow_nil ?_
                      refine Cw_seq ?_
                      refine Cw_region ?_
                      refine Ow_q rfl rfl rfl (Qt_move rfl) ?_
                      refine Ow_q rfl rfl rfl (Qt_not rfl) ?_
                      refine Ow_q rfl rfl rfl (Qt_move rfl) ?_
                      refine Ow_caseG rfl rfl rfl ?_ ?_
                      · intro h189
                        have h189 := nt_t (h189)
                        refine Ow_pass rfl rfl rfl rfl rfl rfl rfl ?_
                        refine Ow_pass rfl rfl rfl rfl rfl rfl rfl ?_
                        refine Ow_pass rfl rfl rfl rfl rfl rfl rfl ?_
                        refine Ow_pass rfl rfl rfl rfl rfl rfl rfl ?_
                        refine Ow_q rfl rfl rfl (Qt_pick_t rfl rfl) ?_
                        refine Ow_nil ?_
                        refine Cw_cond_t rfl ?_
                        refine Cw_seq ?_
                        refine Cw_region ?_
                        refine Ow_q rfl rfl rfl (Qt_assign rfl) ?_
                        refine Ow_nil ?_
                        refine Cw_ret ?_
                        refine ⟨(by first | exact .inl rfl | exact .inr rfl), [(.bool false)], G, ⟨(.bool false), _, rfl, rfl, rfl⟩, .cons _ (.cons _ (.cons _ (.cons _ (.cons _ (.cons _ (.refl _)))))), ?_⟩
                        exfalso
                        first | omega | (simp_all [Answer.abs, An.mk.injEq, an0, dcd_eq]; done) | (simp_all [Answer.abs, An.mk.injEq, an0, dcd_eq]; omega)
                      · intro h189
                        have h189 := nt_f (h189)
                        refine Ow_qw rfl rfl rfl rfl rfl rfl (Qt_loadA (m := 4) (cs := Answer.cells b177) rfl rfl rfl rfl ⟨rfl, Rdc.blk (.head _) rfl⟩) ?_
                        refine Ow_qw rfl rfl rfl rfl rfl rfl (Qt_build (cs := Answer.cells (Answer.mk 0 false false (SI.mk none 0 []))) rfl rfl rfl rfl rfl rfl) ?_
                        refine Ow_want rfl rfl rfl rfl (OpW_callP (v0 := (.bool (decide (b177.abs = (Answer.mk 0 false false (SI.mk none 0 [])).abs)))) rfl Try.call39 rfl rfl (c_sameAns b177 (Answer.mk 0 false false (SI.mk none 0 [])) _ _ hb181 ⟨(Sl.nil _ _)⟩) ?_)
                        refine Ow_qw rfl rfl rfl rfl rfl rfl (Qt_not rfl) ?_
                        refine Ow_q rfl rfl rfl (Qt_pick_f rfl rfl) ?_
                        refine Ow_nil ?_
                        refine Cw_cond rfl ?_ ?_
                        · intro h190
                          have h190 := nt_t (h190)
                          refine Cw_seq ?_
                          refine Cw_region ?_
                          refine Ow_q rfl rfl rfl (Qt_assign rfl) ?_
                          refine Ow_nil ?_
                          refine Cw_ret ?_
                          refine ⟨(by first | exact .inl rfl | exact .inr rfl), [(.bool false)], G, ⟨(.bool false), _, rfl, rfl, rfl⟩, .cons _ (.cons _ (.cons _ (.cons _ (.cons _ (.cons _ (.refl _)))))), ?_⟩
                          exfalso
                          first | omega | (simp_all [Answer.abs, An.mk.injEq, an0, dcd_eq]; done) | (simp_all [Answer.abs, An.mk.injEq, an0, dcd_eq]; omega)
                        · intro h190
                          have h190 := nt_f (h190)
                          refine Cw_skip ?_
                          refine Cw_region ?_
                          refine Ow_q rfl rfl rfl (Qt_arith (e := (((i : Nat) : Int) + 1)) rfl rfl rfl (wrap_eq (by omega) (by omega))) ?_
                          refine Ow_q rfl rfl rfl (Qt_move rfl) ?_
                          refine Ow_nil ?_
                          refine ⟨_, [(0, (.int .u64 word)), (1, (.int .u64 old)), (2, (.int .i64 (tick % 1000))), (3, (.int .i64 until_)), (11, (.pointer (some ((⟨b135, 0, none⟩ : Addr).add 0)))), (38, (.slice (some a136) 5 5)), (39, (.int .i64 5)), (40, (.int .i64 (((i + 1) : Nat) : Int)))], .blk b135 49 [(.slice (some a134) 1 1), (.slice none 0 0), (.int .i64 (tick % 1000))] :: G, ⟨rfl, rfl, rfl, rfl, rfl, rfl, rfl, rfl, trivial⟩, (.cons _ (.cons _ (.cons _ (.cons _ (.cons _ (.cons_cons _ (.refl _))))))), (by first | omega | (simp only [List.length_append, List.length_cons, List.length_nil]; omega)), (i + 1), rfl, rfl, rfl, (by first | omega | (simp only [List.length_append, List.length_cons, List.length_nil, List.length_replicate, List.length_set]; omega) | (simp; omega))⟩
              · intro h169
                refine Ow_pass rfl rfl rfl rfl rfl rfl rfl ?_
                refine Ow_pass rfl rfl rfl rfl rfl rfl rfl ?_
                refine Ow_pass rfl rfl rfl rfl rfl rfl rfl ?_
                refine Ow_pass rfl rfl rfl rfl rfl rfl rfl ?_
                refine Ow_pass rfl rfl rfl rfl rfl rfl rfl ?_
                refine Ow_passU rfl rfl rfl rfl rfl ?_
                refine Ow_passU rfl rfl rfl rfl rfl ?_
                refine Ow_passU rfl rfl rfl rfl rfl ?_
                refine Ow_passU rfl rfl rfl rfl rfl ?_
                refine Ow_passU rfl rfl rfl rfl rfl ?_
                refine Ow_passU rfl rfl rfl rfl rfl ?_
                refine Ow_pass rfl rfl rfl rfl rfl rfl rfl ?_
                refine Ow_pass rfl rfl rfl rfl rfl rfl rfl ?_
                refine Ow_passU rfl rfl rfl rfl rfl ?_
                refine Ow_passU rfl rfl rfl rfl rfl ?_
                refine Ow_pass rfl rfl rfl rfl rfl rfl rfl ?_
                refine Ow_q rfl rfl rfl (Qt_pick_f rfl rfl) ?_
                refine Ow_nil ?_
                refine Cw_cond_f rfl ?_
                refine Cw_skip ?_
                refine Cw_seq ?_
                refine Cw_region ?_
                refine Ow_q rfl rfl rfl (Qt_move rfl) ?_
                have hm191 : (0 : Int) < 5 ∧ (5 : Int) ≤ 9223372036854775807 := (by first | omega | (simp only [List.length_append, List.length_cons, List.length_nil, List.length_replicate, List.length_set]; omega) | (simp; omega))
                have he192 := Int.emod_nonneg until_ (show (5 : Int) ≠ 0 by omega)
                have he193 := Int.emod_lt_of_pos until_ (show (0 : Int) < 5 by omega)
                refine Ow_cons rfl (OpW_callP (v0 := (.int .i64 (until_ % 5))) rfl Try.call23 rfl rfl (c_mod until_ 5 hm191 _ _ trivial) ?_)
                refine Ow_q rfl rfl rfl (Qt_arith (e := 1 + (until_ % 5)) rfl rfl rfl (IntWalk.i64_in _ (by omega))) ?_
                refine Ow_q rfl rfl rfl (Qt_fieldAddr (m := 1) rfl rfl rfl rfl rfl) ?_
                refine Ow_cons rfl (OpW_store (vs := [(.int .i64 (1 + (until_ % 5)))]) (all' := [(.int .i64 4), (.int .i64 (1 + (until_ % 5))), (.int .u64 old), (.int .u64 0), (.int .i64 x151)]) rfl rfl rfl rfl rfl (.there (.there .here)) rfl rfl rfl ?_)
                refine Ow_nil ?_
                refine Cw_seq ?_
                refine Cw_region ?_
                refine Ow_q rfl rfl rfl (Qt_loadA (m := 3) (cs := Mem.cells (Mem.mk (SI.mk (some a134) 1 [word]) (SS.mk none 0 []) (tick % 1000))) rfl rfl rfl rfl ⟨rfl, Rdc.blk (.tail _ (.tail _ (.tail _ (.head _)))) rfl⟩) ?_
                refine Ow_q rfl rfl rfl (Qt_loadA (m := 5) (cs := Access.cells (Access.mk 4 (1 + (until_ % 5)) old 0 x151)) rfl rfl rfl rfl ⟨rfl, Rdc.blk (.tail _ (.tail _ (.head _))) rfl⟩) ?_
                refine Ow_cons rfl (OpW_call rfl Try.call34 rfl rfl (c_apply (Mem.mk (SI.mk (some a134) 1 [word]) (SS.mk none 0 []) (tick % 1000)) (Access.mk 4 (1 + (until_ % 5)) old 0 x151) _ _ ⟨hs163, (Sl.nil _ _), SlAll.nil, (by first | omega | (simp only [List.length_append, List.length_cons, List.length_nil, List.length_replicate, List.length_set]; omega) | (simp; omega)), (by first | omega | (simp only [List.length_append, List.length_cons, List.length_nil, List.length_replicate, List.length_set]; omega) | (simp; omega))⟩) ?_)
                rintro _ K196 _ hK197 ⟨m194, b195, rfl, rfl, hm198, hb199, he200⟩
                have he2001 : m194.abs = (applyS (Mem.mk (SI.mk (some a134) 1 [word]) (SS.mk none 0 []) (tick % 1000)).abs (Access.mk 4 (1 + (until_ % 5)) old 0 x151)).1 := by rw [← he200]
                have he2002 : b195.abs = (applyS (Mem.mk (SI.mk (some a134) 1 [word]) (SS.mk none 0 []) (tick % 1000)).abs (Access.mk 4 (1 + (until_ % 5)) old 0 x151)).2 := by rw [← he200]
                have hs201 := hs162.mono hK197
                have hs202 := hs163.mono hK197
                have hs203 := hb160.mono hK197
                have hs204 := hm159.mono hK197
                have hm198w := Sl.le hm198.w
                have hm198l := Sl.le hm198.l
                have hm198zw := hm198.zw
                have hm198zl := hm198.zl
                refine Ow_q rfl rfl rfl (Qt_move rfl) ?_
                refine Ow_q rfl rfl rfl (Qt_extract rfl rfl) ?_
                refine Ow_q rfl rfl rfl (Qt_extract rfl rfl) ?_
                refine Ow_q rfl rfl rfl (Qt_extract rfl rfl) ?_
                refine Ow_cons rfl (OpW_alloc (cs := [(.slice none 0 0), (.slice none 0 0), (.int .i64 0)]) rfl rfl rfl rfl (fun b205 => ?_))
                refine Ow_cons rfl (OpW_alloc (cs := [(.int .u64 0), (.bool false), (.bool false), (.slice none 0 0)]) rfl rfl rfl rfl (fun b206 => ?_))
                refine Ow_cons rfl (OpW_store (vs := [(.slice m194.words.A m194.words.l.length m194.words.cp), (.slice m194.lists.A m194.lists.l.length m194.lists.cp), (.int .i64 m194.tick)]) (all' := [(.slice m194.words.A m194.words.l.length m194.words.cp), (.slice m194.lists.A m194.lists.l.length m194.lists.cp), (.int .i64 m194.tick)]) rfl rfl rfl rfl rfl (.there .here) rfl rfl rfl ?_)
                refine Ow_cons rfl (OpW_store (vs := [(.int .u64 b195.value), (.bool b195.ok), (.bool b195.late), (.slice b195.list.A b195.list.l.length b195.list.cp)]) (all' := [(.int .u64 b195.value), (.bool b195.ok), (.bool b195.late), (.slice b195.list.A b195.list.l.length b195.list.cp)]) rfl rfl rfl rfl rfl .here rfl rfl rfl ?_)
                refine Ow_q rfl rfl rfl (Qt_assign rfl) ?_
                refine Ow_nil ?_
                refine Cw_seq ?_
                refine Cw_region ?_
                refine Ow_q rfl rfl rfl (Qt_move rfl) ?_
                refine Ow_q rfl rfl rfl (Qt_not rfl) ?_
                refine Ow_q rfl rfl rfl (Qt_move rfl) ?_
                refine Ow_caseG rfl rfl rfl ?_ ?_
                · intro h207
                  have h207 := nt_t (h207)
                  refine Ow_pass rfl rfl rfl rfl rfl rfl rfl ?_
                  refine Ow_pass rfl rfl rfl rfl rfl rfl rfl ?_
                  refine Ow_pass rfl rfl rfl rfl rfl rfl rfl ?_
                  refine Ow_pass rfl rfl rfl rfl rfl rfl rfl ?_
                  refine Ow_q rfl rfl rfl (Qt_pick_t rfl rfl) ?_
                  refine Ow_nil ?_
                  refine Cw_cond_t rfl ?_
                  refine Cw_seq ?_
                  refine Cw_region ?_
                  refine Ow_q rfl rfl rfl (Qt_assign rfl) ?_
                  refine Ow_nil ?_
                  refine Cw_ret ?_
                  refine ⟨(by first | exact .inl rfl | exact .inr rfl), [(.bool false)], G, ⟨(.bool false), _, rfl, rfl, rfl⟩, .cons _ (.cons _ (.cons _ (.cons _ (.cons _ (.cons _ (.refl _)))))), ?_⟩
                  exfalso
                  first | omega | (simp_all [Answer.abs, An.mk.injEq, an0, dcd_eq]; done) | (simp_all [Answer.abs, An.mk.injEq, an0, dcd_eq]; omega)
                · intro h207
                  have h207 := nt_f (h207)
                  refine Ow_qw rfl rfl rfl rfl rfl rfl (Qt_loadA (m := 4) (cs := Answer.cells b195) rfl rfl rfl rfl ⟨rfl, Rdc.blk (.head _) rfl⟩) ?_
                  refine Ow_qw rfl rfl rfl rfl rfl rfl (Qt_build (cs := Answer.cells (Answer.mk 0 false false (SI.mk none 0 []))) rfl rfl rfl rfl rfl rfl) ?_
                  refine Ow_want rfl rfl rfl rfl (OpW_callP (v0 := (.bool (decide (b195.abs = (Answer.mk 0 false false (SI.mk none 0 [])).abs)))) rfl Try.call39 rfl rfl (c_sameAns b195 (Answer.mk 0 false false (SI.mk none 0 [])) _ _ hb199 ⟨(Sl.nil _ _)⟩) ?_)
                  refine Ow_qw rfl rfl rfl rfl rfl rfl (Qt_not rfl) ?_
                  refine Ow_q rfl rfl rfl (Qt_pick_f rfl rfl) ?_
                  refine Ow_nil ?_
                  refine Cw_cond rfl ?_ ?_
                  · intro h208
                    have h208 := nt_t (h208)
                    refine Cw_seq ?_
                    refine Cw_region ?_
                    refine Ow_q rfl rfl rfl (Qt_assign rfl) ?_
                    refine Ow_nil ?_
                    refine Cw_ret ?_
                    refine ⟨(by first | exact .inl rfl | exact .inr rfl), [(.bool false)], G, ⟨(.bool false), _, rfl, rfl, rfl⟩, .cons _ (.cons _ (.cons _ (.cons _ (.cons _ (.cons _ (.refl _)))))), ?_⟩
                    exfalso
                    first | omega | (simp_all [Answer.abs, An.mk.injEq, an0, dcd_eq]; done) | (simp_all [Answer.abs, An.mk.injEq, an0, dcd_eq]; omega)
                  · intro h208
                    have h208 := nt_f (h208)
                    refine Cw_skip ?_
                    refine Cw_region ?_
                    refine Ow_q rfl rfl rfl (Qt_arith (e := (((i : Nat) : Int) + 1)) rfl rfl rfl (wrap_eq (by omega) (by omega))) ?_
                    refine Ow_q rfl rfl rfl (Qt_move rfl) ?_
                    refine Ow_nil ?_
                    refine ⟨_, [(0, (.int .u64 word)), (1, (.int .u64 old)), (2, (.int .i64 (tick % 1000))), (3, (.int .i64 until_)), (11, (.pointer (some ((⟨b135, 0, none⟩ : Addr).add 0)))), (38, (.slice (some a136) 5 5)), (39, (.int .i64 5)), (40, (.int .i64 (((i + 1) : Nat) : Int)))], .blk b135 49 [(.slice (some a134) 1 1), (.slice none 0 0), (.int .i64 (tick % 1000))] :: G, ⟨rfl, rfl, rfl, rfl, rfl, rfl, rfl, rfl, trivial⟩, (.cons _ (.cons _ (.cons _ (.cons _ (.cons _ (.cons_cons _ (.refl _))))))), (by first | omega | (simp only [List.length_append, List.length_cons, List.length_nil]; omega)), (i + 1), rfl, rfl, rfl, (by first | omega | (simp only [List.length_append, List.length_cons, List.length_nil, List.length_replicate, List.length_set]; omega) | (simp; omega))⟩
        · intro h166
          have h166 := dcd_t (nt_f (h166))
          refine Ow_qw rfl rfl rfl rfl rfl rfl (Qt_move rfl) ?_
          refine Ow_q rfl rfl rfl (Qt_pick_f rfl rfl) ?_
          refine Ow_q rfl rfl rfl (Qt_neB rfl rfl rfl) ?_
          refine Ow_q rfl rfl rfl (Qt_move rfl) ?_
          refine Ow_caseG rfl rfl rfl ?_ ?_
          · intro h209
            have h209 := nt_t (h209)
            refine Ow_pass rfl rfl rfl rfl rfl rfl rfl ?_
            refine Ow_pass rfl rfl rfl rfl rfl rfl rfl ?_
            refine Ow_pass rfl rfl rfl rfl rfl rfl rfl ?_
            refine Ow_pass rfl rfl rfl rfl rfl rfl rfl ?_
            refine Ow_pass rfl rfl rfl rfl rfl rfl rfl ?_
            refine Ow_q rfl rfl rfl (Qt_pick_t rfl rfl) ?_
            refine Ow_q rfl rfl rfl (Qt_move rfl) ?_
            refine Ow_pass rfl rfl rfl rfl rfl rfl rfl ?_
            refine Ow_pass rfl rfl rfl rfl rfl rfl rfl ?_
            refine Ow_pass rfl rfl rfl rfl rfl rfl rfl ?_
            refine Ow_pass rfl rfl rfl rfl rfl rfl rfl ?_
            refine Ow_q rfl rfl rfl (Qt_pick_t rfl rfl) ?_
            refine Ow_nil ?_
            refine Cw_cond_t rfl ?_
            refine Cw_seq ?_
            refine Cw_region ?_
            refine Ow_q rfl rfl rfl (Qt_assign rfl) ?_
            refine Ow_nil ?_
            refine Cw_ret ?_
            refine ⟨(by first | exact .inl rfl | exact .inr rfl), [(.bool false)], G, ⟨(.bool false), _, rfl, rfl, rfl⟩, .cons _ (.cons _ (.cons _ (.cons _ (.refl _)))), ?_⟩
            exfalso
            first | omega | (simp_all [Answer.abs, An.mk.injEq, an0, dcd_eq]; done) | (simp_all [Answer.abs, An.mk.injEq, an0, dcd_eq]; omega)
          · intro h209
            have h209 := nt_f (h209)
            refine Ow_qw rfl rfl rfl rfl rfl rfl (Qt_loadA (m := 3) (cs := Mem.cells (Mem.mk (SI.mk (some a134) 1 [word]) (SS.mk none 0 []) (tick % 1000))) rfl rfl rfl rfl ⟨rfl, Rdc.blk (.tail _ (.tail _ (.tail _ (.head _)))) rfl⟩) ?_
            refine Ow_qw rfl rfl rfl rfl rfl rfl (Qt_loadA (m := 5) (cs := Access.cells (Access.mk 4 0 old 0 x151)) rfl rfl rfl rfl ⟨rfl, Rdc.blk (.tail _ (.tail _ (.head _))) rfl⟩) ?_
            refine Ow_want rfl rfl rfl rfl (OpW_callP (v0 := (.bool (grantedS (Mem.mk (SI.mk (some a134) 1 [word]) (SS.mk none 0 []) (tick % 1000)).abs (Access.mk 4 0 old 0 x151)))) rfl Try.call36 rfl rfl (c_granted (Mem.mk (SI.mk (some a134) 1 [word]) (SS.mk none 0 []) (tick % 1000)) (Access.mk 4 0 old 0 x151) _ _ ⟨hs163, (Sl.nil _ _), SlAll.nil, (by first | omega | (simp only [List.length_append, List.length_cons, List.length_nil, List.length_replicate, List.length_set]; omega) | (simp; omega)), (by first | omega | (simp only [List.length_append, List.length_cons, List.length_nil, List.length_replicate, List.length_set]; omega) | (simp; omega))⟩) ?_)
            refine Ow_qw rfl rfl rfl rfl rfl rfl (Qt_move rfl) ?_
            refine Ow_qw rfl rfl rfl rfl rfl rfl (Qt_neB rfl rfl rfl) ?_
            refine Ow_q rfl rfl rfl (Qt_pick_f rfl rfl) ?_
            refine Ow_q rfl rfl rfl (Qt_move rfl) ?_
            refine Ow.known (d := 77) rfl (nt_mf (beq_self_eq_true _)) ?_
            refine Ow_qw rfl rfl rfl rfl rfl rfl (Qt_loadA (m := 3) (cs := Mem.cells m155) rfl rfl rfl rfl ⟨rfl, Rdc.blk (.tail _ (.head _)) rfl⟩) ?_
            refine Ow_qw rfl rfl rfl rfl rfl rfl (Qt_loadA (m := 3) (cs := Mem.cells (Mem.mk (SI.mk (some a134) 1 [word]) (SS.mk none 0 []) (tick % 1000))) rfl rfl rfl rfl ⟨rfl, Rdc.blk (.tail _ (.tail _ (.tail _ (.head _)))) rfl⟩) ?_
            refine Ow_want rfl rfl rfl rfl (OpW_callP (v0 := (.bool (decide (m155.abs = (Mem.mk (SI.mk (some a134) 1 [word]) (SS.mk none 0 []) (tick % 1000)).abs)))) rfl Try.call38 rfl rfl (c_sameMem m155 (Mem.mk (SI.mk (some a134) 1 [word]) (SS.mk none 0 []) (tick % 1000)) _ _ hm159 ⟨hs163, (Sl.nil _ _), SlAll.nil, (by first | omega | (simp only [List.length_append, List.length_cons, List.length_nil, List.length_replicate, List.length_set]; omega) | (simp; omega)), (by first | omega | (simp only [List.length_append, List.length_cons, List.length_nil, List.length_replicate, List.length_set]; omega) | (simp; omega))⟩) ?_)
            refine Ow_qw rfl rfl rfl rfl rfl rfl (Qt_not rfl) ?_
            refine Ow_q rfl rfl rfl (Qt_pick_f rfl rfl) ?_
            refine Ow_nil ?_
            refine Cw_cond rfl ?_ ?_
            · intro h210
              have h210 := nt_t (h210)
              refine Cw_seq ?_
              refine Cw_region ?_
              refine Ow_q rfl rfl rfl (Qt_assign rfl) ?_
              refine Ow_nil ?_
              refine Cw_ret ?_
              refine ⟨(by first | exact .inl rfl | exact .inr rfl), [(.bool false)], G, ⟨(.bool false), _, rfl, rfl, rfl⟩, .cons _ (.cons _ (.cons _ (.cons _ (.refl _)))), ?_⟩
              exfalso
              first | omega | (simp_all [Answer.abs, An.mk.injEq, an0, dcd_eq]; done) | (simp_all [Answer.abs, An.mk.injEq, an0, dcd_eq]; omega)
            · intro h210
              have h210 := nt_f (h210)
              refine Cw_skip ?_
              refine Cw_seq ?_
              refine Cw_seq ?_
              refine Cw_region ?_
              refine Ow_q rfl rfl rfl (Qt_move rfl) ?_
              refine Ow_q rfl rfl rfl (Qt_move rfl) ?_
              refine Ow_caseG rfl rfl rfl ?_ ?_
              · intro h211
                refine Ow_qw rfl rfl rfl rfl rfl rfl (Qt_fieldAddr (m := 0) rfl rfl rfl rfl rfl) ?_
                refine Ow_qw rfl rfl rfl rfl rfl rfl (Qt_load1 (v := (.int .u64 b156.value)) rfl rfl rfl (Rdc.blk (.head _) rfl)) ?_
                refine Ow_qw rfl rfl rfl rfl rfl rfl (Qt_move rfl) ?_
                refine Ow_qw rfl rfl rfl rfl rfl rfl (Qt_cmp rfl rfl rfl) ?_
                refine Ow_qw rfl rfl rfl rfl rfl rfl (Qt_move rfl) ?_
                refine Ow_caseG rfl rfl rfl ?_ ?_
                · intro h212
                  have h212 := dcd_f (nt_t (h212))
                  refine Ow_pass rfl rfl rfl rfl rfl rfl rfl ?_
                  refine Ow_pass rfl rfl rfl rfl rfl rfl rfl ?_
                  refine Ow_pass rfl rfl rfl rfl rfl rfl rfl ?_
                  refine Ow_pass rfl rfl rfl rfl rfl rfl rfl ?_
                  refine Ow_pass rfl rfl rfl rfl rfl rfl rfl ?_
                  refine Ow_pass rfl rfl rfl rfl rfl rfl rfl ?_
                  refine Ow_qw rfl rfl rfl rfl rfl rfl (Qt_pick_t rfl rfl) ?_
                  refine Ow_qw rfl rfl rfl rfl rfl rfl (Qt_move rfl) ?_
                  refine Ow_pass rfl rfl rfl rfl rfl rfl rfl ?_
                  refine Ow_pass rfl rfl rfl rfl rfl rfl rfl ?_
                  refine Ow_qw rfl rfl rfl rfl rfl rfl (Qt_pick_t rfl rfl) ?_
                  refine Ow_q rfl rfl rfl (Qt_pick_t rfl rfl) ?_
                  refine Ow_nil ?_
                  refine Cw_cond_t rfl ?_
                  refine Cw_seq ?_
                  refine Cw_region ?_
                  refine Ow_q rfl rfl rfl (Qt_assign rfl) ?_
                  refine Ow_nil ?_
                  refine Cw_ret ?_
                  refine ⟨(by first | exact .inl rfl | exact .inr rfl), [(.bool false)], G, ⟨(.bool false), _, rfl, rfl, rfl⟩, .cons _ (.cons _ (.cons _ (.cons _ (.refl _)))), ?_⟩
                  exfalso
                  first | omega | (simp_all [Answer.abs, An.mk.injEq, an0, dcd_eq]; done) | (simp_all [Answer.abs, An.mk.injEq, an0, dcd_eq]; omega)
                · intro h212
                  have h212 := dcd_t (nt_f (h212))
                  refine Ow_qw rfl rfl rfl rfl rfl rfl (Qt_fieldAddr (m := 2) rfl rfl rfl rfl rfl) ?_
                  refine Ow_qw rfl rfl rfl rfl rfl rfl (Qt_load1 (v := (.bool b156.late)) rfl rfl rfl (Rdc.blk (.head _) rfl)) ?_
                  refine Ow_qw rfl rfl rfl rfl rfl rfl (Qt_move rfl) ?_
                  refine Ow_qw rfl rfl rfl rfl rfl rfl (Qt_move rfl) ?_
                  refine Ow_qw rfl rfl rfl rfl rfl rfl (Qt_cmp rfl rfl rfl) ?_
                  refine Ow_qw rfl rfl rfl rfl rfl rfl (Qt_neB rfl rfl rfl) ?_
                  refine Ow_qw rfl rfl rfl rfl rfl rfl (Qt_pick_f rfl rfl) ?_
                  refine Ow_qw rfl rfl rfl rfl rfl rfl (Qt_move rfl) ?_
                  refine Ow_caseG rfl rfl rfl ?_ ?_
                  · intro h213
                    have h213 := nt_t (h213)
                    refine Ow_pass rfl rfl rfl rfl rfl rfl rfl ?_
                    refine Ow_pass rfl rfl rfl rfl rfl rfl rfl ?_
                    refine Ow_qw rfl rfl rfl rfl rfl rfl (Qt_pick_t rfl rfl) ?_
                    refine Ow_q rfl rfl rfl (Qt_pick_t rfl rfl) ?_
                    refine Ow_nil ?_
                    refine Cw_cond_t rfl ?_
                    refine Cw_seq ?_
                    refine Cw_region ?_
                    refine Ow_q rfl rfl rfl (Qt_assign rfl) ?_
                    refine Ow_nil ?_
                    refine Cw_ret ?_
                    refine ⟨(by first | exact .inl rfl | exact .inr rfl), [(.bool false)], G, ⟨(.bool false), _, rfl, rfl, rfl⟩, .cons _ (.cons _ (.cons _ (.cons _ (.refl _)))), ?_⟩
                    exfalso
                    first | omega | (simp_all [Answer.abs, An.mk.injEq, an0, dcd_eq]; done) | (simp_all [Answer.abs, An.mk.injEq, an0, dcd_eq]; omega)
                  · intro h213
                    have h213 := nt_f (h213)
                    refine Ow_qw rfl rfl rfl rfl rfl rfl (Qt_fieldAddr (m := 1) rfl rfl rfl rfl rfl) ?_
                    refine Ow_qw rfl rfl rfl rfl rfl rfl (Qt_load1 (v := (.bool b156.ok)) rfl rfl rfl (Rdc.blk (.head _) rfl)) ?_
                    refine Ow_qw rfl rfl rfl rfl rfl rfl (Qt_pick_f rfl rfl) ?_
                    refine Ow_q rfl rfl rfl (Qt_pick_t rfl rfl) ?_
                    refine Ow_nil ?_
                    refine Cw_cond rfl ?_ ?_
                    · intro h214
                      refine Cw_seq ?_
                      refine Cw_region ?_
                      refine Ow_q rfl rfl rfl (Qt_assign rfl) ?_
                      refine Ow_nil ?_
                      refine Cw_ret ?_
                      refine ⟨(by first | exact .inl rfl | exact .inr rfl), [(.bool false)], G, ⟨(.bool false), _, rfl, rfl, rfl⟩, .cons _ (.cons _ (.cons _ (.cons _ (.refl _)))), ?_⟩
                      exfalso
                      first | omega | (simp_all [Answer.abs, An.mk.injEq, an0, dcd_eq]; done) | (simp_all [Answer.abs, An.mk.injEq, an0, dcd_eq]; omega)
                    · intro h214
                      refine Cw_skip ?_
                      refine Cw_seq ?_
                      refine Cw_region ?_
                      refine Ow_q rfl rfl rfl (Qt_move rfl) ?_
                      have hm215 : (0 : Int) < 5 ∧ (5 : Int) ≤ 9223372036854775807 := (by first | omega | (simp only [List.length_append, List.length_cons, List.length_nil, List.length_replicate, List.length_set]; omega) | (simp; omega))
                      have he216 := Int.emod_nonneg until_ (show (5 : Int) ≠ 0 by omega)
                      have he217 := Int.emod_lt_of_pos until_ (show (0 : Int) < 5 by omega)
                      refine Ow_cons rfl (OpW_callP (v0 := (.int .i64 (until_ % 5))) rfl Try.call23 rfl rfl (c_mod until_ 5 hm215 _ _ trivial) ?_)
                      refine Ow_q rfl rfl rfl (Qt_arith (e := 1 + (until_ % 5)) rfl rfl rfl (IntWalk.i64_in _ (by omega))) ?_
                      refine Ow_q rfl rfl rfl (Qt_fieldAddr (m := 1) rfl rfl rfl rfl rfl) ?_
                      refine Ow_cons rfl (OpW_store (vs := [(.int .i64 (1 + (until_ % 5)))]) (all' := [(.int .i64 4), (.int .i64 (1 + (until_ % 5))), (.int .u64 old), (.int .u64 0), (.int .i64 x151)]) rfl rfl rfl rfl rfl (.there (.there .here)) rfl rfl rfl ?_)
                      refine Ow_nil ?_
                      refine Cw_seq ?_
                      refine Cw_region ?_
                      refine Ow_q rfl rfl rfl (Qt_loadA (m := 3) (cs := Mem.cells (Mem.mk (SI.mk (some a134) 1 [word]) (SS.mk none 0 []) (tick % 1000))) rfl rfl rfl rfl ⟨rfl, Rdc.blk (.tail _ (.tail _ (.tail _ (.head _)))) rfl⟩) ?_
                      refine Ow_q rfl rfl rfl (Qt_loadA (m := 5) (cs := Access.cells (Access.mk 4 (1 + (until_ % 5)) old 0 x151)) rfl rfl rfl rfl ⟨rfl, Rdc.blk (.tail _ (.tail _ (.head _))) rfl⟩) ?_
                      refine Ow_cons rfl (OpW_call rfl Try.call34 rfl rfl (c_apply (Mem.mk (SI.mk (some a134) 1 [word]) (SS.mk none 0 []) (tick % 1000)) (Access.mk 4 (1 + (until_ % 5)) old 0 x151) _ _ ⟨hs163, (Sl.nil _ _), SlAll.nil, (by first | omega | (simp only [List.length_append, List.length_cons, List.length_nil, List.length_replicate, List.length_set]; omega) | (simp; omega)), (by first | omega | (simp only [List.length_append, List.length_cons, List.length_nil, List.length_replicate, List.length_set]; omega) | (simp; omega))⟩) ?_)
                      rintro _ K220 _ hK221 ⟨m218, b219, rfl, rfl, hm222, hb223, he224⟩
                      have he2241 : m218.abs = (applyS (Mem.mk (SI.mk (some a134) 1 [word]) (SS.mk none 0 []) (tick % 1000)).abs (Access.mk 4 (1 + (until_ % 5)) old 0 x151)).1 := by rw [← he224]
                      have he2242 : b219.abs = (applyS (Mem.mk (SI.mk (some a134) 1 [word]) (SS.mk none 0 []) (tick % 1000)).abs (Access.mk 4 (1 + (until_ % 5)) old 0 x151)).2 := by rw [← he224]
                      have hs225 := hs162.mono hK221
                      have hs226 := hs163.mono hK221
                      have hs227 := hb160.mono hK221
                      have hs228 := hm159.mono hK221
                      have hm222w := Sl.le hm222.w
                      have hm222l := Sl.le hm222.l
                      have hm222zw := hm222.zw
                      have hm222zl := hm222.zl
                      refine Ow_q rfl rfl rfl (Qt_move rfl) ?_
                      refine Ow_q rfl rfl rfl (Qt_extract rfl rfl) ?_
                      refine Ow_q rfl rfl rfl (Qt_extract rfl rfl) ?_
                      refine Ow_q rfl rfl rfl (Qt_extract rfl rfl) ?_
                      refine Ow_cons rfl (OpW_alloc (cs := [(.slice none 0 0), (.slice none 0 0), (.int .i64 0)]) rfl rfl rfl rfl (fun b229 => ?_))
                      refine Ow_cons rfl (OpW_alloc (cs := [(.int .u64 0), (.bool false), (.bool false), (.slice none 0 0)]) rfl rfl rfl rfl (fun b230 => ?_))
                      refine Ow_cons rfl (OpW_store (vs := [(.slice m218.words.A m218.words.l.length m218.words.cp), (.slice m218.lists.A m218.lists.l.length m218.lists.cp), (.int .i64 m218.tick)]) (all' := [(.slice m218.words.A m218.words.l.length m218.words.cp), (.slice m218.lists.A m218.lists.l.length m218.lists.cp), (.int .i64 m218.tick)]) rfl rfl rfl rfl rfl (.there .here) rfl rfl rfl ?_)
                      refine Ow_cons rfl (OpW_store (vs := [(.int .u64 b219.value), (.bool b219.ok), (.bool b219.late), (.slice b219.list.A b219.list.l.length b219.list.cp)]) (all' := [(.int .u64 b219.value), (.bool b219.ok), (.bool b219.late), (.slice b219.list.A b219.list.l.length b219.list.cp)]) rfl rfl rfl rfl rfl .here rfl rfl rfl ?_)
                      refine Ow_q rfl rfl rfl (Qt_assign rfl) ?_
                      refine Ow_nil ?_
                      refine Cw_seq ?_
                      refine Cw_region ?_
                      refine Ow_q rfl rfl rfl (Qt_move rfl) ?_
                      refine Ow_q rfl rfl rfl (Qt_not rfl) ?_
                      refine Ow_q rfl rfl rfl (Qt_move rfl) ?_
                      refine Ow_caseG rfl rfl rfl ?_ ?_
                      · intro h231
                        have h231 := nt_t (h231)
                        refine Ow_pass rfl rfl rfl rfl rfl rfl rfl ?_
                        refine Ow_pass rfl rfl rfl rfl rfl rfl rfl ?_
                        refine Ow_pass rfl rfl rfl rfl rfl rfl rfl ?_
                        refine Ow_pass rfl rfl rfl rfl rfl rfl rfl ?_
                        refine Ow_q rfl rfl rfl (Qt_pick_t rfl rfl) ?_
                        refine Ow_nil ?_
                        refine Cw_cond_t rfl ?_
                        refine Cw_seq ?_
                        refine Cw_region ?_
                        refine Ow_q rfl rfl rfl (Qt_assign rfl) ?_
                        refine Ow_nil ?_
                        refine Cw_ret ?_
                        refine ⟨(by first | exact .inl rfl | exact .inr rfl), [(.bool false)], G, ⟨(.bool false), _, rfl, rfl, rfl⟩, .cons _ (.cons _ (.cons _ (.cons _ (.cons _ (.cons _ (.refl _)))))), ?_⟩
                        exfalso
                        first | omega | (simp_all [Answer.abs, An.mk.injEq, an0, dcd_eq]; done) | (simp_all [Answer.abs, An.mk.injEq, an0, dcd_eq]; omega)
                      · intro h231
                        have h231 := nt_f (h231)
                        refine Ow_qw rfl rfl rfl rfl rfl rfl (Qt_loadA (m := 4) (cs := Answer.cells b219) rfl rfl rfl rfl ⟨rfl, Rdc.blk (.head _) rfl⟩) ?_
                        refine Ow_qw rfl rfl rfl rfl rfl rfl (Qt_build (cs := Answer.cells (Answer.mk 0 false false (SI.mk none 0 []))) rfl rfl rfl rfl rfl rfl) ?_
                        refine Ow_want rfl rfl rfl rfl (OpW_callP (v0 := (.bool (decide (b219.abs = (Answer.mk 0 false false (SI.mk none 0 [])).abs)))) rfl Try.call39 rfl rfl (c_sameAns b219 (Answer.mk 0 false false (SI.mk none 0 [])) _ _ hb223 ⟨(Sl.nil _ _)⟩) ?_)
                        refine Ow_qw rfl rfl rfl rfl rfl rfl (Qt_not rfl) ?_
                        refine Ow_q rfl rfl rfl (Qt_pick_f rfl rfl) ?_
                        refine Ow_nil ?_
                        refine Cw_cond rfl ?_ ?_
                        · intro h232
                          have h232 := nt_t (h232)
                          refine Cw_seq ?_
                          refine Cw_region ?_
                          refine Ow_q rfl rfl rfl (Qt_assign rfl) ?_
                          refine Ow_nil ?_
                          refine Cw_ret ?_
                          refine ⟨(by first | exact .inl rfl | exact .inr rfl), [(.bool false)], G, ⟨(.bool false), _, rfl, rfl, rfl⟩, .cons _ (.cons _ (.cons _ (.cons _ (.cons _ (.cons _ (.refl _)))))), ?_⟩
                          exfalso
                          first | omega | (simp_all [Answer.abs, An.mk.injEq, an0, dcd_eq]; done) | (simp_all [Answer.abs, An.mk.injEq, an0, dcd_eq]; omega)
                        · intro h232
                          have h232 := nt_f (h232)
                          refine Cw_skip ?_
                          refine Cw_region ?_
                          refine Ow_q rfl rfl rfl (Qt_arith (e := (((i : Nat) : Int) + 1)) rfl rfl rfl (wrap_eq (by omega) (by omega))) ?_
                          refine Ow_q rfl rfl rfl (Qt_move rfl) ?_
                          refine Ow_nil ?_
                          refine ⟨_, [(0, (.int .u64 word)), (1, (.int .u64 old)), (2, (.int .i64 (tick % 1000))), (3, (.int .i64 until_)), (11, (.pointer (some ((⟨b135, 0, none⟩ : Addr).add 0)))), (38, (.slice (some a136) 5 5)), (39, (.int .i64 5)), (40, (.int .i64 (((i + 1) : Nat) : Int)))], .blk b135 49 [(.slice (some a134) 1 1), (.slice none 0 0), (.int .i64 (tick % 1000))] :: G, ⟨rfl, rfl, rfl, rfl, rfl, rfl, rfl, rfl, trivial⟩, (.cons _ (.cons _ (.cons _ (.cons _ (.cons _ (.cons_cons _ (.refl _))))))), (by first | omega | (simp only [List.length_append, List.length_cons, List.length_nil]; omega)), (i + 1), rfl, rfl, rfl, (by first | omega | (simp only [List.length_append, List.length_cons, List.length_nil, List.length_replicate, List.length_set]; omega) | (simp; omega))⟩
              · intro h211
                refine Ow_pass rfl rfl rfl rfl rfl rfl rfl ?_
                refine Ow_pass rfl rfl rfl rfl rfl rfl rfl ?_
                refine Ow_pass rfl rfl rfl rfl rfl rfl rfl ?_
                refine Ow_pass rfl rfl rfl rfl rfl rfl rfl ?_
                refine Ow_pass rfl rfl rfl rfl rfl rfl rfl ?_
                refine Ow_passU rfl rfl rfl rfl rfl ?_
                refine Ow_passU rfl rfl rfl rfl rfl ?_
                refine Ow_passU rfl rfl rfl rfl rfl ?_
                refine Ow_passU rfl rfl rfl rfl rfl ?_
                refine Ow_passU rfl rfl rfl rfl rfl ?_
                refine Ow_passU rfl rfl rfl rfl rfl ?_
                refine Ow_pass rfl rfl rfl rfl rfl rfl rfl ?_
                refine Ow_pass rfl rfl rfl rfl rfl rfl rfl ?_
                refine Ow_passU rfl rfl rfl rfl rfl ?_
                refine Ow_passU rfl rfl rfl rfl rfl ?_
                refine Ow_pass rfl rfl rfl rfl rfl rfl rfl ?_
                refine Ow_q rfl rfl rfl (Qt_pick_f rfl rfl) ?_
                refine Ow_nil ?_
                refine Cw_cond_f rfl ?_
                refine Cw_skip ?_
                refine Cw_seq ?_
                refine Cw_region ?_
                refine Ow_q rfl rfl rfl (Qt_move rfl) ?_
                have hm233 : (0 : Int) < 5 ∧ (5 : Int) ≤ 9223372036854775807 := (by first | omega | (simp only [List.length_append, List.length_cons, List.length_nil, List.length_replicate, List.length_set]; omega) | (simp; omega))
                have he234 := Int.emod_nonneg until_ (show (5 : Int) ≠ 0 by omega)
                have he235 := Int.emod_lt_of_pos until_ (show (0 : Int) < 5 by omega)
                refine Ow_cons rfl (OpW_callP (v0 := (.int .i64 (until_ % 5))) rfl Try.call23 rfl rfl (c_mod until_ 5 hm233 _ _ trivial) ?_)
                refine Ow_q rfl rfl rfl (Qt_arith (e := 1 + (until_ % 5)) rfl rfl rfl (IntWalk.i64_in _ (by omega))) ?_
                refine Ow_q rfl rfl rfl (Qt_fieldAddr (m := 1) rfl rfl rfl rfl rfl) ?_
                refine Ow_cons rfl (OpW_store (vs := [(.int .i64 (1 + (until_ % 5)))]) (all' := [(.int .i64 4), (.int .i64 (1 + (until_ % 5))), (.int .u64 old), (.int .u64 0), (.int .i64 x151)]) rfl rfl rfl rfl rfl (.there (.there .here)) rfl rfl rfl ?_)
                refine Ow_nil ?_
                refine Cw_seq ?_
                refine Cw_region ?_
                refine Ow_q rfl rfl rfl (Qt_loadA (m := 3) (cs := Mem.cells (Mem.mk (SI.mk (some a134) 1 [word]) (SS.mk none 0 []) (tick % 1000))) rfl rfl rfl rfl ⟨rfl, Rdc.blk (.tail _ (.tail _ (.tail _ (.head _)))) rfl⟩) ?_
                refine Ow_q rfl rfl rfl (Qt_loadA (m := 5) (cs := Access.cells (Access.mk 4 (1 + (until_ % 5)) old 0 x151)) rfl rfl rfl rfl ⟨rfl, Rdc.blk (.tail _ (.tail _ (.head _))) rfl⟩) ?_
                refine Ow_cons rfl (OpW_call rfl Try.call34 rfl rfl (c_apply (Mem.mk (SI.mk (some a134) 1 [word]) (SS.mk none 0 []) (tick % 1000)) (Access.mk 4 (1 + (until_ % 5)) old 0 x151) _ _ ⟨hs163, (Sl.nil _ _), SlAll.nil, (by first | omega | (simp only [List.length_append, List.length_cons, List.length_nil, List.length_replicate, List.length_set]; omega) | (simp; omega)), (by first | omega | (simp only [List.length_append, List.length_cons, List.length_nil, List.length_replicate, List.length_set]; omega) | (simp; omega))⟩) ?_)
                rintro _ K238 _ hK239 ⟨m236, b237, rfl, rfl, hm240, hb241, he242⟩
                have he2421 : m236.abs = (applyS (Mem.mk (SI.mk (some a134) 1 [word]) (SS.mk none 0 []) (tick % 1000)).abs (Access.mk 4 (1 + (until_ % 5)) old 0 x151)).1 := by rw [← he242]
                have he2422 : b237.abs = (applyS (Mem.mk (SI.mk (some a134) 1 [word]) (SS.mk none 0 []) (tick % 1000)).abs (Access.mk 4 (1 + (until_ % 5)) old 0 x151)).2 := by rw [← he242]
                have hs243 := hs162.mono hK239
                have hs244 := hs163.mono hK239
                have hs245 := hb160.mono hK239
                have hs246 := hm159.mono hK239
                have hm240w := Sl.le hm240.w
                have hm240l := Sl.le hm240.l
                have hm240zw := hm240.zw
                have hm240zl := hm240.zl
                refine Ow_q rfl rfl rfl (Qt_move rfl) ?_
                refine Ow_q rfl rfl rfl (Qt_extract rfl rfl) ?_
                refine Ow_q rfl rfl rfl (Qt_extract rfl rfl) ?_
                refine Ow_q rfl rfl rfl (Qt_extract rfl rfl) ?_
                refine Ow_cons rfl (OpW_alloc (cs := [(.slice none 0 0), (.slice none 0 0), (.int .i64 0)]) rfl rfl rfl rfl (fun b247 => ?_))
                refine Ow_cons rfl (OpW_alloc (cs := [(.int .u64 0), (.bool false), (.bool false), (.slice none 0 0)]) rfl rfl rfl rfl (fun b248 => ?_))
                refine Ow_cons rfl (OpW_store (vs := [(.slice m236.words.A m236.words.l.length m236.words.cp), (.slice m236.lists.A m236.lists.l.length m236.lists.cp), (.int .i64 m236.tick)]) (all' := [(.slice m236.words.A m236.words.l.length m236.words.cp), (.slice m236.lists.A m236.lists.l.length m236.lists.cp), (.int .i64 m236.tick)]) rfl rfl rfl rfl rfl (.there .here) rfl rfl rfl ?_)
                refine Ow_cons rfl (OpW_store (vs := [(.int .u64 b237.value), (.bool b237.ok), (.bool b237.late), (.slice b237.list.A b237.list.l.length b237.list.cp)]) (all' := [(.int .u64 b237.value), (.bool b237.ok), (.bool b237.late), (.slice b237.list.A b237.list.l.length b237.list.cp)]) rfl rfl rfl rfl rfl .here rfl rfl rfl ?_)
                refine Ow_q rfl rfl rfl (Qt_assign rfl) ?_
                refine Ow_nil ?_
                refine Cw_seq ?_
                refine Cw_region ?_
                refine Ow_q rfl rfl rfl (Qt_move rfl) ?_
                refine Ow_q rfl rfl rfl (Qt_not rfl) ?_
                refine Ow_q rfl rfl rfl (Qt_move rfl) ?_
                refine Ow_caseG rfl rfl rfl ?_ ?_
                · intro h249
                  have h249 := nt_t (h249)
                  refine Ow_pass rfl rfl rfl rfl rfl rfl rfl ?_
                  refine Ow_pass rfl rfl rfl rfl rfl rfl rfl ?_
                  refine Ow_pass rfl rfl rfl rfl rfl rfl rfl ?_
                  refine Ow_pass rfl rfl rfl rfl rfl rfl rfl ?_
                  refine Ow_q rfl rfl rfl (Qt_pick_t rfl rfl) ?_
                  refine Ow_nil ?_
                  refine Cw_cond_t rfl ?_
                  refine Cw_seq ?_
                  refine Cw_region ?_
                  refine Ow_q rfl rfl rfl (Qt_assign rfl) ?_
                  refine Ow_nil ?_
                  refine Cw_ret ?_
                  refine ⟨(by first | exact .inl rfl | exact .inr rfl), [(.bool false)], G, ⟨(.bool false), _, rfl, rfl, rfl⟩, .cons _ (.cons _ (.cons _ (.cons _ (.cons _ (.cons _ (.refl _)))))), ?_⟩
                  exfalso
                  first | omega | (simp_all [Answer.abs, An.mk.injEq, an0, dcd_eq]; done) | (simp_all [Answer.abs, An.mk.injEq, an0, dcd_eq]; omega)
                · intro h249
                  have h249 := nt_f (h249)
                  refine Ow_qw rfl rfl rfl rfl rfl rfl (Qt_loadA (m := 4) (cs := Answer.cells b237) rfl rfl rfl rfl ⟨rfl, Rdc.blk (.head _) rfl⟩) ?_
                  refine Ow_qw rfl rfl rfl rfl rfl rfl (Qt_build (cs := Answer.cells (Answer.mk 0 false false (SI.mk none 0 []))) rfl rfl rfl rfl rfl rfl) ?_
                  refine Ow_want rfl rfl rfl rfl (OpW_callP (v0 := (.bool (decide (b237.abs = (Answer.mk 0 false false (SI.mk none 0 [])).abs)))) rfl Try.call39 rfl rfl (c_sameAns b237 (Answer.mk 0 false false (SI.mk none 0 [])) _ _ hb241 ⟨(Sl.nil _ _)⟩) ?_)
                  refine Ow_qw rfl rfl rfl rfl rfl rfl (Qt_not rfl) ?_
                  refine Ow_q rfl rfl rfl (Qt_pick_f rfl rfl) ?_
                  refine Ow_nil ?_
                  refine Cw_cond rfl ?_ ?_
                  · intro h250
                    have h250 := nt_t (h250)
                    refine Cw_seq ?_
                    refine Cw_region ?_
                    refine Ow_q rfl rfl rfl (Qt_assign rfl) ?_
                    refine Ow_nil ?_
                    refine Cw_ret ?_
                    refine ⟨(by first | exact .inl rfl | exact .inr rfl), [(.bool false)], G, ⟨(.bool false), _, rfl, rfl, rfl⟩, .cons _ (.cons _ (.cons _ (.cons _ (.cons _ (.cons _ (.refl _)))))), ?_⟩
                    exfalso
                    first | omega | (simp_all [Answer.abs, An.mk.injEq, an0, dcd_eq]; done) | (simp_all [Answer.abs, An.mk.injEq, an0, dcd_eq]; omega)
                  · intro h250
                    have h250 := nt_f (h250)
                    refine Cw_skip ?_
                    refine Cw_region ?_
                    refine Ow_q rfl rfl rfl (Qt_arith (e := (((i : Nat) : Int) + 1)) rfl rfl rfl (wrap_eq (by omega) (by omega))) ?_
                    refine Ow_q rfl rfl rfl (Qt_move rfl) ?_
                    refine Ow_nil ?_
                    refine ⟨_, [(0, (.int .u64 word)), (1, (.int .u64 old)), (2, (.int .i64 (tick % 1000))), (3, (.int .i64 until_)), (11, (.pointer (some ((⟨b135, 0, none⟩ : Addr).add 0)))), (38, (.slice (some a136) 5 5)), (39, (.int .i64 5)), (40, (.int .i64 (((i + 1) : Nat) : Int)))], .blk b135 49 [(.slice (some a134) 1 1), (.slice none 0 0), (.int .i64 (tick % 1000))] :: G, ⟨rfl, rfl, rfl, rfl, rfl, rfl, rfl, rfl, trivial⟩, (.cons _ (.cons _ (.cons _ (.cons _ (.cons _ (.cons_cons _ (.refl _))))))), (by first | omega | (simp only [List.length_append, List.length_cons, List.length_nil]; omega)), (i + 1), rfl, rfl, rfl, (by first | omega | (simp only [List.length_append, List.length_cons, List.length_nil, List.length_replicate, List.length_set]; omega) | (simp; omega))⟩
      · intro h154
        have h154 := dcd_f (h154)
        refine Ow_pass rfl rfl rfl rfl rfl rfl rfl ?_
        refine Ow_pass rfl rfl rfl rfl rfl rfl rfl ?_
        refine Ow_pass rfl rfl rfl rfl rfl rfl rfl ?_
        refine Ow_pass rfl rfl rfl rfl rfl rfl rfl ?_
        refine Ow_q rfl rfl rfl (Qt_pick_f rfl rfl) ?_
        refine Ow_q rfl rfl rfl (Qt_assign rfl) ?_
        refine Ow_nil ?_
        refine Cw_seq ?_
        refine Cw_region ?_
        refine Ow_q rfl rfl rfl (Qt_loadA (m := 3) (cs := Mem.cells (Mem.mk (SI.mk (some a134) 1 [word]) (SS.mk none 0 []) (tick % 1000))) rfl rfl rfl rfl ⟨rfl, Rdc.blk (.tail _ (.head _)) rfl⟩) ?_
        refine Ow_q rfl rfl rfl (Qt_loadA (m := 5) (cs := Access.cells (Access.mk 4 0 old 0 x151)) rfl rfl rfl rfl ⟨rfl, Rdc.blk (.head _) rfl⟩) ?_
        refine Ow_cons rfl (OpW_call rfl Try.call34 rfl rfl (c_apply (Mem.mk (SI.mk (some a134) 1 [word]) (SS.mk none 0 []) (tick % 1000)) (Access.mk 4 0 old 0 x151) _ _ ⟨hs149, (Sl.nil _ _), SlAll.nil, (by first | omega | (simp only [List.length_append, List.length_cons, List.length_nil, List.length_replicate, List.length_set]; omega) | (simp; omega)), (by first | omega | (simp only [List.length_append, List.length_cons, List.length_nil, List.length_replicate, List.length_set]; omega) | (simp; omega))⟩) ?_)
        rintro _ K253 _ hK254 ⟨m251, b252, rfl, rfl, hm255, hb256, he257⟩
        have he2571 : m251.abs = (applyS (Mem.mk (SI.mk (some a134) 1 [word]) (SS.mk none 0 []) (tick % 1000)).abs (Access.mk 4 0 old 0 x151)).1 := by rw [← he257]
        have he2572 : b252.abs = (applyS (Mem.mk (SI.mk (some a134) 1 [word]) (SS.mk none 0 []) (tick % 1000)).abs (Access.mk 4 0 old 0 x151)).2 := by rw [← he257]
        have hs258 := hs148.mono hK254
        have hs259 := hs149.mono hK254
        have hm255w := Sl.le hm255.w
        have hm255l := Sl.le hm255.l
        have hm255zw := hm255.zw
        have hm255zl := hm255.zl
        refine Ow_q rfl rfl rfl (Qt_move rfl) ?_
        refine Ow_q rfl rfl rfl (Qt_extract rfl rfl) ?_
        refine Ow_q rfl rfl rfl (Qt_extract rfl rfl) ?_
        refine Ow_q rfl rfl rfl (Qt_extract rfl rfl) ?_
        refine Ow_cons rfl (OpW_alloc (cs := [(.slice none 0 0), (.slice none 0 0), (.int .i64 0)]) rfl rfl rfl rfl (fun b260 => ?_))
        refine Ow_cons rfl (OpW_alloc (cs := [(.int .u64 0), (.bool false), (.bool false), (.slice none 0 0)]) rfl rfl rfl rfl (fun b261 => ?_))
        refine Ow_cons rfl (OpW_store (vs := [(.slice m251.words.A m251.words.l.length m251.words.cp), (.slice m251.lists.A m251.lists.l.length m251.lists.cp), (.int .i64 m251.tick)]) (all' := [(.slice m251.words.A m251.words.l.length m251.words.cp), (.slice m251.lists.A m251.lists.l.length m251.lists.cp), (.int .i64 m251.tick)]) rfl rfl rfl rfl rfl (.there .here) rfl rfl rfl ?_)
        refine Ow_cons rfl (OpW_store (vs := [(.int .u64 b252.value), (.bool b252.ok), (.bool b252.late), (.slice b252.list.A b252.list.l.length b252.list.cp)]) (all' := [(.int .u64 b252.value), (.bool b252.ok), (.bool b252.late), (.slice b252.list.A b252.list.l.length b252.list.cp)]) rfl rfl rfl rfl rfl .here rfl rfl rfl ?_)
        refine Ow_q rfl rfl rfl (Qt_assign rfl) ?_
        refine Ow_nil ?_
        refine Cw_seq ?_
        refine Cw_seq ?_
        refine Cw_region ?_
        refine Ow_q rfl rfl rfl (Qt_move rfl) ?_
        refine Ow_q rfl rfl rfl (Qt_move rfl) ?_
        refine Ow_q rfl rfl rfl (Qt_move rfl) ?_
        refine Ow_q rfl rfl rfl (Qt_cmp rfl rfl rfl) ?_
        refine Ow_q rfl rfl rfl (Qt_move rfl) ?_
        refine Ow_caseG rfl rfl rfl ?_ ?_
        · intro h262
          have h262 := dcd_f (nt_t (h262))
          refine Ow_pass rfl rfl rfl rfl rfl rfl rfl ?_
          refine Ow_q rfl rfl rfl (Qt_pick_t rfl rfl) ?_
          refine Ow_q rfl rfl rfl (Qt_neB rfl rfl rfl) ?_
          refine Ow_q rfl rfl rfl (Qt_move rfl) ?_
          refine Ow_caseG rfl rfl rfl ?_ ?_
          · intro h263
            have h263 := nt_t (h263)
            refine Ow_pass rfl rfl rfl rfl rfl rfl rfl ?_
            refine Ow_pass rfl rfl rfl rfl rfl rfl rfl ?_
            refine Ow_pass rfl rfl rfl rfl rfl rfl rfl ?_
            refine Ow_pass rfl rfl rfl rfl rfl rfl rfl ?_
            refine Ow_pass rfl rfl rfl rfl rfl rfl rfl ?_
            refine Ow_q rfl rfl rfl (Qt_pick_t rfl rfl) ?_
            refine Ow_q rfl rfl rfl (Qt_move rfl) ?_
            refine Ow_pass rfl rfl rfl rfl rfl rfl rfl ?_
            refine Ow_pass rfl rfl rfl rfl rfl rfl rfl ?_
            refine Ow_pass rfl rfl rfl rfl rfl rfl rfl ?_
            refine Ow_pass rfl rfl rfl rfl rfl rfl rfl ?_
            refine Ow_q rfl rfl rfl (Qt_pick_t rfl rfl) ?_
            refine Ow_nil ?_
            refine Cw_cond_t rfl ?_
            refine Cw_seq ?_
            refine Cw_region ?_
            refine Ow_q rfl rfl rfl (Qt_assign rfl) ?_
            refine Ow_nil ?_
            refine Cw_ret ?_
            refine ⟨(by first | exact .inl rfl | exact .inr rfl), [(.bool false)], G, ⟨(.bool false), _, rfl, rfl, rfl⟩, .cons _ (.cons _ (.cons _ (.cons _ (.refl _)))), ?_⟩
            exfalso
            first | omega | (simp_all [Answer.abs, An.mk.injEq, an0, dcd_eq]; done) | (simp_all [Answer.abs, An.mk.injEq, an0, dcd_eq]; omega)
          · intro h263
            have h263 := nt_f (h263)
            refine Ow_qw rfl rfl rfl rfl rfl rfl (Qt_loadA (m := 3) (cs := Mem.cells (Mem.mk (SI.mk (some a134) 1 [word]) (SS.mk none 0 []) (tick % 1000))) rfl rfl rfl rfl ⟨rfl, Rdc.blk (.tail _ (.tail _ (.tail _ (.head _)))) rfl⟩) ?_
            refine Ow_qw rfl rfl rfl rfl rfl rfl (Qt_loadA (m := 5) (cs := Access.cells (Access.mk 4 0 old 0 x151)) rfl rfl rfl rfl ⟨rfl, Rdc.blk (.tail _ (.tail _ (.head _))) rfl⟩) ?_
            refine Ow_want rfl rfl rfl rfl (OpW_callP (v0 := (.bool (grantedS (Mem.mk (SI.mk (some a134) 1 [word]) (SS.mk none 0 []) (tick % 1000)).abs (Access.mk 4 0 old 0 x151)))) rfl Try.call36 rfl rfl (c_granted (Mem.mk (SI.mk (some a134) 1 [word]) (SS.mk none 0 []) (tick % 1000)) (Access.mk 4 0 old 0 x151) _ _ ⟨hs259, (Sl.nil _ _), SlAll.nil, (by first | omega | (simp only [List.length_append, List.length_cons, List.length_nil, List.length_replicate, List.length_set]; omega) | (simp; omega)), (by first | omega | (simp only [List.length_append, List.length_cons, List.length_nil, List.length_replicate, List.length_set]; omega) | (simp; omega))⟩) ?_)
            refine Ow_qw rfl rfl rfl rfl rfl rfl (Qt_move rfl) ?_
            refine Ow_qw rfl rfl rfl rfl rfl rfl (Qt_neB rfl rfl rfl) ?_
            refine Ow_q rfl rfl rfl (Qt_pick_f rfl rfl) ?_
            refine Ow_q rfl rfl rfl (Qt_move rfl) ?_
            refine Ow.known (d := 77) rfl (nt_mf (beq_self_eq_true _)) ?_
            refine Ow_qw rfl rfl rfl rfl rfl rfl (Qt_loadA (m := 3) (cs := Mem.cells m251) rfl rfl rfl rfl ⟨rfl, Rdc.blk (.tail _ (.head _)) rfl⟩) ?_
            refine Ow_qw rfl rfl rfl rfl rfl rfl (Qt_loadA (m := 3) (cs := Mem.cells (Mem.mk (SI.mk (some a134) 1 [word]) (SS.mk none 0 []) (tick % 1000))) rfl rfl rfl rfl ⟨rfl, Rdc.blk (.tail _ (.tail _ (.tail _ (.head _)))) rfl⟩) ?_
            refine Ow_want rfl rfl rfl rfl (OpW_callP (v0 := (.bool (decide (m251.abs = (Mem.mk (SI.mk (some a134) 1 [word]) (SS.mk none 0 []) (tick % 1000)).abs)))) rfl Try.call38 rfl rfl (c_sameMem m251 (Mem.mk (SI.mk (some a134) 1 [word]) (SS.mk none 0 []) (tick % 1000)) _ _ hm255 ⟨hs259, (Sl.nil _ _), SlAll.nil, (by first | omega | (simp only [List.length_append, List.length_cons, List.length_nil, List.length_replicate, List.length_set]; omega) | (simp; omega)), (by first | omega | (simp only [List.length_append, List.length_cons, List.length_nil, List.length_replicate, List.length_set]; omega) | (simp; omega))⟩) ?_)
            refine Ow_qw rfl rfl rfl rfl rfl rfl (Qt_not rfl) ?_
            refine Ow_q rfl rfl rfl (Qt_pick_f rfl rfl) ?_
            refine Ow_nil ?_
            refine Cw_cond rfl ?_ ?_
            · intro h264
              have h264 := nt_t (h264)
              refine Cw_seq ?_
              refine Cw_region ?_
              refine Ow_q rfl rfl rfl (Qt_assign rfl) ?_
              refine Ow_nil ?_
              refine Cw_ret ?_
              refine ⟨(by first | exact .inl rfl | exact .inr rfl), [(.bool false)], G, ⟨(.bool false), _, rfl, rfl, rfl⟩, .cons _ (.cons _ (.cons _ (.cons _ (.refl _)))), ?_⟩
              exfalso
              first | omega | (simp_all [Answer.abs, An.mk.injEq, an0, dcd_eq]; done) | (simp_all [Answer.abs, An.mk.injEq, an0, dcd_eq]; omega)
            · intro h264
              have h264 := nt_f (h264)
              refine Cw_skip ?_
              refine Cw_seq ?_
              refine Cw_seq ?_
              refine Cw_region ?_
              refine Ow_q rfl rfl rfl (Qt_move rfl) ?_
              refine Ow_q rfl rfl rfl (Qt_move rfl) ?_
              refine Ow_caseG rfl rfl rfl ?_ ?_
              · intro h265
                refine Ow_qw rfl rfl rfl rfl rfl rfl (Qt_fieldAddr (m := 0) rfl rfl rfl rfl rfl) ?_
                refine Ow_qw rfl rfl rfl rfl rfl rfl (Qt_load1 (v := (.int .u64 b252.value)) rfl rfl rfl (Rdc.blk (.head _) rfl)) ?_
                refine Ow_qw rfl rfl rfl rfl rfl rfl (Qt_move rfl) ?_
                refine Ow_qw rfl rfl rfl rfl rfl rfl (Qt_cmp rfl rfl rfl) ?_
                refine Ow_qw rfl rfl rfl rfl rfl rfl (Qt_move rfl) ?_
                refine Ow_caseG rfl rfl rfl ?_ ?_
                · intro h266
                  have h266 := dcd_f (nt_t (h266))
                  refine Ow_pass rfl rfl rfl rfl rfl rfl rfl ?_
                  refine Ow_pass rfl rfl rfl rfl rfl rfl rfl ?_
                  refine Ow_pass rfl rfl rfl rfl rfl rfl rfl ?_
                  refine Ow_pass rfl rfl rfl rfl rfl rfl rfl ?_
                  refine Ow_pass rfl rfl rfl rfl rfl rfl rfl ?_
                  refine Ow_pass rfl rfl rfl rfl rfl rfl rfl ?_
                  refine Ow_qw rfl rfl rfl rfl rfl rfl (Qt_pick_t rfl rfl) ?_
                  refine Ow_qw rfl rfl rfl rfl rfl rfl (Qt_move rfl) ?_
                  refine Ow_pass rfl rfl rfl rfl rfl rfl rfl ?_
                  refine Ow_pass rfl rfl rfl rfl rfl rfl rfl ?_
                  refine Ow_qw rfl rfl rfl rfl rfl rfl (Qt_pick_t rfl rfl) ?_
                  refine Ow_q rfl rfl rfl (Qt_pick_t rfl rfl) ?_
                  refine Ow_nil ?_
                  refine Cw_cond_t rfl ?_
                  refine Cw_seq ?_
                  refine Cw_region ?_
                  refine Ow_q rfl rfl rfl (Qt_assign rfl) ?_
                  refine Ow_nil ?_
                  refine Cw_ret ?_
                  refine ⟨(by first | exact .inl rfl | exact .inr rfl), [(.bool false)], G, ⟨(.bool false), _, rfl, rfl, rfl⟩, .cons _ (.cons _ (.cons _ (.cons _ (.refl _)))), ?_⟩
                  exfalso
                  first | omega | (simp_all [Answer.abs, An.mk.injEq, an0, dcd_eq]; done) | (simp_all [Answer.abs, An.mk.injEq, an0, dcd_eq]; omega)
                · intro h266
                  have h266 := dcd_t (nt_f (h266))
                  refine Ow_qw rfl rfl rfl rfl rfl rfl (Qt_fieldAddr (m := 2) rfl rfl rfl rfl rfl) ?_
                  refine Ow_qw rfl rfl rfl rfl rfl rfl (Qt_load1 (v := (.bool b252.late)) rfl rfl rfl (Rdc.blk (.head _) rfl)) ?_
                  refine Ow_qw rfl rfl rfl rfl rfl rfl (Qt_move rfl) ?_
                  refine Ow_qw rfl rfl rfl rfl rfl rfl (Qt_move rfl) ?_
                  refine Ow_qw rfl rfl rfl rfl rfl rfl (Qt_cmp rfl rfl rfl) ?_
                  refine Ow_qw rfl rfl rfl rfl rfl rfl (Qt_neB rfl rfl rfl) ?_
                  refine Ow_qw rfl rfl rfl rfl rfl rfl (Qt_pick_f rfl rfl) ?_
                  refine Ow_qw rfl rfl rfl rfl rfl rfl (Qt_move rfl) ?_
                  refine Ow_caseG rfl rfl rfl ?_ ?_
                  · intro h267
                    have h267 := nt_t (h267)
                    refine Ow_pass rfl rfl rfl rfl rfl rfl rfl ?_
                    refine Ow_pass rfl rfl rfl rfl rfl rfl rfl ?_
                    refine Ow_qw rfl rfl rfl rfl rfl rfl (Qt_pick_t rfl rfl) ?_
                    refine Ow_q rfl rfl rfl (Qt_pick_t rfl rfl) ?_
                    refine Ow_nil ?_
                    refine Cw_cond_t rfl ?_
                    refine Cw_seq ?_
                    refine Cw_region ?_
                    refine Ow_q rfl rfl rfl (Qt_assign rfl) ?_
                    refine Ow_nil ?_
                    refine Cw_ret ?_
                    refine ⟨(by first | exact .inl rfl | exact .inr rfl), [(.bool false)], G, ⟨(.bool false), _, rfl, rfl, rfl⟩, .cons _ (.cons _ (.cons _ (.cons _ (.refl _)))), ?_⟩
                    exfalso
                    first | omega | (simp_all [Answer.abs, An.mk.injEq, an0, dcd_eq]; done) | (simp_all [Answer.abs, An.mk.injEq, an0, dcd_eq]; omega)
                  · intro h267
                    have h267 := nt_f (h267)
                    refine Ow_qw rfl rfl rfl rfl rfl rfl (Qt_fieldAddr (m := 1) rfl rfl rfl rfl rfl) ?_
                    refine Ow_qw rfl rfl rfl rfl rfl rfl (Qt_load1 (v := (.bool b252.ok)) rfl rfl rfl (Rdc.blk (.head _) rfl)) ?_
                    refine Ow_qw rfl rfl rfl rfl rfl rfl (Qt_pick_f rfl rfl) ?_
                    refine Ow_q rfl rfl rfl (Qt_pick_t rfl rfl) ?_
                    refine Ow_nil ?_
                    refine Cw_cond rfl ?_ ?_
                    · intro h268
                      refine Cw_seq ?_
                      refine Cw_region ?_
                      refine Ow_q rfl rfl rfl (Qt_assign rfl) ?_
                      refine Ow_nil ?_
                      refine Cw_ret ?_
                      refine ⟨(by first | exact .inl rfl | exact .inr rfl), [(.bool false)], G, ⟨(.bool false), _, rfl, rfl, rfl⟩, .cons _ (.cons _ (.cons _ (.cons _ (.refl _)))), ?_⟩
                      exfalso
                      first | omega | (simp_all [Answer.abs, An.mk.injEq, an0, dcd_eq]; done) | (simp_all [Answer.abs, An.mk.injEq, an0, dcd_eq]; omega)
                    · intro h268
                      refine Cw_skip ?_
                      refine Cw_seq ?_
                      refine Cw_region ?_
                      refine Ow_q rfl rfl rfl (Qt_move rfl) ?_
                      have hm269 : (0 : Int) < 5 ∧ (5 : Int) ≤ 9223372036854775807 := (by first | omega | (simp only [List.length_append, List.length_cons, List.length_nil, List.length_replicate, List.length_set]; omega) | (simp; omega))
                      have he270 := Int.emod_nonneg until_ (show (5 : Int) ≠ 0 by omega)
                      have he271 := Int.emod_lt_of_pos until_ (show (0 : Int) < 5 by omega)
                      refine Ow_cons rfl (OpW_callP (v0 := (.int .i64 (until_ % 5))) rfl Try.call23 rfl rfl (c_mod until_ 5 hm269 _ _ trivial) ?_)
                      refine Ow_q rfl rfl rfl (Qt_arith (e := 1 + (until_ % 5)) rfl rfl rfl (IntWalk.i64_in _ (by omega))) ?_
                      refine Ow_q rfl rfl rfl (Qt_fieldAddr (m := 1) rfl rfl rfl rfl rfl) ?_
                      refine Ow_cons rfl (OpW_store (vs := [(.int .i64 (1 + (until_ % 5)))]) (all' := [(.int .i64 4), (.int .i64 (1 + (until_ % 5))), (.int .u64 old), (.int .u64 0), (.int .i64 x151)]) rfl rfl rfl rfl rfl (.there (.there .here)) rfl rfl rfl ?_)
                      refine Ow_nil ?_
                      refine Cw_seq ?_
                      refine Cw_region ?_
                      refine Ow_q rfl rfl rfl (Qt_loadA (m := 3) (cs := Mem.cells (Mem.mk (SI.mk (some a134) 1 [word]) (SS.mk none 0 []) (tick % 1000))) rfl rfl rfl rfl ⟨rfl, Rdc.blk (.tail _ (.tail _ (.tail _ (.head _)))) rfl⟩) ?_
                      refine Ow_q rfl rfl rfl (Qt_loadA (m := 5) (cs := Access.cells (Access.mk 4 (1 + (until_ % 5)) old 0 x151)) rfl rfl rfl rfl ⟨rfl, Rdc.blk (.tail _ (.tail _ (.head _))) rfl⟩) ?_
                      refine Ow_cons rfl (OpW_call rfl Try.call34 rfl rfl (c_apply (Mem.mk (SI.mk (some a134) 1 [word]) (SS.mk none 0 []) (tick % 1000)) (Access.mk 4 (1 + (until_ % 5)) old 0 x151) _ _ ⟨hs259, (Sl.nil _ _), SlAll.nil, (by first | omega | (simp only [List.length_append, List.length_cons, List.length_nil, List.length_replicate, List.length_set]; omega) | (simp; omega)), (by first | omega | (simp only [List.length_append, List.length_cons, List.length_nil, List.length_replicate, List.length_set]; omega) | (simp; omega))⟩) ?_)
                      rintro _ K274 _ hK275 ⟨m272, b273, rfl, rfl, hm276, hb277, he278⟩
                      have he2781 : m272.abs = (applyS (Mem.mk (SI.mk (some a134) 1 [word]) (SS.mk none 0 []) (tick % 1000)).abs (Access.mk 4 (1 + (until_ % 5)) old 0 x151)).1 := by rw [← he278]
                      have he2782 : b273.abs = (applyS (Mem.mk (SI.mk (some a134) 1 [word]) (SS.mk none 0 []) (tick % 1000)).abs (Access.mk 4 (1 + (until_ % 5)) old 0 x151)).2 := by rw [← he278]
                      have hs279 := hs258.mono hK275
                      have hs280 := hs259.mono hK275
                      have hs281 := hb256.mono hK275
                      have hs282 := hm255.mono hK275
                      have hm276w := Sl.le hm276.w
                      have hm276l := Sl.le hm276.l
                      have hm276zw := hm276.zw
                      have hm276zl := hm276.zl
                      refine Ow_q rfl rfl rfl (Qt_move rfl) ?_
                      refine Ow_q rfl rfl rfl (Qt_extract rfl rfl) ?_
                      refine Ow_q rfl rfl rfl (Qt_extract rfl rfl) ?_
                      refine Ow_q rfl rfl rfl (Qt_extract rfl rfl) ?_
                      refine Ow_cons rfl (OpW_alloc (cs := [(.slice none 0 0), (.slice none 0 0), (.int .i64 0)]) rfl rfl rfl rfl (fun b283 => ?_))
                      refine Ow_cons rfl (OpW_alloc (cs := [(.int .u64 0), (.bool false), (.bool false), (.slice none 0 0)]) rfl rfl rfl rfl (fun b284 => ?_))
                      refine Ow_cons rfl (OpW_store (vs := [(.slice m272.words.A m272.words.l.length m272.words.cp), (.slice m272.lists.A m272.lists.l.length m272.lists.cp), (.int .i64 m272.tick)]) (all' := [(.slice m272.words.A m272.words.l.length m272.words.cp), (.slice m272.lists.A m272.lists.l.length m272.lists.cp), (.int .i64 m272.tick)]) rfl rfl rfl rfl rfl (.there .here) rfl rfl rfl ?_)
                      refine Ow_cons rfl (OpW_store (vs := [(.int .u64 b273.value), (.bool b273.ok), (.bool b273.late), (.slice b273.list.A b273.list.l.length b273.list.cp)]) (all' := [(.int .u64 b273.value), (.bool b273.ok), (.bool b273.late), (.slice b273.list.A b273.list.l.length b273.list.cp)]) rfl rfl rfl rfl rfl .here rfl rfl rfl ?_)
                      refine Ow_q rfl rfl rfl (Qt_assign rfl) ?_
                      refine Ow_nil ?_
                      refine Cw_seq ?_
                      refine Cw_region ?_
                      refine Ow_q rfl rfl rfl (Qt_move rfl) ?_
                      refine Ow_q rfl rfl rfl (Qt_not rfl) ?_
                      refine Ow_q rfl rfl rfl (Qt_move rfl) ?_
                      refine Ow_caseG rfl rfl rfl ?_ ?_
                      · intro h285
                        have h285 := nt_t (h285)
                        refine Ow_pass rfl rfl rfl rfl rfl rfl rfl ?_
                        refine Ow_pass rfl rfl rfl rfl rfl rfl rfl ?_
                        refine Ow_pass rfl rfl rfl rfl rfl rfl rfl ?_
                        refine Ow_pass rfl rfl rfl rfl rfl rfl rfl ?_
                        refine Ow_q rfl rfl rfl (Qt_pick_t rfl rfl) ?_
                        refine Ow_nil ?_
                        refine Cw_cond_t rfl ?_
                        refine Cw_seq ?_
                        refine Cw_region ?_
                        refine Ow_q rfl rfl rfl (Qt_assign rfl) ?_
                        refine Ow_nil ?_
                        refine Cw_ret ?_
                        refine ⟨(by first | exact .inl rfl | exact .inr rfl), [(.bool false)], G, ⟨(.bool false), _, rfl, rfl, rfl⟩, .cons _ (.cons _ (.cons _ (.cons _ (.cons _ (.cons _ (.refl _)))))), ?_⟩
                        exfalso
                        first | omega | (simp_all [Answer.abs, An.mk.injEq, an0, dcd_eq]; done) | (simp_all [Answer.abs, An.mk.injEq, an0, dcd_eq]; omega)
                      · intro h285
                        have h285 := nt_f (h285)
                        refine Ow_qw rfl rfl rfl rfl rfl rfl (Qt_loadA (m := 4) (cs := Answer.cells b273) rfl rfl rfl rfl ⟨rfl, Rdc.blk (.head _) rfl⟩) ?_
                        refine Ow_qw rfl rfl rfl rfl rfl rfl (Qt_build (cs := Answer.cells (Answer.mk 0 false false (SI.mk none 0 []))) rfl rfl rfl rfl rfl rfl) ?_
                        refine Ow_want rfl rfl rfl rfl (OpW_callP (v0 := (.bool (decide (b273.abs = (Answer.mk 0 false false (SI.mk none 0 [])).abs)))) rfl Try.call39 rfl rfl (c_sameAns b273 (Answer.mk 0 false false (SI.mk none 0 [])) _ _ hb277 ⟨(Sl.nil _ _)⟩) ?_)
                        refine Ow_qw rfl rfl rfl rfl rfl rfl (Qt_not rfl) ?_
                        refine Ow_q rfl rfl rfl (Qt_pick_f rfl rfl) ?_
                        refine Ow_nil ?_
                        refine Cw_cond rfl ?_ ?_
                        · intro h286
                          have h286 := nt_t (h286)
                          refine Cw_seq ?_
                          refine Cw_region ?_
                          refine Ow_q rfl rfl rfl (Qt_assign rfl) ?_
                          refine Ow_nil ?_
                          refine Cw_ret ?_
                          refine ⟨(by first | exact .inl rfl | exact .inr rfl), [(.bool false)], G, ⟨(.bool false), _, rfl, rfl, rfl⟩, .cons _ (.cons _ (.cons _ (.cons _ (.cons _ (.cons _ (.refl _)))))), ?_⟩
                          exfalso
                          first | omega | (simp_all [Answer.abs, An.mk.injEq, an0, dcd_eq]; done) | (simp_all [Answer.abs, An.mk.injEq, an0, dcd_eq]; omega)
                        · intro h286
                          have h286 := nt_f (h286)
                          refine Cw_skip ?_
                          refine Cw_region ?_
                          refine Ow_q rfl rfl rfl (Qt_arith (e := (((i : Nat) : Int) + 1)) rfl rfl rfl (wrap_eq (by omega) (by omega))) ?_
                          refine Ow_q rfl rfl rfl (Qt_move rfl) ?_
                          refine Ow_nil ?_
                          refine ⟨_, [(0, (.int .u64 word)), (1, (.int .u64 old)), (2, (.int .i64 (tick % 1000))), (3, (.int .i64 until_)), (11, (.pointer (some ((⟨b135, 0, none⟩ : Addr).add 0)))), (38, (.slice (some a136) 5 5)), (39, (.int .i64 5)), (40, (.int .i64 (((i + 1) : Nat) : Int)))], .blk b135 49 [(.slice (some a134) 1 1), (.slice none 0 0), (.int .i64 (tick % 1000))] :: G, ⟨rfl, rfl, rfl, rfl, rfl, rfl, rfl, rfl, trivial⟩, (.cons _ (.cons _ (.cons _ (.cons _ (.cons _ (.cons_cons _ (.refl _))))))), (by first | omega | (simp only [List.length_append, List.length_cons, List.length_nil]; omega)), (i + 1), rfl, rfl, rfl, (by first | omega | (simp only [List.length_append, List.length_cons, List.length_nil, List.length_replicate, List.length_set]; omega) | (simp; omega))⟩
              · intro h265
                refine Ow_pass rfl rfl rfl rfl rfl rfl rfl ?_
                refine Ow_pass rfl rfl rfl rfl rfl rfl rfl ?_
                refine Ow_pass rfl rfl rfl rfl rfl rfl rfl ?_
                refine Ow_pass rfl rfl rfl rfl rfl rfl rfl ?_
                refine Ow_pass rfl rfl rfl rfl rfl rfl rfl ?_
                refine Ow_passU rfl rfl rfl rfl rfl ?_
                refine Ow_passU rfl rfl rfl rfl rfl ?_
                refine Ow_passU rfl rfl rfl rfl rfl ?_
                refine Ow_passU rfl rfl rfl rfl rfl ?_
                refine Ow_passU rfl rfl rfl rfl rfl ?_
                refine Ow_passU rfl rfl rfl rfl rfl ?_
                refine Ow_pass rfl rfl rfl rfl rfl rfl rfl ?_
                refine Ow_pass rfl rfl rfl rfl rfl rfl rfl ?_
                refine Ow_passU rfl rfl rfl rfl rfl ?_
                refine Ow_passU rfl rfl rfl rfl rfl ?_
                refine Ow_pass rfl rfl rfl rfl rfl rfl rfl ?_
                refine Ow_q rfl rfl rfl (Qt_pick_f rfl rfl) ?_
                refine Ow_nil ?_
                refine Cw_cond_f rfl ?_
                refine Cw_skip ?_
                refine Cw_seq ?_
                refine Cw_region ?_
                refine Ow_q rfl rfl rfl (Qt_move rfl) ?_
                have hm287 : (0 : Int) < 5 ∧ (5 : Int) ≤ 9223372036854775807 := (by first | omega | (simp only [List.length_append, List.length_cons, List.length_nil, List.length_replicate, List.length_set]; omega) | (simp; omega))
                have he288 := Int.emod_nonneg until_ (show (5 : Int) ≠ 0 by omega)
                have he289 := Int.emod_lt_of_pos until_ (show (0 : Int) < 5 by omega)
                refine Ow_cons rfl (OpW_callP (v0 := (.int .i64 (until_ % 5))) rfl Try.call23 rfl rfl (c_mod until_ 5 hm287 _ _ trivial) ?_)
                refine Ow_q rfl rfl rfl (Qt_arith (e := 1 + (until_ % 5)) rfl rfl rfl (IntWalk.i64_in _ (by omega))) ?_
                refine Ow_q rfl rfl rfl (Qt_fieldAddr (m := 1) rfl rfl rfl rfl rfl) ?_
                refine Ow_cons rfl (OpW_store (vs := [(.int .i64 (1 + (until_ % 5)))]) (all' := [(.int .i64 4), (.int .i64 (1 + (until_ % 5))), (.int .u64 old), (.int .u64 0), (.int .i64 x151)]) rfl rfl rfl rfl rfl (.there (.there .here)) rfl rfl rfl ?_)
                refine Ow_nil ?_
                refine Cw_seq ?_
                refine Cw_region ?_
                refine Ow_q rfl rfl rfl (Qt_loadA (m := 3) (cs := Mem.cells (Mem.mk (SI.mk (some a134) 1 [word]) (SS.mk none 0 []) (tick % 1000))) rfl rfl rfl rfl ⟨rfl, Rdc.blk (.tail _ (.tail _ (.tail _ (.head _)))) rfl⟩) ?_
                refine Ow_q rfl rfl rfl (Qt_loadA (m := 5) (cs := Access.cells (Access.mk 4 (1 + (until_ % 5)) old 0 x151)) rfl rfl rfl rfl ⟨rfl, Rdc.blk (.tail _ (.tail _ (.head _))) rfl⟩) ?_
                refine Ow_cons rfl (OpW_call rfl Try.call34 rfl rfl (c_apply (Mem.mk (SI.mk (some a134) 1 [word]) (SS.mk none 0 []) (tick % 1000)) (Access.mk 4 (1 + (until_ % 5)) old 0 x151) _ _ ⟨hs259, (Sl.nil _ _), SlAll.nil, (by first | omega | (simp only [List.length_append, List.length_cons, List.length_nil, List.length_replicate, List.length_set]; omega) | (simp; omega)), (by first | omega | (simp only [List.length_append, List.length_cons, List.length_nil, List.length_replicate, List.length_set]; omega) | (simp; omega))⟩) ?_)
                rintro _ K292 _ hK293 ⟨m290, b291, rfl, rfl, hm294, hb295, he296⟩
                have he2961 : m290.abs = (applyS (Mem.mk (SI.mk (some a134) 1 [word]) (SS.mk none 0 []) (tick % 1000)).abs (Access.mk 4 (1 + (until_ % 5)) old 0 x151)).1 := by rw [← he296]
                have he2962 : b291.abs = (applyS (Mem.mk (SI.mk (some a134) 1 [word]) (SS.mk none 0 []) (tick % 1000)).abs (Access.mk 4 (1 + (until_ % 5)) old 0 x151)).2 := by rw [← he296]
                have hs297 := hs258.mono hK293
                have hs298 := hs259.mono hK293
                have hs299 := hb256.mono hK293
                have hs300 := hm255.mono hK293
                have hm294w := Sl.le hm294.w
                have hm294l := Sl.le hm294.l
                have hm294zw := hm294.zw
                have hm294zl := hm294.zl
                refine Ow_q rfl rfl rfl (Qt_move rfl) ?_
                refine Ow_q rfl rfl rfl (Qt_extract rfl rfl) ?_
                refine Ow_q rfl rfl rfl (Qt_extract rfl rfl) ?_
                refine Ow_q rfl rfl rfl (Qt_extract rfl rfl) ?_
                refine Ow_cons rfl (OpW_alloc (cs := [(.slice none 0 0), (.slice none 0 0), (.int .i64 0)]) rfl rfl rfl rfl (fun b301 => ?_))
                refine Ow_cons rfl (OpW_alloc (cs := [(.int .u64 0), (.bool false), (.bool false), (.slice none 0 0)]) rfl rfl rfl rfl (fun b302 => ?_))
                refine Ow_cons rfl (OpW_store (vs := [(.slice m290.words.A m290.words.l.length m290.words.cp), (.slice m290.lists.A m290.lists.l.length m290.lists.cp), (.int .i64 m290.tick)]) (all' := [(.slice m290.words.A m290.words.l.length m290.words.cp), (.slice m290.lists.A m290.lists.l.length m290.lists.cp), (.int .i64 m290.tick)]) rfl rfl rfl rfl rfl (.there .here) rfl rfl rfl ?_)
                refine Ow_cons rfl (OpW_store (vs := [(.int .u64 b291.value), (.bool b291.ok), (.bool b291.late), (.slice b291.list.A b291.list.l.length b291.list.cp)]) (all' := [(.int .u64 b291.value), (.bool b291.ok), (.bool b291.late), (.slice b291.list.A b291.list.l.length b291.list.cp)]) rfl rfl rfl rfl rfl .here rfl rfl rfl ?_)
                refine Ow_q rfl rfl rfl (Qt_assign rfl) ?_
                refine Ow_nil ?_
                refine Cw_seq ?_
                refine Cw_region ?_
                refine Ow_q rfl rfl rfl (Qt_move rfl) ?_
                refine Ow_q rfl rfl rfl (Qt_not rfl) ?_
                refine Ow_q rfl rfl rfl (Qt_move rfl) ?_
                refine Ow_caseG rfl rfl rfl ?_ ?_
                · intro h303
                  have h303 := nt_t (h303)
                  refine Ow_pass rfl rfl rfl rfl rfl rfl rfl ?_
                  refine Ow_pass rfl rfl rfl rfl rfl rfl rfl ?_
                  refine Ow_pass rfl rfl rfl rfl rfl rfl rfl ?_
                  refine Ow_pass rfl rfl rfl rfl rfl rfl rfl ?_
                  refine Ow_q rfl rfl rfl (Qt_pick_t rfl rfl) ?_
                  refine Ow_nil ?_
                  refine Cw_cond_t rfl ?_
                  refine Cw_seq ?_
                  refine Cw_region ?_
                  refine Ow_q rfl rfl rfl (Qt_assign rfl) ?_
                  refine Ow_nil ?_
                  refine Cw_ret ?_
                  refine ⟨(by first | exact .inl rfl | exact .inr rfl), [(.bool false)], G, ⟨(.bool false), _, rfl, rfl, rfl⟩, .cons _ (.cons _ (.cons _ (.cons _ (.cons _ (.cons _ (.refl _)))))), ?_⟩
                  exfalso
                  first | omega | (simp_all [Answer.abs, An.mk.injEq, an0, dcd_eq]; done) | (simp_all [Answer.abs, An.mk.injEq, an0, dcd_eq]; omega)
                · intro h303
                  have h303 := nt_f (h303)
                  refine Ow_qw rfl rfl rfl rfl rfl rfl (Qt_loadA (m := 4) (cs := Answer.cells b291) rfl rfl rfl rfl ⟨rfl, Rdc.blk (.head _) rfl⟩) ?_
                  refine Ow_qw rfl rfl rfl rfl rfl rfl (Qt_build (cs := Answer.cells (Answer.mk 0 false false (SI.mk none 0 []))) rfl rfl rfl rfl rfl rfl) ?_
                  refine Ow_want rfl rfl rfl rfl (OpW_callP (v0 := (.bool (decide (b291.abs = (Answer.mk 0 false false (SI.mk none 0 [])).abs)))) rfl Try.call39 rfl rfl (c_sameAns b291 (Answer.mk 0 false false (SI.mk none 0 [])) _ _ hb295 ⟨(Sl.nil _ _)⟩) ?_)
                  refine Ow_qw rfl rfl rfl rfl rfl rfl (Qt_not rfl) ?_
                  refine Ow_q rfl rfl rfl (Qt_pick_f rfl rfl) ?_
                  refine Ow_nil ?_
                  refine Cw_cond rfl ?_ ?_
                  · intro h304
                    have h304 := nt_t (h304)
                    refine Cw_seq ?_
                    refine Cw_region ?_
                    refine Ow_q rfl rfl rfl (Qt_assign rfl) ?_
                    refine Ow_nil ?_
                    refine Cw_ret ?_
                    refine ⟨(by first | exact .inl rfl | exact .inr rfl), [(.bool false)], G, ⟨(.bool false), _, rfl, rfl, rfl⟩, .cons _ (.cons _ (.cons _ (.cons _ (.cons _ (.cons _ (.refl _)))))), ?_⟩
                    exfalso
                    first | omega | (simp_all [Answer.abs, An.mk.injEq, an0, dcd_eq]; done) | (simp_all [Answer.abs, An.mk.injEq, an0, dcd_eq]; omega)
                  · intro h304
                    have h304 := nt_f (h304)
                    refine Cw_skip ?_
                    refine Cw_region ?_
                    refine Ow_q rfl rfl rfl (Qt_arith (e := (((i : Nat) : Int) + 1)) rfl rfl rfl (wrap_eq (by omega) (by omega))) ?_
                    refine Ow_q rfl rfl rfl (Qt_move rfl) ?_
                    refine Ow_nil ?_
                    refine ⟨_, [(0, (.int .u64 word)), (1, (.int .u64 old)), (2, (.int .i64 (tick % 1000))), (3, (.int .i64 until_)), (11, (.pointer (some ((⟨b135, 0, none⟩ : Addr).add 0)))), (38, (.slice (some a136) 5 5)), (39, (.int .i64 5)), (40, (.int .i64 (((i + 1) : Nat) : Int)))], .blk b135 49 [(.slice (some a134) 1 1), (.slice none 0 0), (.int .i64 (tick % 1000))] :: G, ⟨rfl, rfl, rfl, rfl, rfl, rfl, rfl, rfl, trivial⟩, (.cons _ (.cons _ (.cons _ (.cons _ (.cons _ (.cons_cons _ (.refl _))))))), (by first | omega | (simp only [List.length_append, List.length_cons, List.length_nil]; omega)), (i + 1), rfl, rfl, rfl, (by first | omega | (simp only [List.length_append, List.length_cons, List.length_nil, List.length_replicate, List.length_set]; omega) | (simp; omega))⟩
        · intro h262
          have h262 := dcd_t (nt_f (h262))
          refine Ow_qw rfl rfl rfl rfl rfl rfl (Qt_move rfl) ?_
          refine Ow_q rfl rfl rfl (Qt_pick_f rfl rfl) ?_
          refine Ow_q rfl rfl rfl (Qt_neB rfl rfl rfl) ?_
          refine Ow_q rfl rfl rfl (Qt_move rfl) ?_
          refine Ow_caseG rfl rfl rfl ?_ ?_
          · intro h305
            have h305 := nt_t (h305)
            refine Ow_pass rfl rfl rfl rfl rfl rfl rfl ?_
            refine Ow_pass rfl rfl rfl rfl rfl rfl rfl ?_
            refine Ow_pass rfl rfl rfl rfl rfl rfl rfl ?_
            refine Ow_pass rfl rfl rfl rfl rfl rfl rfl ?_
            refine Ow_pass rfl rfl rfl rfl rfl rfl rfl ?_
            refine Ow_q rfl rfl rfl (Qt_pick_t rfl rfl) ?_
            refine Ow_q rfl rfl rfl (Qt_move rfl) ?_
            refine Ow_pass rfl rfl rfl rfl rfl rfl rfl ?_
            refine Ow_pass rfl rfl rfl rfl rfl rfl rfl ?_
            refine Ow_pass rfl rfl rfl rfl rfl rfl rfl ?_
            refine Ow_pass rfl rfl rfl rfl rfl rfl rfl ?_
            refine Ow_q rfl rfl rfl (Qt_pick_t rfl rfl) ?_
            refine Ow_nil ?_
            refine Cw_cond_t rfl ?_
            refine Cw_seq ?_
            refine Cw_region ?_
            refine Ow_q rfl rfl rfl (Qt_assign rfl) ?_
            refine Ow_nil ?_
            refine Cw_ret ?_
            refine ⟨(by first | exact .inl rfl | exact .inr rfl), [(.bool false)], G, ⟨(.bool false), _, rfl, rfl, rfl⟩, .cons _ (.cons _ (.cons _ (.cons _ (.refl _)))), ?_⟩
            exfalso
            first | omega | (simp_all [Answer.abs, An.mk.injEq, an0, dcd_eq]; done) | (simp_all [Answer.abs, An.mk.injEq, an0, dcd_eq]; omega)
          · intro h305
            have h305 := nt_f (h305)
            refine Ow_qw rfl rfl rfl rfl rfl rfl (Qt_loadA (m := 3) (cs := Mem.cells (Mem.mk (SI.mk (some a134) 1 [word]) (SS.mk none 0 []) (tick % 1000))) rfl rfl rfl rfl ⟨rfl, Rdc.blk (.tail _ (.tail _ (.tail _ (.head _)))) rfl⟩) ?_
            refine Ow_qw rfl rfl rfl rfl rfl rfl (Qt_loadA (m := 5) (cs := Access.cells (Access.mk 4 0 old 0 x151)) rfl rfl rfl rfl ⟨rfl, Rdc.blk (.tail _ (.tail _ (.head _))) rfl⟩) ?_
            refine Ow_want rfl rfl rfl rfl (OpW_callP (v0 := (.bool (grantedS (Mem.mk (SI.mk (some a134) 1 [word]) (SS.mk none 0 []) (tick % 1000)).abs (Access.mk 4 0 old 0 x151)))) rfl Try.call36 rfl rfl (c_granted (Mem.mk (SI.mk (some a134) 1 [word]) (SS.mk none 0 []) (tick % 1000)) (Access.mk 4 0 old 0 x151) _ _ ⟨hs259, (Sl.nil _ _), SlAll.nil, (by first | omega | (simp only [List.length_append, List.length_cons, List.length_nil, List.length_replicate, List.length_set]; omega) | (simp; omega)), (by first | omega | (simp only [List.length_append, List.length_cons, List.length_nil, List.length_replicate, List.length_set]; omega) | (simp; omega))⟩) ?_)
            refine Ow_qw rfl rfl rfl rfl rfl rfl (Qt_move rfl) ?_
            refine Ow_qw rfl rfl rfl rfl rfl rfl (Qt_neB rfl rfl rfl) ?_
            refine Ow_q rfl rfl rfl (Qt_pick_f rfl rfl) ?_
            refine Ow_q rfl rfl rfl (Qt_move rfl) ?_
            refine Ow.known (d := 77) rfl (nt_mf (beq_self_eq_true _)) ?_
            refine Ow_qw rfl rfl rfl rfl rfl rfl (Qt_loadA (m := 3) (cs := Mem.cells m251) rfl rfl rfl rfl ⟨rfl, Rdc.blk (.tail _ (.head _)) rfl⟩) ?_
            refine Ow_qw rfl rfl rfl rfl rfl rfl (Qt_loadA (m := 3) (cs := Mem.cells (Mem.mk (SI.mk (some a134) 1 [word]) (SS.mk none 0 []) (tick % 1000))) rfl rfl rfl rfl ⟨rfl, Rdc.blk (.tail _ (.tail _ (.tail _ (.head _)))) rfl⟩) ?_
            refine Ow_want rfl rfl rfl rfl (OpW_callP (v0 := (.bool (decide (m251.abs = (Mem.mk (SI.mk (some a134) 1 [word]) (SS.mk none 0 []) (tick % 1000)).abs)))) rfl Try.call38 rfl rfl (c_sameMem m251 (Mem.mk (SI.mk (some a134) 1 [word]) (SS.mk none 0 []) (tick % 1000)) _ _ hm255 ⟨hs259, (Sl.nil _ _), SlAll.nil, (by first | omega | (simp only [List.length_append, List.length_cons, List.length_nil, List.length_replicate, List.length_set]; omega) | (simp; omega)), (by first | omega | (simp only [List.length_append, List.length_cons, List.length_nil, List.length_replicate, List.length_set]; omega) | (simp; omega))⟩) ?_)
            refine Ow_qw rfl rfl rfl rfl rfl rfl (Qt_not rfl) ?_
            refine Ow_q rfl rfl rfl (Qt_pick_f rfl rfl) ?_
            refine Ow_nil ?_
            refine Cw_cond rfl ?_ ?_
            · intro h306
              have h306 := nt_t (h306)
              refine Cw_seq ?_
              refine Cw_region ?_
              refine Ow_q rfl rfl rfl (Qt_assign rfl) ?_
              refine Ow_nil ?_
              refine Cw_ret ?_
              refine ⟨(by first | exact .inl rfl | exact .inr rfl), [(.bool false)], G, ⟨(.bool false), _, rfl, rfl, rfl⟩, .cons _ (.cons _ (.cons _ (.cons _ (.refl _)))), ?_⟩
              exfalso
              first | omega | (simp_all [Answer.abs, An.mk.injEq, an0, dcd_eq]; done) | (simp_all [Answer.abs, An.mk.injEq, an0, dcd_eq]; omega)
            · intro h306
              have h306 := nt_f (h306)
              refine Cw_skip ?_
              refine Cw_seq ?_
              refine Cw_seq ?_
              refine Cw_region ?_
              refine Ow_q rfl rfl rfl (Qt_move rfl) ?_
              refine Ow_q rfl rfl rfl (Qt_move rfl) ?_
              refine Ow_caseG rfl rfl rfl ?_ ?_
              · intro h307
                refine Ow_qw rfl rfl rfl rfl rfl rfl (Qt_fieldAddr (m := 0) rfl rfl rfl rfl rfl) ?_
                refine Ow_qw rfl rfl rfl rfl rfl rfl (Qt_load1 (v := (.int .u64 b252.value)) rfl rfl rfl (Rdc.blk (.head _) rfl)) ?_
                refine Ow_qw rfl rfl rfl rfl rfl rfl (Qt_move rfl) ?_
                refine Ow_qw rfl rfl rfl rfl rfl rfl (Qt_cmp rfl rfl rfl) ?_
                refine Ow_qw rfl rfl rfl rfl rfl rfl (Qt_move rfl) ?_
                refine Ow_caseG rfl rfl rfl ?_ ?_
                · intro h308
                  have h308 := dcd_f (nt_t (h308))
                  refine Ow_pass rfl rfl rfl rfl rfl rfl rfl ?_
                  refine Ow_pass rfl rfl rfl rfl rfl rfl rfl ?_
                  refine Ow_pass rfl rfl rfl rfl rfl rfl rfl ?_
                  refine Ow_pass rfl rfl rfl rfl rfl rfl rfl ?_
                  refine Ow_pass rfl rfl rfl rfl rfl rfl rfl ?_
                  refine Ow_pass rfl rfl rfl rfl rfl rfl rfl ?_
                  refine Ow_qw rfl rfl rfl rfl rfl rfl (Qt_pick_t rfl rfl) ?_
                  refine Ow_qw rfl rfl rfl rfl rfl rfl (Qt_move rfl) ?_
                  refine Ow_pass rfl rfl rfl rfl rfl rfl rfl ?_
                  refine Ow_pass rfl rfl rfl rfl rfl rfl rfl ?_
                  refine Ow_qw rfl rfl rfl rfl rfl rfl (Qt_pick_t rfl rfl) ?_
                  refine Ow_q rfl rfl rfl (Qt_pick_t rfl rfl) ?_
                  refine Ow_nil ?_
                  refine Cw_cond_t rfl ?_
                  refine Cw_seq ?_
                  refine Cw_region ?_
                  refine Ow_q rfl rfl rfl (Qt_assign rfl) ?_
                  refine Ow_nil ?_
                  refine Cw_ret ?_
                  refine ⟨(by first | exact .inl rfl | exact .inr rfl), [(.bool false)], G, ⟨(.bool false), _, rfl, rfl, rfl⟩, .cons _ (.cons _ (.cons _ (.cons _ (.refl _)))), ?_⟩
                  exfalso
                  first | omega | (simp_all [Answer.abs, An.mk.injEq, an0, dcd_eq]; done) | (simp_all [Answer.abs, An.mk.injEq, an0, dcd_eq]; omega)
                · intro h308
                  have h308 := dcd_t (nt_f (h308))
                  refine Ow_qw rfl rfl rfl rfl rfl rfl (Qt_fieldAddr (m := 2) rfl rfl rfl rfl rfl) ?_
                  refine Ow_qw rfl rfl rfl rfl rfl rfl (Qt_load1 (v := (.bool b252.late)) rfl rfl rfl (Rdc.blk (.head _) rfl)) ?_
                  refine Ow_qw rfl rfl rfl rfl rfl rfl (Qt_move rfl) ?_
                  refine Ow_qw rfl rfl rfl rfl rfl rfl (Qt_move rfl) ?_
                  refine Ow_qw rfl rfl rfl rfl rfl rfl (Qt_cmp rfl rfl rfl) ?_
                  refine Ow_qw rfl rfl rfl rfl rfl rfl (Qt_neB rfl rfl rfl) ?_
                  refine Ow_qw rfl rfl rfl rfl rfl rfl (Qt_pick_f rfl rfl) ?_
                  refine Ow_qw rfl rfl rfl rfl rfl rfl (Qt_move rfl) ?_
                  refine Ow_caseG rfl rfl rfl ?_ ?_
                  · intro h309
                    have h309 := nt_t (h309)
                    refine Ow_pass rfl rfl rfl rfl rfl rfl rfl ?_
                    refine Ow_pass rfl rfl rfl rfl rfl rfl rfl ?_
                    refine Ow_qw rfl rfl rfl rfl rfl rfl (Qt_pick_t rfl rfl) ?_
                    refine Ow_q rfl rfl rfl (Qt_pick_t rfl rfl) ?_
                    refine Ow_nil ?_
                    refine Cw_cond_t rfl ?_
                    refine Cw_seq ?_
                    refine Cw_region ?_
                    refine Ow_q rfl rfl rfl (Qt_assign rfl) ?_
                    refine Ow_nil ?_
                    refine Cw_ret ?_
                    refine ⟨(by first | exact .inl rfl | exact .inr rfl), [(.bool false)], G, ⟨(.bool false), _, rfl, rfl, rfl⟩, .cons _ (.cons _ (.cons _ (.cons _ (.refl _)))), ?_⟩
                    exfalso
                    first | omega | (simp_all [Answer.abs, An.mk.injEq, an0, dcd_eq]; done) | (simp_all [Answer.abs, An.mk.injEq, an0, dcd_eq]; omega)
                  · intro h309
                    have h309 := nt_f (h309)
                    refine Ow_qw rfl rfl rfl rfl rfl rfl (Qt_fieldAddr (m := 1) rfl rfl rfl rfl rfl) ?_
                    refine Ow_qw rfl rfl rfl rfl rfl rfl (Qt_load1 (v := (.bool b252.ok)) rfl rfl rfl (Rdc.blk (.head _) rfl)) ?_
                    refine Ow_qw rfl rfl rfl rfl rfl rfl (Qt_pick_f rfl rfl) ?_
                    refine Ow_q rfl rfl rfl (Qt_pick_t rfl rfl) ?_
                    refine Ow_nil ?_
                    refine Cw_cond rfl ?_ ?_
                    · intro h310
                      refine Cw_seq ?_
                      refine Cw_region ?_
                      refine Ow_q rfl rfl rfl (Qt_assign rfl) ?_
                      refine Ow_nil ?_
                      refine Cw_ret ?_
                      refine ⟨(by first | exact .inl rfl | exact .inr rfl), [(.bool false)], G, ⟨(.bool false), _, rfl, rfl, rfl⟩, .cons _ (.cons _ (.cons _ (.cons _ (.refl _)))), ?_⟩
                      exfalso
                      first | omega | (simp_all [Answer.abs, An.mk.injEq, an0, dcd_eq]; done) | (simp_all [Answer.abs, An.mk.injEq, an0, dcd_eq]; omega)
                    · intro h310
                      refine Cw_skip ?_
                      refine Cw_seq ?_
                      refine Cw_region ?_
                      refine Ow_q rfl rfl rfl (Qt_move rfl) ?_
                      have hm311 : (0 : Int) < 5 ∧ (5 : Int) ≤ 9223372036854775807 := (by first | omega | (simp only [List.length_append, List.length_cons, List.length_nil, List.length_replicate, List.length_set]; omega) | (simp; omega))
                      have he312 := Int.emod_nonneg until_ (show (5 : Int) ≠ 0 by omega)
                      have he313 := Int.emod_lt_of_pos until_ (show (0 : Int) < 5 by omega)
                      refine Ow_cons rfl (OpW_callP (v0 := (.int .i64 (until_ % 5))) rfl Try.call23 rfl rfl (c_mod until_ 5 hm311 _ _ trivial) ?_)
                      refine Ow_q rfl rfl rfl (Qt_arith (e := 1 + (until_ % 5)) rfl rfl rfl (IntWalk.i64_in _ (by omega))) ?_
                      refine Ow_q rfl rfl rfl (Qt_fieldAddr (m := 1) rfl rfl rfl rfl rfl) ?_
                      refine Ow_cons rfl (OpW_store (vs := [(.int .i64 (1 + (until_ % 5)))]) (all' := [(.int .i64 4), (.int .i64 (1 + (until_ % 5))), (.int .u64 old), (.int .u64 0), (.int .i64 x151)]) rfl rfl rfl rfl rfl (.there (.there .here)) rfl rfl rfl ?_)
                      refine Ow_nil ?_
                      refine Cw_seq ?_
                      refine Cw_region ?_
                      refine Ow_q rfl rfl rfl (Qt_loadA (m := 3) (cs := Mem.cells (Mem.mk (SI.mk (some a134) 1 [word]) (SS.mk none 0 []) (tick % 1000))) rfl rfl rfl rfl ⟨rfl, Rdc.blk (.tail _ (.tail _ (.tail _ (.head _)))) rfl⟩) ?_
                      refine Ow_q rfl rfl rfl (Qt_loadA (m := 5) (cs := Access.cells (Access.mk 4 (1 + (until_ % 5)) old 0 x151)) rfl rfl rfl rfl ⟨rfl, Rdc.blk (.tail _ (.tail _ (.head _))) rfl⟩) ?_
                      refine Ow_cons rfl (OpW_call rfl Try.call34 rfl rfl (c_apply (Mem.mk (SI.mk (some a134) 1 [word]) (SS.mk none 0 []) (tick % 1000)) (Access.mk 4 (1 + (until_ % 5)) old 0 x151) _ _ ⟨hs259, (Sl.nil _ _), SlAll.nil, (by first | omega | (simp only [List.length_append, List.length_cons, List.length_nil, List.length_replicate, List.length_set]; omega) | (simp; omega)), (by first | omega | (simp only [List.length_append, List.length_cons, List.length_nil, List.length_replicate, List.length_set]; omega) | (simp; omega))⟩) ?_)
                      rintro _ K316 _ hK317 ⟨m314, b315, rfl, rfl, hm318, hb319, he320⟩
                      have he3201 : m314.abs = (applyS (Mem.mk (SI.mk (some a134) 1 [word]) (SS.mk none 0 []) (tick % 1000)).abs (Access.mk 4 (1 + (until_ % 5)) old 0 x151)).1 := by rw [← he320]
                      have he3202 : b315.abs = (applyS (Mem.mk (SI.mk (some a134) 1 [word]) (SS.mk none 0 []) (tick % 1000)).abs (Access.mk 4 (1 + (until_ % 5)) old 0 x151)).2 := by rw [← he320]
                      have hs321 := hs258.mono hK317
                      have hs322 := hs259.mono hK317
                      have hs323 := hb256.mono hK317
                      have hs324 := hm255.mono hK317
                      have hm318w := Sl.le hm318.w
                      have hm318l := Sl.le hm318.l
                      have hm318zw := hm318.zw
                      have hm318zl := hm318.zl
                      refine Ow_q rfl rfl rfl (Qt_move rfl) ?_
                      refine Ow_q rfl rfl rfl (Qt_extract rfl rfl) ?_
                      refine Ow_q rfl rfl rfl (Qt_extract rfl rfl) ?_
                      refine Ow_q rfl rfl rfl (Qt_extract rfl rfl) ?_
                      refine Ow_cons rfl (OpW_alloc (cs := [(.slice none 0 0), (.slice none 0 0), (.int .i64 0)]) rfl rfl rfl rfl (fun b325 => ?_))
                      refine Ow_cons rfl (OpW_alloc (cs := [(.int .u64 0), (.bool false), (.bool false), (.slice none 0 0)]) rfl rfl rfl rfl (fun b326 => ?_))
                      refine Ow_cons rfl (OpW_store (vs := [(.slice m314.words.A m314.words.l.length m314.words.cp), (.slice m314.lists.A m314.lists.l.length m314.lists.cp), (.int .i64 m314.tick)]) (all' := [(.slice m314.words.A m314.words.l.length m314.words.cp), (.slice m314.lists.A m314.lists.l.length m314.lists.cp), (.int .i64 m314.tick)]) rfl rfl rfl rfl rfl (.there .here) rfl rfl rfl ?_)
                      refine Ow_cons rfl (OpW_store (vs := [(.int .u64 b315.value), (.bool b315.ok), (.bool b315.late), (.slice b315.list.A b315.list.l.length b315.list.cp)]) (all' := [(.int .u64 b315.value), (.bool b315.ok), (.bool b315.late), (.slice b315.list.A b315.list.l.length b315.list.cp)]) rfl rfl rfl rfl rfl .here rfl rfl rfl ?_)
                      refine Ow_q rfl rfl rfl (Qt_assign rfl) ?_
                      refine Ow_nil ?_
                      refine Cw_seq ?_
                      refine Cw_region ?_
                      refine Ow_q rfl rfl rfl (Qt_move rfl) ?_
                      refine Ow_q rfl rfl rfl (Qt_not rfl) ?_
                      refine Ow_q rfl rfl rfl (Qt_move rfl) ?_
                      refine Ow_caseG rfl rfl rfl ?_ ?_
                      · intro h327
                        have h327 := nt_t (h327)
                        refine Ow_pass rfl rfl rfl rfl rfl rfl rfl ?_
                        refine Ow_pass rfl rfl rfl rfl rfl rfl rfl ?_
                        refine Ow_pass rfl rfl rfl rfl rfl rfl rfl ?_
                        refine Ow_pass rfl rfl rfl rfl rfl rfl rfl ?_
                        refine Ow_q rfl rfl rfl (Qt_pick_t rfl rfl) ?_
                        refine Ow_nil ?_
                        refine Cw_cond_t rfl ?_
                        refine Cw_seq ?_
                        refine Cw_region ?_
                        refine Ow_q rfl rfl rfl (Qt_assign rfl) ?_
                        refine Ow_nil ?_
                        refine Cw_ret ?_
                        refine ⟨(by first | exact .inl rfl | exact .inr rfl), [(.bool false)], G, ⟨(.bool false), _, rfl, rfl, rfl⟩, .cons _ (.cons _ (.cons _ (.cons _ (.cons _ (.cons _ (.refl _)))))), ?_⟩
                        exfalso
                        first | omega | (simp_all [Answer.abs, An.mk.injEq, an0, dcd_eq]; done) | (simp_all [Answer.abs, An.mk.injEq, an0, dcd_eq]; omega)
                      · intro h327
                        have h327 := nt_f (h327)
                        refine Ow_qw rfl rfl rfl rfl rfl rfl (Qt_loadA (m := 4) (cs := Answer.cells b315) rfl rfl rfl rfl ⟨rfl, Rdc.blk (.head _) rfl⟩) ?_
                        refine Ow_qw rfl rfl rfl rfl rfl rfl (Qt_build (cs := Answer.cells (Answer.mk 0 false false (SI.mk none 0 []))) rfl rfl rfl rfl rfl rfl) ?_
                        refine Ow_want rfl rfl rfl rfl (OpW_callP (v0 := (.bool (decide (b315.abs = (Answer.mk 0 false false (SI.mk none 0 [])).abs)))) rfl Try.call39 rfl rfl (c_sameAns b315 (Answer.mk 0 false false (SI.mk none 0 [])) _ _ hb319 ⟨(Sl.nil _ _)⟩) ?_)
                        refine Ow_qw rfl rfl rfl rfl rfl rfl (Qt_not rfl) ?_
                        refine Ow_q rfl rfl rfl (Qt_pick_f rfl rfl) ?_
                        refine Ow_nil ?_
                        refine Cw_cond rfl ?_ ?_
                        · intro h328
                          have h328 := nt_t (h328)
                          refine Cw_seq ?_
                          refine Cw_region ?_
                          refine Ow_q rfl rfl rfl (Qt_assign rfl) ?_
                          refine Ow_nil ?_
                          refine Cw_ret ?_
                          refine ⟨(by first | exact .inl rfl | exact .inr rfl), [(.bool false)], G, ⟨(.bool false), _, rfl, rfl, rfl⟩, .cons _ (.cons _ (.cons _ (.cons _ (.cons _ (.cons _ (.refl _)))))), ?_⟩
                          exfalso
                          first | omega | (simp_all [Answer.abs, An.mk.injEq, an0, dcd_eq]; done) | (simp_all [Answer.abs, An.mk.injEq, an0, dcd_eq]; omega)
                        · intro h328
                          have h328 := nt_f (h328)
                          refine Cw_skip ?_
                          refine Cw_region ?_
                          refine Ow_q rfl rfl rfl (Qt_arith (e := (((i : Nat) : Int) + 1)) rfl rfl rfl (wrap_eq (by omega) (by omega))) ?_
                          refine Ow_q rfl rfl rfl (Qt_move rfl) ?_
                          refine Ow_nil ?_
                          refine ⟨_, [(0, (.int .u64 word)), (1, (.int .u64 old)), (2, (.int .i64 (tick % 1000))), (3, (.int .i64 until_)), (11, (.pointer (some ((⟨b135, 0, none⟩ : Addr).add 0)))), (38, (.slice (some a136) 5 5)), (39, (.int .i64 5)), (40, (.int .i64 (((i + 1) : Nat) : Int)))], .blk b135 49 [(.slice (some a134) 1 1), (.slice none 0 0), (.int .i64 (tick % 1000))] :: G, ⟨rfl, rfl, rfl, rfl, rfl, rfl, rfl, rfl, trivial⟩, (.cons _ (.cons _ (.cons _ (.cons _ (.cons _ (.cons_cons _ (.refl _))))))), (by first | omega | (simp only [List.length_append, List.length_cons, List.length_nil]; omega)), (i + 1), rfl, rfl, rfl, (by first | omega | (simp only [List.length_append, List.length_cons, List.length_nil, List.length_replicate, List.length_set]; omega) | (simp; omega))⟩
              · intro h307
                refine Ow_pass rfl rfl rfl rfl rfl rfl rfl ?_
                refine Ow_pass rfl rfl rfl rfl rfl rfl rfl ?_
                refine Ow_pass rfl rfl rfl rfl rfl rfl rfl ?_
                refine Ow_pass rfl rfl rfl rfl rfl rfl rfl ?_
                refine Ow_pass rfl rfl rfl rfl rfl rfl rfl ?_
                refine Ow_passU rfl rfl rfl rfl rfl ?_
                refine Ow_passU rfl rfl rfl rfl rfl ?_
                refine Ow_passU rfl rfl rfl rfl rfl ?_
                refine Ow_passU rfl rfl rfl rfl rfl ?_
                refine Ow_passU rfl rfl rfl rfl rfl ?_
                refine Ow_passU rfl rfl rfl rfl rfl ?_
                refine Ow_pass rfl rfl rfl rfl rfl rfl rfl ?_
                refine Ow_pass rfl rfl rfl rfl rfl rfl rfl ?_
                refine Ow_passU rfl rfl rfl rfl rfl ?_
                refine Ow_passU rfl rfl rfl rfl rfl ?_
                refine Ow_pass rfl rfl rfl rfl rfl rfl rfl ?_
                refine Ow_q rfl rfl rfl (Qt_pick_f rfl rfl) ?_
                refine Ow_nil ?_
                refine Cw_cond_f rfl ?_
                refine Cw_skip ?_
                refine Cw_seq ?_
                refine Cw_region ?_
                refine Ow_q rfl rfl rfl (Qt_move rfl) ?_
                have hm329 : (0 : Int) < 5 ∧ (5 : Int) ≤ 9223372036854775807 := (by first | omega | (simp only [List.length_append, List.length_cons, List.length_nil, List.length_replicate, List.length_set]; omega) | (simp; omega))
                have he330 := Int.emod_nonneg until_ (show (5 : Int) ≠ 0 by omega)
                have he331 := Int.emod_lt_of_pos until_ (show (0 : Int) < 5 by omega)
                refine Ow_cons rfl (OpW_callP (v0 := (.int .i64 (until_ % 5))) rfl Try.call23 rfl rfl (c_mod until_ 5 hm329 _ _ trivial) ?_)
                refine Ow_q rfl rfl rfl (Qt_arith (e := 1 + (until_ % 5)) rfl rfl rfl (IntWalk.i64_in _ (by omega))) ?_
                refine Ow_q rfl rfl rfl (Qt_fieldAddr (m := 1) rfl rfl rfl rfl rfl) ?_
                refine Ow_cons rfl (OpW_store (vs := [(.int .i64 (1 + (until_ % 5)))]) (all' := [(.int .i64 4), (.int .i64 (1 + (until_ % 5))), (.int .u64 old), (.int .u64 0), (.int .i64 x151)]) rfl rfl rfl rfl rfl (.there (.there .here)) rfl rfl rfl ?_)
                refine Ow_nil ?_
                refine Cw_seq ?_
                refine Cw_region ?_
                refine Ow_q rfl rfl rfl (Qt_loadA (m := 3) (cs := Mem.cells (Mem.mk (SI.mk (some a134) 1 [word]) (SS.mk none 0 []) (tick % 1000))) rfl rfl rfl rfl ⟨rfl, Rdc.blk (.tail _ (.tail _ (.tail _ (.head _)))) rfl⟩) ?_
                refine Ow_q rfl rfl rfl (Qt_loadA (m := 5) (cs := Access.cells (Access.mk 4 (1 + (until_ % 5)) old 0 x151)) rfl rfl rfl rfl ⟨rfl, Rdc.blk (.tail _ (.tail _ (.head _))) rfl⟩) ?_
                refine Ow_cons rfl (OpW_call rfl Try.call34 rfl rfl (c_apply (Mem.mk (SI.mk (some a134) 1 [word]) (SS.mk none 0 []) (tick % 1000)) (Access.mk 4 (1 + (until_ % 5)) old 0 x151) _ _ ⟨hs259, (Sl.nil _ _), SlAll.nil, (by first | omega | (simp only [List.length_append, List.length_cons, List.length_nil, List.length_replicate, List.length_set]; omega) | (simp; omega)), (by first | omega | (simp only [List.length_append, List.length_cons, List.length_nil, List.length_replicate, List.length_set]; omega) | (simp; omega))⟩) ?_)
                rintro _ K334 _ hK335 ⟨m332, b333, rfl, rfl, hm336, hb337, he338⟩
                have he3381 : m332.abs = (applyS (Mem.mk (SI.mk (some a134) 1 [word]) (SS.mk none 0 []) (tick % 1000)).abs (Access.mk 4 (1 + (until_ % 5)) old 0 x151)).1 := by rw [← he338]
                have he3382 : b333.abs = (applyS (Mem.mk (SI.mk (some a134) 1 [word]) (SS.mk none 0 []) (tick % 1000)).abs (Access.mk 4 (1 + (until_ % 5)) old 0 x151)).2 := by rw [← he338]
                have hs339 := hs258.mono hK335
                have hs340 := hs259.mono hK335
                have hs341 := hb256.mono hK335
                have hs342 := hm255.mono hK335
                have hm336w := Sl.le hm336.w
                have hm336l := Sl.le hm336.l
                have hm336zw := hm336.zw
                have hm336zl := hm336.zl
                refine Ow_q rfl rfl rfl (Qt_move rfl) ?_
                refine Ow_q rfl rfl rfl (Qt_extract rfl rfl) ?_
                refine Ow_q rfl rfl rfl (Qt_extract rfl rfl) ?_
                refine Ow_q rfl rfl rfl (Qt_extract rfl rfl) ?_
                refine Ow_cons rfl (OpW_alloc (cs := [(.slice none 0 0), (.slice none 0 0), (.int .i64 0)]) rfl rfl rfl rfl (fun b343 => ?_))
                refine Ow_cons rfl (OpW_alloc (cs := [(.int .u64 0), (.bool false), (.bool false), (.slice none 0 0)]) rfl rfl rfl rfl (fun b344 => ?_))
                refine Ow_cons rfl (OpW_store (vs := [(.slice m332.words.A m332.words.l.length m332.words.cp), (.slice m332.lists.A m332.lists.l.length m332.lists.cp), (.int .i64 m332.tick)]) (all' := [(.slice m332.words.A m332.words.l.length m332.words.cp), (.slice m332.lists.A m332.lists.l.length m332.lists.cp), (.int .i64 m332.tick)]) rfl rfl rfl rfl rfl (.there .here) rfl rfl rfl ?_)
                refine Ow_cons rfl (OpW_store (vs := [(.int .u64 b333.value), (.bool b333.ok), (.bool b333.late), (.slice b333.list.A b333.list.l.length b333.list.cp)]) (all' := [(.int .u64 b333.value), (.bool b333.ok), (.bool b333.late), (.slice b333.list.A b333.list.l.length b333.list.cp)]) rfl rfl rfl rfl rfl .here rfl rfl rfl ?_)
                refine Ow_q rfl rfl rfl (Qt_assign rfl) ?_
                refine Ow_nil ?_
                refine Cw_seq ?_
                refine Cw_region ?_
                refine Ow_q rfl rfl rfl (Qt_move rfl) ?_
                refine Ow_q rfl rfl rfl (Qt_not rfl) ?_
                refine Ow_q rfl rfl rfl (Qt_move rfl) ?_
                refine Ow_caseG rfl rfl rfl ?_ ?_
                · intro h345
                  have h345 := nt_t (h345)
                  refine Ow_pass rfl rfl rfl rfl rfl rfl rfl ?_
                  refine Ow_pass rfl rfl rfl rfl rfl rfl rfl ?_
                  refine Ow_pass rfl rfl rfl rfl rfl rfl rfl ?_
                  refine Ow_pass rfl rfl rfl rfl rfl rfl rfl ?_
                  refine Ow_q rfl rfl rfl (Qt_pick_t rfl rfl) ?_
                  refine Ow_nil ?_
                  refine Cw_cond_t rfl ?_
                  refine Cw_seq ?_
                  refine Cw_region ?_
                  refine Ow_q rfl rfl rfl (Qt_assign rfl) ?_
                  refine Ow_nil ?_
                  refine Cw_ret ?_
                  refine ⟨(by first | exact .inl rfl | exact .inr rfl), [(.bool false)], G, ⟨(.bool false), _, rfl, rfl, rfl⟩, .cons _ (.cons _ (.cons _ (.cons _ (.cons _ (.cons _ (.refl _)))))), ?_⟩
                  exfalso
                  first | omega | (simp_all [Answer.abs, An.mk.injEq, an0, dcd_eq]; done) | (simp_all [Answer.abs, An.mk.injEq, an0, dcd_eq]; omega)
                · intro h345
                  have h345 := nt_f (h345)
                  refine Ow_qw rfl rfl rfl rfl rfl rfl (Qt_loadA (m := 4) (cs := Answer.cells b333) rfl rfl rfl rfl ⟨rfl, Rdc.blk (.head _) rfl⟩) ?_
                  refine Ow_qw rfl rfl rfl rfl rfl rfl (Qt_build (cs := Answer.cells (Answer.mk 0 false false (SI.mk none 0 []))) rfl rfl rfl rfl rfl rfl) ?_
                  refine Ow_want rfl rfl rfl rfl (OpW_callP (v0 := (.bool (decide (b333.abs = (Answer.mk 0 false false (SI.mk none 0 [])).abs)))) rfl Try.call39 rfl rfl (c_sameAns b333 (Answer.mk 0 false false (SI.mk none 0 [])) _ _ hb337 ⟨(Sl.nil _ _)⟩) ?_)
                  refine Ow_qw rfl rfl rfl rfl rfl rfl (Qt_not rfl) ?_
                  refine Ow_q rfl rfl rfl (Qt_pick_f rfl rfl) ?_
                  refine Ow_nil ?_
                  refine Cw_cond rfl ?_ ?_
                  · intro h346
                    have h346 := nt_t (h346)
                    refine Cw_seq ?_
                    refine Cw_region ?_
                    refine Ow_q rfl rfl rfl (Qt_assign rfl) ?_
                    refine Ow_nil ?_
                    refine Cw_ret ?_
                    refine ⟨(by first | exact .inl rfl | exact .inr rfl), [(.bool false)], G, ⟨(.bool false), _, rfl, rfl, rfl⟩, .cons _ (.cons _ (.cons _ (.cons _ (.cons _ (.cons _ (.refl _)))))), ?_⟩
                    exfalso
                    first | omega | (simp_all [Answer.abs, An.mk.injEq, an0, dcd_eq]; done) | (simp_all [Answer.abs, An.mk.injEq, an0, dcd_eq]; omega)
                  · intro h346
                    have h346 := nt_f (h346)
                    refine Cw_skip ?_
                    refine Cw_region ?_
                    refine Ow_q rfl rfl rfl (Qt_arith (e := (((i : Nat) : Int) + 1)) rfl rfl rfl (wrap_eq (by omega) (by omega))) ?_
                    refine Ow_q rfl rfl rfl (Qt_move rfl) ?_
                    refine Ow_nil ?_
                    refine ⟨_, [(0, (.int .u64 word)), (1, (.int .u64 old)), (2, (.int .i64 (tick % 1000))), (3, (.int .i64 until_)), (11, (.pointer (some ((⟨b135, 0, none⟩ : Addr).add 0)))), (38, (.slice (some a136) 5 5)), (39, (.int .i64 5)), (40, (.int .i64 (((i + 1) : Nat) : Int)))], .blk b135 49 [(.slice (some a134) 1 1), (.slice none 0 0), (.int .i64 (tick % 1000))] :: G, ⟨rfl, rfl, rfl, rfl, rfl, rfl, rfl, rfl, trivial⟩, (.cons _ (.cons _ (.cons _ (.cons _ (.cons _ (.cons_cons _ (.refl _))))))), (by first | omega | (simp only [List.length_append, List.length_cons, List.length_nil]; omega)), (i + 1), rfl, rfl, rfl, (by first | omega | (simp only [List.length_append, List.length_cons, List.length_nil, List.length_replicate, List.length_set]; omega) | (simp; omega))⟩
    · intro h150
      have h150 := dcd_f (h150)
      refine Cw_exit ?_
      refine Cw_seq ?_
      refine Cw_region ?_
      refine Ow_q rfl rfl rfl (Qt_assign rfl) ?_
      refine Ow_nil ?_
      refine Cw_ret ?_
      refine ⟨(by first | exact .inl rfl | exact .inr rfl), [(.bool true)], G, ⟨(.bool true), _, rfl, rfl, rfl⟩, .cons _ (.refl _), ?_⟩
      rfl

end Go.Ghl
