/- Printed by program. -/
import Derived.Test.YtgkmiemclhaahaaXAM
import Derived.Test.YtgkmiemclhaahaaXAWRef4
namespace Go.Hx
open Go Go.Proofs
set_option linter.unusedSimpArgs false
set_option linter.unusedVariables false
set_option maxRecDepth 10000
set_option maxHeartbeats 1000000 in
theorem c_M_ref4_Replay (p0 : Memory) (vp0_words : SV) (vp0_lists : SV) (p1 : List Item) (vp1 : SV) (y0 : Memory) (y1 : Bool) (H : M_ref4_Replay p0 p1 = some (y0, y1)) (K : Kp) (G : List Ent) (hp0_words : Slr Ty.u64 K (sv vp0_words) p0.words) (hp0_lists : Slr (Ty.sl Ty.i64) K (sv vp0_lists) p0.lists) (hp1 : Slr TyItem K (sv vp1) p1) :
    Fc Try.prog 49 #[(.agg (Memory.cells p0 vp0_words vp0_lists).toArray), (sv vp1)] K (G) (fun v K' G' => ∃ (wy0_words : SV) (wy0_lists : SV), v = (.tuple #[(.agg (Memory.cells y0 wy0_words wy0_lists).toArray), (.bool y1)]) ∧ G = G' ∧ Slr Ty.u64 K' (sv wy0_words) y0.words ∧ Slr (Ty.sl Ty.i64) K' (sv wy0_lists) y0.lists) := by
  refine Fc_body Try.func49 rfl Try.ntmps49 Try.results49 rfl ?_
  unfold M_ref4_Replay at H
  refine Cw_seq ?_
  refine Cw_region ?_
  refine Ow_cons rfl (OpW_box (cs := (Memory.cells p0 vp0_words vp0_lists)) rfl rfl rfl (fun b273 => ?_))
  refine Ow_cons rfl (OpW_alloc (cs := (Memory.cells (Memory.mk [] [] 0) nilS nilS)) rfl rfl rfl rfl (fun b274 => ?_))
  refine Ow_q rfl rfl rfl (Qt_assign rfl) ?_
  refine Ow_nil ?_
  refine Cw_join (fun env' K' G' => ∃ (v543 : SV) (l544 : List Int) (v546 : SV) (l547 : List (List Int)) (i549 : Int), [(2, (.pointer (some ((⟨b273, 0, none⟩ : Addr).add 0)))), (4, (.pointer (some ((⟨b274, 0, none⟩ : Addr).add 0))))] = env' ∧ (.blk b274 49 (Memory.cells (Memory.mk [] [] 0) nilS nilS)) :: (.blk b273 49 (Memory.cells (Memory.mk l544 l547 i549) v543 v546)) :: G = G' ∧ M_ref4_Replay_J1 l544 l547 i549 = some (y0, y1) ∧ Slr Ty.u64 K' (sv v543) l544 ∧ Slr (Ty.sl Ty.i64) K' (sv v546) l547) ?_ ?_
  · skip
    refine Cw_seq ?_
    refine Cw_region ?_
    refine Ow_q rfl rfl rfl (Qt_assign rfl) ?_
    refine Ow_nil ?_
    refine Cw_block ?_
    refine Cw_loopM (fun n818 env' K' G' => ∃ (i810 : Int) (v811 : SV) (l812 : List Int) (v814 : SV) (l815 : List (List Int)) (i817 : Int), [(1, (sv vp1)), (2, (.pointer (some ((⟨b273, 0, none⟩ : Addr).add 0)))), (4, (.pointer (some ((⟨b274, 0, none⟩ : Addr).add 0)))), (6, (.int .i64 i810))] = env' ∧ (.blk b274 49 (Memory.cells (Memory.mk [] [] 0) nilS nilS)) :: (.blk b273 49 (Memory.cells (Memory.mk l812 l815 i817) v811 v814)) :: G = G' ∧ lp4 (M_ref4_Replay_L1 p1) n818 i810 l812 l815 i817 = some (y0, y1) ∧ Slr Ty.u64 K' (sv v811) l812 ∧ Slr (Ty.sl Ty.i64) K' (sv v814) l815) BIG ?_ ?_
    · skip
      refine Shift.pull (.there .here) ?_
      refine Shift.pull (.there .here) ?_
      refine Shift.done ?_
      exact ⟨[(1, (sv vp1)), (2, (.pointer (some ((⟨b273, 0, none⟩ : Addr).add 0)))), (4, (.pointer (some ((⟨b274, 0, none⟩ : Addr).add 0)))), (6, (.int .i64 0))], ⟨rfl, rfl, rfl, rfl, trivial⟩, 0, vp0_words, p0.words, vp0_lists, p0.lists, p0.tick, rfl, rfl, H, hp0_words, hp0_lists⟩
    rintro n818 _ K819 _ hK820 ⟨i810, v811, l812, v814, l815, i817, rfl, rfl, H, hs813, hs816⟩
    obtain ⟨m821, k822, rfl, hkk823, H⟩ := lps4 H
    unfold M_ref4_Replay_L1 at H
    refine Cw_seq ?_
    refine Cw_seq ?_
    refine Cw_region ?_
    refine Ow_q rfl rfl rfl (Qt_move rfl) ?_
    refine Ow_q rfl rfl rfl (Qt_move rfl) ?_
    have hs826 := (hp1).mono hK820
    refine Ow_q rfl rfl rfl (Q_len (T := TyItem) hs826 rfl rfl) ?_
    refine Ow_q rfl rfl rfl (Qt_cmp rfl rfl rfl) ?_
    refine Ow_nil ?_
    refine Cw_cond rfl ?_ ?_
    · intro h827
      have h827 := dcd_t (h827)
      have H := ift h827 H
      refine Cw_skip ?_
      refine Cw_seq ?_
      refine Cw_block ?_
      refine Cw_join (fun env' K' G' => ∃ (b1016 : Nat) (b1017 : Nat) (t1018 : Bool) (i1019 : Int) (t1020 : Bool) (t1021 : Bool) (v1022 : SV) (l1023 : List Int) (v1025 : SV) (l1026 : List Int) (v1028 : SV) (l1029 : List (List Int)) (i1031 : Int), [(1, (sv vp1)), (2, (.pointer (some ((⟨b273, 0, none⟩ : Addr).add 0)))), (4, (.pointer (some ((⟨b274, 0, none⟩ : Addr).add 0)))), (6, (.int .i64 i810)), (7, (.pointer (some ((⟨b1016, 0, none⟩ : Addr).add 0)))), (8, (.pointer (some ((⟨b1017, 0, none⟩ : Addr).add 0)))), (9, (.bool t1018))] = env' ∧ (.blk b1017 40 (Answer.cells (Answer.mk i1019 t1020 t1021 l1023) v1022)) :: (.blk b1016 49 (Memory.cells (Memory.mk l1026 l1029 i1031) v1025 v1028)) :: (.blk b274 49 (Memory.cells (Memory.mk [] [] 0) nilS nilS)) :: (.blk b273 49 (Memory.cells (Memory.mk l812 l815 i817) v811 v814)) :: G = G' ∧ M_ref4_Replay_J2 p1 i810 l812 l815 i817 k822 t1018 i1019 t1020 t1021 l1023 l1026 l1029 i1031 = some (y0, y1) ∧ Slr Ty.i64 K' (sv v1022) l1023 ∧ Slr Ty.u64 K' (sv v1025) l1026 ∧ Slr (Ty.sl Ty.i64) K' (sv v1028) l1029) ?_ ?_
      · skip
        obtain ⟨x1032, hx1033, H⟩ := bnd H
        obtain ⟨x1037, x1038, x1039, hx1040, H⟩ := bnd3 H
        refine Cw_region_any [.blk b274 49 (Memory.cells (Memory.mk [] [] 0) nilS nilS), .blk b273 49 (Memory.cells (Memory.mk l812 l815 i817) v811 v814)] rfl (Inc.cons (.head _) (Inc.cons (.tail _ (.head _)) Inc.nil)) ?_
        refine Aw_q 0 rfl (by kernel_rfl) (by kernel_rfl) (by kernel_rfl) rfl rfl rfl (Qt_loadA (m := 3) (cs := (Memory.cells (Memory.mk l812 l815 i817) v811 v814)) rfl rfl rfl rfl ⟨rfl, Rdc.blk (.tail _ (.head _)) rfl⟩) ?_
        refine Aw_q 1 rfl (by kernel_rfl) (by kernel_rfl) (by kernel_rfl) rfl rfl rfl (Qt_move rfl) ?_
        refine Aw_q 2 rfl (by kernel_rfl) (by kernel_rfl) (by kernel_rfl) rfl rfl rfl (Qt_move rfl) ?_
        obtain ⟨r1051, hr1052, hk1053⟩ := Slr.at hs826 hx1033
        obtain rfl := hr1052
        refine Aw_q 3 rfl (by kernel_rfl) (by kernel_rfl) (by kernel_rfl) rfl rfl rfl (Q_ix (T := TyItem) hs826 hx1033 rfl rfl rfl rfl rfl) ?_
        refine Aw_q 4 rfl (by kernel_rfl) (by kernel_rfl) (by kernel_rfl) rfl rfl rfl (Qt_fieldAddr (m := 1) rfl rfl rfl rfl rfl) ?_
        refine Aw_q 5 rfl (by kernel_rfl) (by kernel_rfl) (by kernel_rfl) rfl rfl rfl (Qt_loadA (m := 5) (cs := (Access.cells x1032.access)) rfl rfl rfl rfl ⟨rfl, Rdc.k hk1053 rfl⟩) ?_
        refine Aw_three 6 11 12 (by kernel_rfl) ?_ ?_ ?_
        · skip
          refine id (Ax_mk rfl rfl ?_)
          refine OpW_call rfl Try.call35 rfl rfl (c_M_ref4_Apply (Memory.mk l812 l815 i817) v811 v814 x1032.access x1037 x1038 x1039 hx1040 _ _ hs813 hs816) ?_
          rintro _ K1057 _ hK1058 ⟨v1054, v1055, v1056, rfl, rfl, hs1059, hs1060, hs1061⟩
          refine ⟨(Inc.cons (.head _) (Inc.cons (.tail _ (.head _)) Inc.nil)), ?_⟩
          refine Aw_q 7 rfl (by kernel_rfl) (by kernel_rfl) (by kernel_rfl) rfl rfl rfl (Qt_move rfl) ?_
          refine Aw_q 8 rfl (by kernel_rfl) (by kernel_rfl) (by kernel_rfl) rfl rfl rfl (Qt_extract rfl rfl) ?_
          refine Aw_q 9 rfl (by kernel_rfl) (by kernel_rfl) (by kernel_rfl) rfl rfl rfl (Qt_extract rfl rfl) ?_
          refine Aw_q 10 rfl (by kernel_rfl) (by kernel_rfl) (by kernel_rfl) rfl rfl rfl (Qt_extract rfl rfl) ?_
          refine Aw_two 11 12 (by kernel_rfl) ?_ ?_
          · skip
            refine id (Ax_mk rfl rfl ?_)
            refine OpW_alloc (cs := (Memory.cells (Memory.mk [] [] 0) nilS nilS)) rfl rfl rfl rfl (fun b1062 => ⟨(Inc.cons (.tail _ (.head _)) (Inc.cons (.tail _ (.tail _ (.head _))) Inc.nil)), ?_⟩)
            refine Aw_one 12 (by kernel_rfl) (Ax_mk rfl rfl ?_)
            refine OpW_alloc (cs := (Answer.cells (Answer.mk 0 false false []) nilS)) rfl rfl rfl rfl (fun b1063 => ⟨(Inc.cons (.tail _ (.tail _ (.head _))) (Inc.cons (.tail _ (.tail _ (.tail _ (.head _)))) Inc.nil)), ?_⟩)
            refine Aw_one 13 (by kernel_rfl) (Ax_mk rfl rfl ?_)
            refine OpW_store (vs := (Memory.cells x1037 v1054 v1055)) (all' := (Memory.cells x1037 v1054 v1055)) rfl rfl rfl rfl rfl (.there .here) rfl rfl rfl ⟨(Inc.cons (.tail _ (.tail _ (.head _))) (Inc.cons (.tail _ (.tail _ (.tail _ (.head _)))) Inc.nil)), ?_⟩
            refine Aw_one 14 (by kernel_rfl) (Ax_mk rfl rfl ?_)
            refine OpW_store (vs := (Answer.cells x1038 v1056)) (all' := (Answer.cells x1038 v1056)) rfl rfl rfl rfl rfl .here rfl rfl rfl ⟨(Inc.cons (.tail _ (.tail _ (.head _))) (Inc.cons (.tail _ (.tail _ (.tail _ (.head _)))) Inc.nil)), ?_⟩
            refine Aw_q 15 rfl (by kernel_rfl) (by kernel_rfl) (by kernel_rfl) rfl rfl rfl (Qt_assign rfl) ?_
            refine Aw_done (by kernel_rfl) ?_
            refine Shift.pull (.there (.there (.there .here))) ?_
            refine Shift.pull (.there (.there (.there .here))) ?_
            refine Shift.pull (.there (.there (.there .here))) ?_
            refine Shift.pull (.there (.there (.there .here))) ?_
            refine Shift.done ?_
            exact ⟨[(1, (sv vp1)), (2, (.pointer (some ((⟨b273, 0, none⟩ : Addr).add 0)))), (4, (.pointer (some ((⟨b274, 0, none⟩ : Addr).add 0)))), (6, (.int .i64 i810)), (7, (.pointer (some ((⟨b1062, 0, none⟩ : Addr).add 0)))), (8, (.pointer (some ((⟨b1063, 0, none⟩ : Addr).add 0)))), (9, (.bool x1039))], ⟨rfl, rfl, rfl, rfl, rfl, rfl, rfl, trivial⟩, b1062, b1063, x1039, x1038.value, x1038.ok, x1038.late, v1056, x1038.list, v1054, x1037.words, v1055, x1037.lists, x1037.tick, rfl, rfl, H, hs1061, hs1059, hs1060⟩
          · skip
            refine id (Ax_mk rfl rfl ?_)
            refine OpW_alloc (cs := (Answer.cells (Answer.mk 0 false false []) nilS)) rfl rfl rfl rfl (fun b1064 => ⟨(Inc.cons (.tail _ (.head _)) (Inc.cons (.tail _ (.tail _ (.head _))) Inc.nil)), ?_⟩)
            refine Aw_one 11 (by kernel_rfl) (Ax_mk rfl rfl ?_)
            refine OpW_alloc (cs := (Memory.cells (Memory.mk [] [] 0) nilS nilS)) rfl rfl rfl rfl (fun b1065 => ⟨(Inc.cons (.tail _ (.tail _ (.head _))) (Inc.cons (.tail _ (.tail _ (.tail _ (.head _)))) Inc.nil)), ?_⟩)
            refine Aw_one 13 (by kernel_rfl) (Ax_mk rfl rfl ?_)
            refine OpW_store (vs := (Memory.cells x1037 v1054 v1055)) (all' := (Memory.cells x1037 v1054 v1055)) rfl rfl rfl rfl rfl .here rfl rfl rfl ⟨(Inc.cons (.tail _ (.tail _ (.head _))) (Inc.cons (.tail _ (.tail _ (.tail _ (.head _)))) Inc.nil)), ?_⟩
            refine Aw_one 14 (by kernel_rfl) (Ax_mk rfl rfl ?_)
            refine OpW_store (vs := (Answer.cells x1038 v1056)) (all' := (Answer.cells x1038 v1056)) rfl rfl rfl rfl rfl (.there .here) rfl rfl rfl ⟨(Inc.cons (.tail _ (.tail _ (.head _))) (Inc.cons (.tail _ (.tail _ (.tail _ (.head _)))) Inc.nil)), ?_⟩
            refine Aw_q 15 rfl (by kernel_rfl) (by kernel_rfl) (by kernel_rfl) rfl rfl rfl (Qt_assign rfl) ?_
            refine Aw_done (by kernel_rfl) ?_
            refine Shift.pull (.there (.there (.there .here))) ?_
            refine Shift.pull (.there (.there (.there .here))) ?_
            refine Shift.pull (.there (.there .here)) ?_
            refine Shift.pull (.there (.there (.there .here))) ?_
            refine Shift.done ?_
            exact ⟨[(1, (sv vp1)), (2, (.pointer (some ((⟨b273, 0, none⟩ : Addr).add 0)))), (4, (.pointer (some ((⟨b274, 0, none⟩ : Addr).add 0)))), (6, (.int .i64 i810)), (7, (.pointer (some ((⟨b1065, 0, none⟩ : Addr).add 0)))), (8, (.pointer (some ((⟨b1064, 0, none⟩ : Addr).add 0)))), (9, (.bool x1039))], ⟨rfl, rfl, rfl, rfl, rfl, rfl, rfl, trivial⟩, b1065, b1064, x1039, x1038.value, x1038.ok, x1038.late, v1056, x1038.list, v1054, x1037.words, v1055, x1037.lists, x1037.tick, rfl, rfl, H, hs1061, hs1059, hs1060⟩
        · skip
          refine id (Ax_mk rfl rfl ?_)
          refine OpW_alloc (cs := (Memory.cells (Memory.mk [] [] 0) nilS nilS)) rfl rfl rfl rfl (fun b1066 => ⟨(Inc.cons (.tail _ (.head _)) (Inc.cons (.tail _ (.tail _ (.head _))) Inc.nil)), ?_⟩)
          refine Aw_two 6 12 (by kernel_rfl) ?_ ?_
          · skip
            refine id (Ax_mk rfl rfl ?_)
            refine OpW_call rfl Try.call35 rfl rfl (c_M_ref4_Apply (Memory.mk l812 l815 i817) v811 v814 x1032.access x1037 x1038 x1039 hx1040 _ _ hs813 hs816) ?_
            rintro _ K1070 _ hK1071 ⟨v1067, v1068, v1069, rfl, rfl, hs1072, hs1073, hs1074⟩
            refine ⟨(Inc.cons (.tail _ (.head _)) (Inc.cons (.tail _ (.tail _ (.head _))) Inc.nil)), ?_⟩
            refine Aw_q 7 rfl (by kernel_rfl) (by kernel_rfl) (by kernel_rfl) rfl rfl rfl (Qt_move rfl) ?_
            refine Aw_q 8 rfl (by kernel_rfl) (by kernel_rfl) (by kernel_rfl) rfl rfl rfl (Qt_extract rfl rfl) ?_
            refine Aw_q 9 rfl (by kernel_rfl) (by kernel_rfl) (by kernel_rfl) rfl rfl rfl (Qt_extract rfl rfl) ?_
            refine Aw_q 10 rfl (by kernel_rfl) (by kernel_rfl) (by kernel_rfl) rfl rfl rfl (Qt_extract rfl rfl) ?_
            refine Aw_one 12 (by kernel_rfl) (Ax_mk rfl rfl ?_)
            refine OpW_alloc (cs := (Answer.cells (Answer.mk 0 false false []) nilS)) rfl rfl rfl rfl (fun b1075 => ⟨(Inc.cons (.tail _ (.tail _ (.head _))) (Inc.cons (.tail _ (.tail _ (.tail _ (.head _)))) Inc.nil)), ?_⟩)
            refine Aw_one 13 (by kernel_rfl) (Ax_mk rfl rfl ?_)
            refine OpW_store (vs := (Memory.cells x1037 v1067 v1068)) (all' := (Memory.cells x1037 v1067 v1068)) rfl rfl rfl rfl rfl (.there .here) rfl rfl rfl ⟨(Inc.cons (.tail _ (.tail _ (.head _))) (Inc.cons (.tail _ (.tail _ (.tail _ (.head _)))) Inc.nil)), ?_⟩
            refine Aw_one 14 (by kernel_rfl) (Ax_mk rfl rfl ?_)
            refine OpW_store (vs := (Answer.cells x1038 v1069)) (all' := (Answer.cells x1038 v1069)) rfl rfl rfl rfl rfl .here rfl rfl rfl ⟨(Inc.cons (.tail _ (.tail _ (.head _))) (Inc.cons (.tail _ (.tail _ (.tail _ (.head _)))) Inc.nil)), ?_⟩
            refine Aw_q 15 rfl (by kernel_rfl) (by kernel_rfl) (by kernel_rfl) rfl rfl rfl (Qt_assign rfl) ?_
            refine Aw_done (by kernel_rfl) ?_
            refine Shift.pull (.there (.there (.there .here))) ?_
            refine Shift.pull (.there (.there (.there .here))) ?_
            refine Shift.pull (.there (.there (.there .here))) ?_
            refine Shift.pull (.there (.there (.there .here))) ?_
            refine Shift.done ?_
            exact ⟨[(1, (sv vp1)), (2, (.pointer (some ((⟨b273, 0, none⟩ : Addr).add 0)))), (4, (.pointer (some ((⟨b274, 0, none⟩ : Addr).add 0)))), (6, (.int .i64 i810)), (7, (.pointer (some ((⟨b1066, 0, none⟩ : Addr).add 0)))), (8, (.pointer (some ((⟨b1075, 0, none⟩ : Addr).add 0)))), (9, (.bool x1039))], ⟨rfl, rfl, rfl, rfl, rfl, rfl, rfl, trivial⟩, b1066, b1075, x1039, x1038.value, x1038.ok, x1038.late, v1069, x1038.list, v1067, x1037.words, v1068, x1037.lists, x1037.tick, rfl, rfl, H, hs1074, hs1072, hs1073⟩
          · skip
            refine id (Ax_mk rfl rfl ?_)
            refine OpW_alloc (cs := (Answer.cells (Answer.mk 0 false false []) nilS)) rfl rfl rfl rfl (fun b1076 => ⟨(Inc.cons (.tail _ (.tail _ (.head _))) (Inc.cons (.tail _ (.tail _ (.tail _ (.head _)))) Inc.nil)), ?_⟩)
            refine Aw_one 6 (by kernel_rfl) (Ax_mk rfl rfl ?_)
            refine OpW_call rfl Try.call35 rfl rfl (c_M_ref4_Apply (Memory.mk l812 l815 i817) v811 v814 x1032.access x1037 x1038 x1039 hx1040 _ _ hs813 hs816) ?_
            rintro _ K1080 _ hK1081 ⟨v1077, v1078, v1079, rfl, rfl, hs1082, hs1083, hs1084⟩
            refine ⟨(Inc.cons (.tail _ (.tail _ (.head _))) (Inc.cons (.tail _ (.tail _ (.tail _ (.head _)))) Inc.nil)), ?_⟩
            refine Aw_q 7 rfl (by kernel_rfl) (by kernel_rfl) (by kernel_rfl) rfl rfl rfl (Qt_move rfl) ?_
            refine Aw_q 8 rfl (by kernel_rfl) (by kernel_rfl) (by kernel_rfl) rfl rfl rfl (Qt_extract rfl rfl) ?_
            refine Aw_q 9 rfl (by kernel_rfl) (by kernel_rfl) (by kernel_rfl) rfl rfl rfl (Qt_extract rfl rfl) ?_
            refine Aw_q 10 rfl (by kernel_rfl) (by kernel_rfl) (by kernel_rfl) rfl rfl rfl (Qt_extract rfl rfl) ?_
            refine Aw_one 13 (by kernel_rfl) (Ax_mk rfl rfl ?_)
            refine OpW_store (vs := (Memory.cells x1037 v1077 v1078)) (all' := (Memory.cells x1037 v1077 v1078)) rfl rfl rfl rfl rfl (.there .here) rfl rfl rfl ⟨(Inc.cons (.tail _ (.tail _ (.head _))) (Inc.cons (.tail _ (.tail _ (.tail _ (.head _)))) Inc.nil)), ?_⟩
            refine Aw_one 14 (by kernel_rfl) (Ax_mk rfl rfl ?_)
            refine OpW_store (vs := (Answer.cells x1038 v1079)) (all' := (Answer.cells x1038 v1079)) rfl rfl rfl rfl rfl .here rfl rfl rfl ⟨(Inc.cons (.tail _ (.tail _ (.head _))) (Inc.cons (.tail _ (.tail _ (.tail _ (.head _)))) Inc.nil)), ?_⟩
            refine Aw_q 15 rfl (by kernel_rfl) (by kernel_rfl) (by kernel_rfl) rfl rfl rfl (Qt_assign rfl) ?_
            refine Aw_done (by kernel_rfl) ?_
            refine Shift.pull (.there (.there (.there .here))) ?_
            refine Shift.pull (.there (.there (.there .here))) ?_
            refine Shift.pull (.there (.there (.there .here))) ?_
            refine Shift.pull (.there (.there (.there .here))) ?_
            refine Shift.done ?_
            exact ⟨[(1, (sv vp1)), (2, (.pointer (some ((⟨b273, 0, none⟩ : Addr).add 0)))), (4, (.pointer (some ((⟨b274, 0, none⟩ : Addr).add 0)))), (6, (.int .i64 i810)), (7, (.pointer (some ((⟨b1066, 0, none⟩ : Addr).add 0)))), (8, (.pointer (some ((⟨b1076, 0, none⟩ : Addr).add 0)))), (9, (.bool x1039))], ⟨rfl, rfl, rfl, rfl, rfl, rfl, rfl, trivial⟩, b1066, b1076, x1039, x1038.value, x1038.ok, x1038.late, v1079, x1038.list, v1077, x1037.words, v1078, x1037.lists, x1037.tick, rfl, rfl, H, hs1084, hs1082, hs1083⟩
        · skip
          refine id (Ax_mk rfl rfl ?_)
          refine OpW_alloc (cs := (Answer.cells (Answer.mk 0 false false []) nilS)) rfl rfl rfl rfl (fun b1085 => ⟨(Inc.cons (.tail _ (.head _)) (Inc.cons (.tail _ (.tail _ (.head _))) Inc.nil)), ?_⟩)
          refine Aw_two 6 11 (by kernel_rfl) ?_ ?_
          · skip
            refine id (Ax_mk rfl rfl ?_)
            refine OpW_call rfl Try.call35 rfl rfl (c_M_ref4_Apply (Memory.mk l812 l815 i817) v811 v814 x1032.access x1037 x1038 x1039 hx1040 _ _ hs813 hs816) ?_
            rintro _ K1089 _ hK1090 ⟨v1086, v1087, v1088, rfl, rfl, hs1091, hs1092, hs1093⟩
            refine ⟨(Inc.cons (.tail _ (.head _)) (Inc.cons (.tail _ (.tail _ (.head _))) Inc.nil)), ?_⟩
            refine Aw_q 7 rfl (by kernel_rfl) (by kernel_rfl) (by kernel_rfl) rfl rfl rfl (Qt_move rfl) ?_
            refine Aw_q 8 rfl (by kernel_rfl) (by kernel_rfl) (by kernel_rfl) rfl rfl rfl (Qt_extract rfl rfl) ?_
            refine Aw_q 9 rfl (by kernel_rfl) (by kernel_rfl) (by kernel_rfl) rfl rfl rfl (Qt_extract rfl rfl) ?_
            refine Aw_q 10 rfl (by kernel_rfl) (by kernel_rfl) (by kernel_rfl) rfl rfl rfl (Qt_extract rfl rfl) ?_
            refine Aw_one 11 (by kernel_rfl) (Ax_mk rfl rfl ?_)
            refine OpW_alloc (cs := (Memory.cells (Memory.mk [] [] 0) nilS nilS)) rfl rfl rfl rfl (fun b1094 => ⟨(Inc.cons (.tail _ (.tail _ (.head _))) (Inc.cons (.tail _ (.tail _ (.tail _ (.head _)))) Inc.nil)), ?_⟩)
            refine Aw_one 13 (by kernel_rfl) (Ax_mk rfl rfl ?_)
            refine OpW_store (vs := (Memory.cells x1037 v1086 v1087)) (all' := (Memory.cells x1037 v1086 v1087)) rfl rfl rfl rfl rfl .here rfl rfl rfl ⟨(Inc.cons (.tail _ (.tail _ (.head _))) (Inc.cons (.tail _ (.tail _ (.tail _ (.head _)))) Inc.nil)), ?_⟩
            refine Aw_one 14 (by kernel_rfl) (Ax_mk rfl rfl ?_)
            refine OpW_store (vs := (Answer.cells x1038 v1088)) (all' := (Answer.cells x1038 v1088)) rfl rfl rfl rfl rfl (.there .here) rfl rfl rfl ⟨(Inc.cons (.tail _ (.tail _ (.head _))) (Inc.cons (.tail _ (.tail _ (.tail _ (.head _)))) Inc.nil)), ?_⟩
            refine Aw_q 15 rfl (by kernel_rfl) (by kernel_rfl) (by kernel_rfl) rfl rfl rfl (Qt_assign rfl) ?_
            refine Aw_done (by kernel_rfl) ?_
            refine Shift.pull (.there (.there (.there .here))) ?_
            refine Shift.pull (.there (.there (.there .here))) ?_
            refine Shift.pull (.there (.there .here)) ?_
            refine Shift.pull (.there (.there (.there .here))) ?_
            refine Shift.done ?_
            exact ⟨[(1, (sv vp1)), (2, (.pointer (some ((⟨b273, 0, none⟩ : Addr).add 0)))), (4, (.pointer (some ((⟨b274, 0, none⟩ : Addr).add 0)))), (6, (.int .i64 i810)), (7, (.pointer (some ((⟨b1094, 0, none⟩ : Addr).add 0)))), (8, (.pointer (some ((⟨b1085, 0, none⟩ : Addr).add 0)))), (9, (.bool x1039))], ⟨rfl, rfl, rfl, rfl, rfl, rfl, rfl, trivial⟩, b1094, b1085, x1039, x1038.value, x1038.ok, x1038.late, v1088, x1038.list, v1086, x1037.words, v1087, x1037.lists, x1037.tick, rfl, rfl, H, hs1093, hs1091, hs1092⟩
          · skip
            refine id (Ax_mk rfl rfl ?_)
            refine OpW_alloc (cs := (Memory.cells (Memory.mk [] [] 0) nilS nilS)) rfl rfl rfl rfl (fun b1095 => ⟨(Inc.cons (.tail _ (.tail _ (.head _))) (Inc.cons (.tail _ (.tail _ (.tail _ (.head _)))) Inc.nil)), ?_⟩)
            refine Aw_one 6 (by kernel_rfl) (Ax_mk rfl rfl ?_)
            refine OpW_call rfl Try.call35 rfl rfl (c_M_ref4_Apply (Memory.mk l812 l815 i817) v811 v814 x1032.access x1037 x1038 x1039 hx1040 _ _ hs813 hs816) ?_
            rintro _ K1099 _ hK1100 ⟨v1096, v1097, v1098, rfl, rfl, hs1101, hs1102, hs1103⟩
            refine ⟨(Inc.cons (.tail _ (.tail _ (.head _))) (Inc.cons (.tail _ (.tail _ (.tail _ (.head _)))) Inc.nil)), ?_⟩
            refine Aw_q 7 rfl (by kernel_rfl) (by kernel_rfl) (by kernel_rfl) rfl rfl rfl (Qt_move rfl) ?_
            refine Aw_q 8 rfl (by kernel_rfl) (by kernel_rfl) (by kernel_rfl) rfl rfl rfl (Qt_extract rfl rfl) ?_
            refine Aw_q 9 rfl (by kernel_rfl) (by kernel_rfl) (by kernel_rfl) rfl rfl rfl (Qt_extract rfl rfl) ?_
            refine Aw_q 10 rfl (by kernel_rfl) (by kernel_rfl) (by kernel_rfl) rfl rfl rfl (Qt_extract rfl rfl) ?_
            refine Aw_one 13 (by kernel_rfl) (Ax_mk rfl rfl ?_)
            refine OpW_store (vs := (Memory.cells x1037 v1096 v1097)) (all' := (Memory.cells x1037 v1096 v1097)) rfl rfl rfl rfl rfl .here rfl rfl rfl ⟨(Inc.cons (.tail _ (.tail _ (.head _))) (Inc.cons (.tail _ (.tail _ (.tail _ (.head _)))) Inc.nil)), ?_⟩
            refine Aw_one 14 (by kernel_rfl) (Ax_mk rfl rfl ?_)
            refine OpW_store (vs := (Answer.cells x1038 v1098)) (all' := (Answer.cells x1038 v1098)) rfl rfl rfl rfl rfl (.there .here) rfl rfl rfl ⟨(Inc.cons (.tail _ (.tail _ (.head _))) (Inc.cons (.tail _ (.tail _ (.tail _ (.head _)))) Inc.nil)), ?_⟩
            refine Aw_q 15 rfl (by kernel_rfl) (by kernel_rfl) (by kernel_rfl) rfl rfl rfl (Qt_assign rfl) ?_
            refine Aw_done (by kernel_rfl) ?_
            refine Shift.pull (.there (.there (.there .here))) ?_
            refine Shift.pull (.there (.there (.there .here))) ?_
            refine Shift.pull (.there (.there .here)) ?_
            refine Shift.pull (.there (.there (.there .here))) ?_
            refine Shift.done ?_
            exact ⟨[(1, (sv vp1)), (2, (.pointer (some ((⟨b273, 0, none⟩ : Addr).add 0)))), (4, (.pointer (some ((⟨b274, 0, none⟩ : Addr).add 0)))), (6, (.int .i64 i810)), (7, (.pointer (some ((⟨b1095, 0, none⟩ : Addr).add 0)))), (8, (.pointer (some ((⟨b1085, 0, none⟩ : Addr).add 0)))), (9, (.bool x1039))], ⟨rfl, rfl, rfl, rfl, rfl, rfl, rfl, trivial⟩, b1095, b1085, x1039, x1038.value, x1038.ok, x1038.late, v1098, x1038.list, v1096, x1037.words, v1097, x1037.lists, x1037.tick, rfl, rfl, H, hs1103, hs1101, hs1102⟩
      rintro _ K1104 _ hK1105 ⟨b1016, b1017, t1018, i1019, t1020, t1021, v1022, l1023, v1025, l1026, v1028, l1029, i1031, rfl, rfl, H, hs1024, hs1027, hs1030⟩
      unfold M_ref4_Replay_J2 at H
      refine Cw_seq ?_
      refine Cw_join (fun env' K' G' => ∃ (t1156 : Bool), [(1, (sv vp1)), (2, (.pointer (some ((⟨b273, 0, none⟩ : Addr).add 0)))), (4, (.pointer (some ((⟨b274, 0, none⟩ : Addr).add 0)))), (6, (.int .i64 i810)), (7, (.pointer (some ((⟨b1016, 0, none⟩ : Addr).add 0)))), (48, (.bool t1156))] = env' ∧ K1104 = K' ∧ (.blk b1016 49 (Memory.cells (Memory.mk l1026 l1029 i1031) v1025 v1028)) :: (.blk b274 49 (Memory.cells (Memory.mk [] [] 0) nilS nilS)) :: (.blk b273 49 (Memory.cells (Memory.mk l812 l815 i817) v811 v814)) :: G = G' ∧ M_ref4_Replay_J3 p1 i810 l1026 l1029 i1031 l812 l815 i817 k822 t1156 = some (y0, y1)) ?_ ?_
      · skip
        rcases bool_ct (!(t1018)) with hb_ | hb_ <;> revert hb_
        · intro h1157
          have h1157 := nt_t (h1157)
          have H := iff_ (btf h1157) H
          refine Cw_region_any [.blk b1017 40 (Answer.cells (Answer.mk i1019 t1020 t1021 l1023) v1022), .blk b1016 49 (Memory.cells (Memory.mk l1026 l1029 i1031) v1025 v1028), .blk b274 49 (Memory.cells (Memory.mk [] [] 0) nilS nilS), .blk b273 49 (Memory.cells (Memory.mk l812 l815 i817) v811 v814)] rfl (Inc.cons (.head _) (Inc.cons (.tail _ (.head _)) (Inc.cons (.tail _ (.tail _ (.head _))) (Inc.cons (.tail _ (.tail _ (.tail _ (.head _)))) Inc.nil)))) ?_
          refine Aw_q 0 rfl (by kernel_rfl) (by kernel_rfl) (by kernel_rfl) rfl rfl rfl (Qt_move rfl) ?_
          refine Aw_q 1 rfl (by kernel_rfl) (by kernel_rfl) (by kernel_rfl) rfl rfl rfl (Qt_not rfl) ?_
          refine Aw_q 2 rfl (by kernel_rfl) (by kernel_rfl) (by kernel_rfl) rfl rfl rfl (Qt_move rfl) ?_
          refine Aw.known (d := 29) rfl (nt_mt (h1157)) ?_
          refine Aw_pass 3 rfl (by kernel_rfl) (by kernel_rfl) (by kernel_rfl) rfl rfl rfl rfl rfl rfl rfl ?_
          refine Aw_pass 4 rfl (by kernel_rfl) (by kernel_rfl) (by kernel_rfl) rfl rfl rfl rfl rfl rfl rfl ?_
          refine Aw_pass 5 rfl (by kernel_rfl) (by kernel_rfl) (by kernel_rfl) rfl rfl rfl rfl rfl rfl rfl ?_
          refine Aw_pass 6 rfl (by kernel_rfl) (by kernel_rfl) (by kernel_rfl) rfl rfl rfl rfl rfl rfl rfl ?_
          refine Aw_pass 7 rfl (by kernel_rfl) (by kernel_rfl) (by kernel_rfl) rfl rfl rfl rfl rfl rfl rfl ?_
          refine Aw_pass 8 rfl (by kernel_rfl) (by kernel_rfl) (by kernel_rfl) rfl rfl rfl rfl rfl rfl rfl ?_
          refine Aw_pass 9 rfl (by kernel_rfl) (by kernel_rfl) (by kernel_rfl) rfl rfl rfl rfl rfl rfl rfl ?_
          refine Aw_pass 10 rfl (by kernel_rfl) (by kernel_rfl) (by kernel_rfl) rfl rfl rfl rfl rfl rfl rfl ?_
          refine Aw_q 11 rfl (by kernel_rfl) (by kernel_rfl) (by kernel_rfl) rfl rfl rfl (Qt_pick_t rfl rfl) ?_
          refine Aw_q 12 rfl (by kernel_rfl) (by kernel_rfl) (by kernel_rfl) rfl rfl rfl (Qt_move rfl) ?_
          refine Aw_pass 13 rfl (by kernel_rfl) (by kernel_rfl) (by kernel_rfl) rfl rfl rfl rfl rfl rfl rfl ?_
          refine Aw_pass 14 rfl (by kernel_rfl) (by kernel_rfl) (by kernel_rfl) rfl rfl rfl rfl rfl rfl rfl ?_
          refine Aw_pass 15 rfl (by kernel_rfl) (by kernel_rfl) (by kernel_rfl) rfl rfl rfl rfl rfl rfl rfl ?_
          refine Aw_pass 16 rfl (by kernel_rfl) (by kernel_rfl) (by kernel_rfl) rfl rfl rfl rfl rfl rfl rfl ?_
          refine Aw_pass 17 rfl (by kernel_rfl) (by kernel_rfl) (by kernel_rfl) rfl rfl rfl rfl rfl rfl rfl ?_
          refine Aw_pass 18 rfl (by kernel_rfl) (by kernel_rfl) (by kernel_rfl) rfl rfl rfl rfl rfl rfl rfl ?_
          refine Aw_pass 19 rfl (by kernel_rfl) (by kernel_rfl) (by kernel_rfl) rfl rfl rfl rfl rfl rfl rfl ?_
          refine Aw_pass 20 rfl (by kernel_rfl) (by kernel_rfl) (by kernel_rfl) rfl rfl rfl rfl rfl rfl rfl ?_
          refine Aw_q 21 rfl (by kernel_rfl) (by kernel_rfl) (by kernel_rfl) rfl rfl rfl (Qt_pick_t rfl rfl) ?_
          refine Aw_done (by kernel_rfl) ?_
          refine Shift.pull (.there (.there (.there .here))) ?_
          refine Shift.pull (.there (.there (.there .here))) ?_
          refine Shift.pull (.there (.there (.there .here))) ?_
          refine Shift.rem (.there (.there (.there .here))) ?_
          refine Shift.done ?_
          exact ⟨[(1, (sv vp1)), (2, (.pointer (some ((⟨b273, 0, none⟩ : Addr).add 0)))), (4, (.pointer (some ((⟨b274, 0, none⟩ : Addr).add 0)))), (6, (.int .i64 i810)), (7, (.pointer (some ((⟨b1016, 0, none⟩ : Addr).add 0)))), (48, (.bool true))], ⟨rfl, rfl, rfl, rfl, rfl, rfl, trivial⟩, true, rfl, rfl, rfl, H⟩
        · intro h1157
          have h1157 := nt_f (h1157)
          have H := ift h1157 H
          obtain ⟨x1158, hx1159, H⟩ := bnd H
          rcases bool_ct (!(dcd (i1019 = x1158.value))) with hb_ | hb_ <;> revert hb_
          · intro h1164
            have h1164 := dcd_f (nt_t (h1164))
            have H := iff_ h1164 H
            refine Cw_region_any [.blk b1017 40 (Answer.cells (Answer.mk i1019 t1020 t1021 l1023) v1022), .blk b1016 49 (Memory.cells (Memory.mk l1026 l1029 i1031) v1025 v1028), .blk b274 49 (Memory.cells (Memory.mk [] [] 0) nilS nilS), .blk b273 49 (Memory.cells (Memory.mk l812 l815 i817) v811 v814)] rfl (Inc.cons (.head _) (Inc.cons (.tail _ (.head _)) (Inc.cons (.tail _ (.tail _ (.head _))) (Inc.cons (.tail _ (.tail _ (.tail _ (.head _)))) Inc.nil)))) ?_
            refine Aw_q 0 rfl (by kernel_rfl) (by kernel_rfl) (by kernel_rfl) rfl rfl rfl (Qt_move rfl) ?_
            refine Aw_q 1 rfl (by kernel_rfl) (by kernel_rfl) (by kernel_rfl) rfl rfl rfl (Qt_not rfl) ?_
            refine Aw_q 2 rfl (by kernel_rfl) (by kernel_rfl) (by kernel_rfl) rfl rfl rfl (Qt_move rfl) ?_
            refine Aw.known (d := 29) rfl (nt_mf (h1157)) ?_
            refine Aw_qw 3 rfl (by kernel_rfl) (by kernel_rfl) (by kernel_rfl) rfl rfl rfl rfl rfl rfl (Qt_fieldAddr (m := 0) rfl rfl rfl rfl rfl) ?_
            refine Aw_qw 4 rfl (by kernel_rfl) (by kernel_rfl) (by kernel_rfl) rfl rfl rfl rfl rfl rfl (Qt_load1 (v := (.int .u64 i1019)) rfl rfl rfl (Rdc.blk (.head _) rfl)) ?_
            refine Aw_qw 5 rfl (by kernel_rfl) (by kernel_rfl) (by kernel_rfl) rfl rfl rfl rfl rfl rfl (Qt_move rfl) ?_
            refine Aw_qw 6 rfl (by kernel_rfl) (by kernel_rfl) (by kernel_rfl) rfl rfl rfl rfl rfl rfl (Qt_move rfl) ?_
            have hs1165 := (hs826).mono hK1105
            obtain ⟨r1166, hr1167, hk1168⟩ := Slr.at hs1165 hx1159
            obtain rfl := hr1167
            refine Aw_qw 7 rfl (by kernel_rfl) (by kernel_rfl) (by kernel_rfl) rfl rfl rfl rfl rfl rfl (Q_ix (T := TyItem) hs1165 hx1159 rfl rfl rfl rfl rfl) ?_
            refine Aw_qw 8 rfl (by kernel_rfl) (by kernel_rfl) (by kernel_rfl) rfl rfl rfl rfl rfl rfl (Qt_fieldAddr (m := 6) rfl rfl rfl rfl rfl) ?_
            refine Aw_qw 9 rfl (by kernel_rfl) (by kernel_rfl) (by kernel_rfl) rfl rfl rfl rfl rfl rfl (Qt_load1 (v := (.int .u64 x1158.value)) rfl rfl rfl (Rdc.k hk1168 rfl)) ?_
            refine Aw_qw 10 rfl (by kernel_rfl) (by kernel_rfl) (by kernel_rfl) rfl rfl rfl rfl rfl rfl (Qt_cmp rfl rfl rfl) ?_
            refine Aw_q 11 rfl (by kernel_rfl) (by kernel_rfl) (by kernel_rfl) rfl rfl rfl (Qt_pick_f rfl rfl) ?_
            refine Aw_q 12 rfl (by kernel_rfl) (by kernel_rfl) (by kernel_rfl) rfl rfl rfl (Qt_move rfl) ?_
            refine Aw.known (d := 39) rfl (nt_mt (dcd_neg h1164)) ?_
            refine Aw_pass 13 rfl (by kernel_rfl) (by kernel_rfl) (by kernel_rfl) rfl rfl rfl rfl rfl rfl rfl ?_
            refine Aw_pass 14 rfl (by kernel_rfl) (by kernel_rfl) (by kernel_rfl) rfl rfl rfl rfl rfl rfl rfl ?_
            refine Aw_pass 15 rfl (by kernel_rfl) (by kernel_rfl) (by kernel_rfl) rfl rfl rfl rfl rfl rfl rfl ?_
            refine Aw_pass 16 rfl (by kernel_rfl) (by kernel_rfl) (by kernel_rfl) rfl rfl rfl rfl rfl rfl rfl ?_
            refine Aw_pass 17 rfl (by kernel_rfl) (by kernel_rfl) (by kernel_rfl) rfl rfl rfl rfl rfl rfl rfl ?_
            refine Aw_pass 18 rfl (by kernel_rfl) (by kernel_rfl) (by kernel_rfl) rfl rfl rfl rfl rfl rfl rfl ?_
            refine Aw_pass 19 rfl (by kernel_rfl) (by kernel_rfl) (by kernel_rfl) rfl rfl rfl rfl rfl rfl rfl ?_
            refine Aw_pass 20 rfl (by kernel_rfl) (by kernel_rfl) (by kernel_rfl) rfl rfl rfl rfl rfl rfl rfl ?_
            refine Aw_q 21 rfl (by kernel_rfl) (by kernel_rfl) (by kernel_rfl) rfl rfl rfl (Qt_pick_t rfl rfl) ?_
            refine Aw_done (by kernel_rfl) ?_
            refine Shift.pull (.there (.there (.there .here))) ?_
            refine Shift.pull (.there (.there (.there .here))) ?_
            refine Shift.pull (.there (.there (.there .here))) ?_
            refine Shift.rem (.there (.there (.there .here))) ?_
            refine Shift.done ?_
            exact ⟨[(1, (sv vp1)), (2, (.pointer (some ((⟨b273, 0, none⟩ : Addr).add 0)))), (4, (.pointer (some ((⟨b274, 0, none⟩ : Addr).add 0)))), (6, (.int .i64 i810)), (7, (.pointer (some ((⟨b1016, 0, none⟩ : Addr).add 0)))), (48, (.bool true))], ⟨rfl, rfl, rfl, rfl, rfl, rfl, trivial⟩, true, rfl, rfl, rfl, H⟩
          · intro h1164
            have h1164 := dcd_t (nt_f (h1164))
            have H := ift h1164 H
            obtain ⟨x1169, hx1170, H⟩ := bnd H
            refine Cw_region_any [.blk b1017 40 (Answer.cells (Answer.mk i1019 t1020 t1021 l1023) v1022), .blk b1016 49 (Memory.cells (Memory.mk l1026 l1029 i1031) v1025 v1028), .blk b274 49 (Memory.cells (Memory.mk [] [] 0) nilS nilS), .blk b273 49 (Memory.cells (Memory.mk l812 l815 i817) v811 v814)] rfl (Inc.cons (.head _) (Inc.cons (.tail _ (.head _)) (Inc.cons (.tail _ (.tail _ (.head _))) (Inc.cons (.tail _ (.tail _ (.tail _ (.head _)))) Inc.nil)))) ?_
            refine Aw_q 0 rfl (by kernel_rfl) (by kernel_rfl) (by kernel_rfl) rfl rfl rfl (Qt_move rfl) ?_
            refine Aw_q 1 rfl (by kernel_rfl) (by kernel_rfl) (by kernel_rfl) rfl rfl rfl (Qt_not rfl) ?_
            refine Aw_q 2 rfl (by kernel_rfl) (by kernel_rfl) (by kernel_rfl) rfl rfl rfl (Qt_move rfl) ?_
            refine Aw.known (d := 29) rfl (nt_mf (h1157)) ?_
            refine Aw_qw 3 rfl (by kernel_rfl) (by kernel_rfl) (by kernel_rfl) rfl rfl rfl rfl rfl rfl (Qt_fieldAddr (m := 0) rfl rfl rfl rfl rfl) ?_
            refine Aw_qw 4 rfl (by kernel_rfl) (by kernel_rfl) (by kernel_rfl) rfl rfl rfl rfl rfl rfl (Qt_load1 (v := (.int .u64 i1019)) rfl rfl rfl (Rdc.blk (.head _) rfl)) ?_
            refine Aw_qw 5 rfl (by kernel_rfl) (by kernel_rfl) (by kernel_rfl) rfl rfl rfl rfl rfl rfl (Qt_move rfl) ?_
            refine Aw_qw 6 rfl (by kernel_rfl) (by kernel_rfl) (by kernel_rfl) rfl rfl rfl rfl rfl rfl (Qt_move rfl) ?_
            have hs1174 := (hs826).mono hK1105
            obtain ⟨r1175, hr1176, hk1177⟩ := Slr.at hs1174 hx1159
            obtain rfl := hr1176
            refine Aw_qw 7 rfl (by kernel_rfl) (by kernel_rfl) (by kernel_rfl) rfl rfl rfl rfl rfl rfl (Q_ix (T := TyItem) hs1174 hx1159 rfl rfl rfl rfl rfl) ?_
            refine Aw_qw 8 rfl (by kernel_rfl) (by kernel_rfl) (by kernel_rfl) rfl rfl rfl rfl rfl rfl (Qt_fieldAddr (m := 6) rfl rfl rfl rfl rfl) ?_
            refine Aw_qw 9 rfl (by kernel_rfl) (by kernel_rfl) (by kernel_rfl) rfl rfl rfl rfl rfl rfl (Qt_load1 (v := (.int .u64 x1158.value)) rfl rfl rfl (Rdc.k hk1177 rfl)) ?_
            refine Aw_qw 10 rfl (by kernel_rfl) (by kernel_rfl) (by kernel_rfl) rfl rfl rfl rfl rfl rfl (Qt_cmp rfl rfl rfl) ?_
            refine Aw_q 11 rfl (by kernel_rfl) (by kernel_rfl) (by kernel_rfl) rfl rfl rfl (Qt_pick_f rfl rfl) ?_
            refine Aw_q 12 rfl (by kernel_rfl) (by kernel_rfl) (by kernel_rfl) rfl rfl rfl (Qt_move rfl) ?_
            refine Aw.known (d := 39) rfl (nt_mf (dcd_pos h1164)) ?_
            refine Aw_qw 13 rfl (by kernel_rfl) (by kernel_rfl) (by kernel_rfl) rfl rfl rfl rfl rfl rfl (Qt_fieldAddr (m := 1) rfl rfl rfl rfl rfl) ?_
            refine Aw_qw 14 rfl (by kernel_rfl) (by kernel_rfl) (by kernel_rfl) rfl rfl rfl rfl rfl rfl (Qt_load1 (v := (.bool t1020)) rfl rfl rfl (Rdc.blk (.head _) rfl)) ?_
            refine Aw_qw 15 rfl (by kernel_rfl) (by kernel_rfl) (by kernel_rfl) rfl rfl rfl rfl rfl rfl (Qt_move rfl) ?_
            refine Aw_qw 16 rfl (by kernel_rfl) (by kernel_rfl) (by kernel_rfl) rfl rfl rfl rfl rfl rfl (Qt_move rfl) ?_
            obtain ⟨r1178, hr1179, hk1180⟩ := Slr.at hs1174 hx1170
            obtain rfl := hr1179
            refine Aw_qw 17 rfl (by kernel_rfl) (by kernel_rfl) (by kernel_rfl) rfl rfl rfl rfl rfl rfl (Q_ix (T := TyItem) hs1174 hx1170 rfl rfl rfl rfl rfl) ?_
            refine Aw_qw 18 rfl (by kernel_rfl) (by kernel_rfl) (by kernel_rfl) rfl rfl rfl rfl rfl rfl (Qt_fieldAddr (m := 7) rfl rfl rfl rfl rfl) ?_
            refine Aw_qw 19 rfl (by kernel_rfl) (by kernel_rfl) (by kernel_rfl) rfl rfl rfl rfl rfl rfl (Qt_load1 (v := (.bool x1169.ok)) rfl rfl rfl (Rdc.k hk1180 rfl)) ?_
            refine Aw_qw 20 rfl (by kernel_rfl) (by kernel_rfl) (by kernel_rfl) rfl rfl rfl rfl rfl rfl (Qt_neB rfl rfl rfl) ?_
            refine Aw_q 21 rfl (by kernel_rfl) (by kernel_rfl) (by kernel_rfl) rfl rfl rfl (Qt_pick_f rfl rfl) ?_
            refine Aw_done (by kernel_rfl) ?_
            refine Shift.pull (.there (.there (.there .here))) ?_
            refine Shift.pull (.there (.there (.there .here))) ?_
            refine Shift.pull (.there (.there (.there .here))) ?_
            refine Shift.rem (.there (.there (.there .here))) ?_
            refine Shift.done ?_
            exact ⟨[(1, (sv vp1)), (2, (.pointer (some ((⟨b273, 0, none⟩ : Addr).add 0)))), (4, (.pointer (some ((⟨b274, 0, none⟩ : Addr).add 0)))), (6, (.int .i64 i810)), (7, (.pointer (some ((⟨b1016, 0, none⟩ : Addr).add 0)))), (48, (.bool (!((t1020 == x1169.ok)))))], ⟨rfl, rfl, rfl, rfl, rfl, rfl, trivial⟩, (!((t1020 == x1169.ok))), rfl, rfl, rfl, H⟩
      rintro _ _ _ - ⟨t1156, rfl, rfl, rfl, H⟩
      unfold M_ref4_Replay_J3 at H
      refine Cw_cond rfl ?_ ?_
      · intro h1181
        have H := ift h1181 H
        refine Cw_seq ?_
        refine Cw_region ?_
        refine Ow_q rfl rfl rfl (Qt_build (cs := (Memory.cells (Memory.mk [] [] 0) nilS nilS)) rfl rfl rfl rfl rfl rfl) ?_
        refine Ow_cons rfl (OpW_store (vs := (Memory.cells (Memory.mk [] [] 0) nilS nilS)) (all' := (Memory.cells (Memory.mk [] [] 0) nilS nilS)) rfl rfl rfl rfl rfl (.there .here) rfl rfl rfl ?_)
        refine Ow_q rfl rfl rfl (Qt_assign rfl) ?_
        refine Ow_nil ?_
        refine Cw_ret ?_
        obtain ⟨ey0, ey1⟩ := inj2 H
        subst y0 y1
        refine ⟨(by first | exact .inl rfl | exact .inr rfl), [(.agg (Memory.cells (Memory.mk [] [] 0) nilS nilS).toArray), (.bool false)], ⟨(.agg (Memory.cells (Memory.mk [] [] 0) nilS nilS).toArray), _, rfl, ⟨_, 3, (Memory.cells (Memory.mk [] [] 0) nilS nilS), rfl, rfl, rfl, rfl, ⟨rfl, Rdc.blk (.tail _ (.head _)) rfl⟩, rfl⟩, ⟨(.bool false), _, rfl, rfl, rfl⟩⟩, ?_⟩
        refine Shift.rem .here ?_
        refine Shift.rem .here ?_
        refine Shift.rem .here ?_
        refine Shift.done ?_
        exact ⟨nilS, nilS, rfl, rfl, (Slr.nil Ty.u64 _), (Slr.nil (Ty.sl Ty.i64) _)⟩
      · intro h1181
        have H := iff_ (btf h1181) H
        refine Cw_skip ?_
        refine Cw_region ?_
        refine Ow_q rfl rfl rfl (Qt_loadA (m := 3) (cs := (Memory.cells (Memory.mk l1026 l1029 i1031) v1025 v1028)) rfl rfl rfl rfl ⟨rfl, Rdc.blk (.head _) rfl⟩) ?_
        refine Ow_cons rfl (OpW_store (vs := (Memory.cells (Memory.mk l1026 l1029 i1031) v1025 v1028)) (all' := (Memory.cells (Memory.mk l1026 l1029 i1031) v1025 v1028)) rfl rfl rfl rfl rfl (.there (.there .here)) rfl rfl rfl ?_)
        refine Ow_nil ?_
        refine Cw_region ?_
        refine Ow_q rfl rfl rfl (Qt_move rfl) ?_
        refine Ow_q rfl rfl rfl (Qt_arith (e := wI (i810 + 1)) rfl rfl rfl rfl) ?_
        refine Ow_q rfl rfl rfl (Qt_assign rfl) ?_
        refine Ow_nil ?_
        refine Shift.pull (.there (.there .here)) ?_
        refine Shift.pull (.there (.there .here)) ?_
        refine Shift.rem (.there (.there .here)) ?_
        refine Shift.done ?_
        exact ⟨[(1, (sv vp1)), (2, (.pointer (some ((⟨b273, 0, none⟩ : Addr).add 0)))), (4, (.pointer (some ((⟨b274, 0, none⟩ : Addr).add 0)))), (6, (.int .i64 (wI (i810 + 1))))], ⟨rfl, rfl, rfl, rfl, trivial⟩, _, Nat.lt_succ_self _, (wI (i810 + 1)), v1025, l1026, v1028, l1029, i1031, rfl, rfl, (hkk823 ▸ H), hs1027, hs1030⟩
    · intro h827
      have h827 := dcd_f (h827)
      have H := iff_ h827 H
      refine Cw_exit ?_
      refine Shift.pull (.there .here) ?_
      refine Shift.pull (.there .here) ?_
      refine Shift.done ?_
      exact ⟨[(2, (.pointer (some ((⟨b273, 0, none⟩ : Addr).add 0)))), (4, (.pointer (some ((⟨b274, 0, none⟩ : Addr).add 0))))], ⟨rfl, rfl, trivial⟩, v811, l812, v814, l815, i817, rfl, rfl, H, hs813, hs816⟩
  rintro _ K1182 _ hK1183 ⟨v543, l544, v546, l547, i549, rfl, rfl, H, hs545, hs548⟩
  unfold M_ref4_Replay_J1 at H
  refine Cw_seq ?_
  refine Cw_region ?_
  refine Ow_q rfl rfl rfl (Qt_loadA (m := 3) (cs := (Memory.cells (Memory.mk l544 l547 i549) v543 v546)) rfl rfl rfl rfl ⟨rfl, Rdc.blk (.tail _ (.head _)) rfl⟩) ?_
  refine Ow_cons rfl (OpW_store (vs := (Memory.cells (Memory.mk l544 l547 i549) v543 v546)) (all' := (Memory.cells (Memory.mk l544 l547 i549) v543 v546)) rfl rfl rfl rfl rfl .here rfl rfl rfl ?_)
  refine Ow_q rfl rfl rfl (Qt_assign rfl) ?_
  refine Ow_nil ?_
  refine Cw_ret ?_
  obtain ⟨ey0, ey1⟩ := inj2 H
  subst y0 y1
  refine ⟨(by first | exact .inl rfl | exact .inr rfl), [(.agg (Memory.cells (Memory.mk l544 l547 i549) v543 v546).toArray), (.bool true)], ⟨(.agg (Memory.cells (Memory.mk l544 l547 i549) v543 v546).toArray), _, rfl, ⟨_, 3, (Memory.cells (Memory.mk l544 l547 i549) v543 v546), rfl, rfl, rfl, rfl, ⟨rfl, Rdc.blk (.head _) rfl⟩, rfl⟩, ⟨(.bool true), _, rfl, rfl, rfl⟩⟩, ?_⟩
  refine Shift.rem .here ?_
  refine Shift.rem .here ?_
  refine Shift.done ?_
  exact ⟨v543, v546, rfl, rfl, hs545, hs548⟩


end Go.Hx
