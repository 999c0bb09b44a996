/- Printed by program. -/
import Derived.Test.YtgkmiemclhaahaaXAM
import Derived.Test.YtgkmiemclhaahaaXAWMemory
import Derived.Test.YtgkmiemclhaahaaXAWSlices
namespace Go.Hx
open Go Go.Proofs
set_option linter.unusedSimpArgs false
set_option linter.unusedVariables false
set_option maxRecDepth 10000
set_option maxHeartbeats 1000000 in
theorem c_M_memory_list (p0 : Memory) (vp0_words : SV) (vp0_lists : SV) (p1 : Access) (y0 : Memory) (y1 : Answer) (H : M_memory_list p0 p1 = some (y0, y1)) (K : Kp) (G : List Ent) (hp0_words : Slr Ty.u64 K (sv vp0_words) p0.words) (hp0_lists : Slr (Ty.sl Ty.i64) K (sv vp0_lists) p0.lists) :
    Fc Try.prog 52 #[(.agg (Memory.cells p0 vp0_words vp0_lists).toArray), (.agg (Access.cells p1).toArray)] K (G) (fun v K' G' => ∃ (wy0_words : SV) (wy0_lists : SV) (wy1_list : SV), v = (.tuple #[(.agg (Memory.cells y0 wy0_words wy0_lists).toArray), (.agg (Answer.cells y1 wy1_list).toArray)]) ∧ G = G' ∧ Slr Ty.u64 K' (sv wy0_words) y0.words ∧ Slr (Ty.sl Ty.i64) K' (sv wy0_lists) y0.lists ∧ Slr Ty.i64 K' (sv wy1_list) y1.list) := by
  refine Fc_body Try.func52 rfl Try.ntmps52 Try.results52 rfl ?_
  unfold M_memory_list at H
  refine Cw_seq ?_
  refine Cw_region ?_
  refine Ow_cons rfl (OpW_box (cs := (Memory.cells p0 vp0_words vp0_lists)) rfl rfl rfl (fun b110 => ?_))
  refine Ow_cons rfl (OpW_box (cs := (Access.cells p1)) rfl rfl rfl (fun b111 => ?_))
  refine Ow_cons rfl (OpW_alloc (cs := (Memory.cells (Memory.mk [] [] 0) nilS nilS)) rfl rfl rfl rfl (fun b112 => ?_))
  refine Ow_cons rfl (OpW_alloc (cs := (Answer.cells (Answer.mk 0 false false []) nilS)) rfl rfl rfl rfl (fun b113 => ?_))
  refine Ow_nil ?_
  refine Cw_seq ?_
  refine Cw_join (fun env' K' G' => ∃ (t118 : Bool), [(2, (.pointer (some ((⟨b110, 0, none⟩ : Addr).add 0)))), (3, (.pointer (some ((⟨b111, 0, none⟩ : Addr).add 0)))), (4, (.pointer (some ((⟨b112, 0, none⟩ : Addr).add 0)))), (5, (.pointer (some ((⟨b113, 0, none⟩ : Addr).add 0)))), (19, (.bool t118))] = env' ∧ K = K' ∧ (.blk b113 40 (Answer.cells (Answer.mk 0 false false []) nilS)) :: (.blk b112 49 (Memory.cells (Memory.mk [] [] 0) nilS nilS)) :: (.blk b111 24 (Access.cells p1)) :: (.blk b110 49 (Memory.cells p0 vp0_words vp0_lists)) :: G = G' ∧ M_memory_list_J1 p1 p0 t118 = some (y0, y1)) ?_ ?_
  · skip
    refine Cw_region ?_
    refine Ow_q rfl rfl rfl (Qt_fieldAddr (m := 1) rfl rfl rfl rfl rfl) ?_
    refine Ow_q rfl rfl rfl (Qt_load1 (v := (.int .i64 p1.address)) rfl rfl rfl (Rdc.blk (.tail _ (.tail _ (.head _))) rfl)) ?_
    refine Ow_q rfl rfl rfl (Qt_cmp rfl rfl rfl) ?_
    refine Ow_q rfl rfl rfl (Qt_move rfl) ?_
    refine Ow_caseG rfl rfl rfl ?_ ?_
    · intro h119
      have h119 := dcd_t (h119)
      have H := ift h119 H
      refine Ow_pass rfl rfl rfl rfl rfl rfl rfl ?_
      refine Ow_pass rfl rfl rfl rfl rfl rfl rfl ?_
      refine Ow_pass rfl rfl rfl rfl rfl rfl rfl ?_
      refine Ow_pass rfl rfl rfl rfl rfl rfl rfl ?_
      refine Ow_pass rfl rfl rfl rfl rfl rfl rfl ?_
      refine Ow_pass rfl rfl rfl rfl rfl rfl rfl ?_
      refine Ow_q rfl rfl rfl (Qt_pick_t rfl rfl) ?_
      refine Ow_nil ?_
      refine Shift.pull (.there (.there (.there .here))) ?_
      refine Shift.pull (.there (.there (.there .here))) ?_
      refine Shift.pull (.there (.there (.there .here))) ?_
      refine Shift.pull (.there (.there (.there .here))) ?_
      refine Shift.done ?_
      exact ⟨[(2, (.pointer (some ((⟨b110, 0, none⟩ : Addr).add 0)))), (3, (.pointer (some ((⟨b111, 0, none⟩ : Addr).add 0)))), (4, (.pointer (some ((⟨b112, 0, none⟩ : Addr).add 0)))), (5, (.pointer (some ((⟨b113, 0, none⟩ : Addr).add 0)))), (19, (.bool true))], ⟨rfl, rfl, rfl, rfl, rfl, trivial⟩, true, rfl, rfl, rfl, H⟩
    · intro h119
      have h119 := dcd_f (h119)
      have H := iff_ h119 H
      refine Ow_qw rfl rfl rfl rfl rfl rfl (Qt_fieldAddr (m := 1) rfl rfl rfl rfl rfl) ?_
      refine Ow_qw rfl rfl rfl rfl rfl rfl (Qt_load1 (v := (.int .i64 p1.address)) rfl rfl rfl (Rdc.blk (.tail _ (.tail _ (.head _))) rfl)) ?_
      refine Ow_qw rfl rfl rfl rfl rfl rfl (Qt_fieldAddr (m := 1) rfl rfl rfl rfl rfl) ?_
      refine Ow_qw rfl rfl rfl rfl rfl rfl (Qt_load1 (v := (sv vp0_lists)) rfl rfl rfl (Rdc.blk (.tail _ (.tail _ (.tail _ (.head _)))) rfl)) ?_
      refine Ow_qw rfl rfl rfl rfl rfl rfl (Q_len (T := (Ty.sl Ty.i64)) hp0_lists rfl rfl) ?_
      refine Ow_qw rfl rfl rfl rfl rfl rfl (Qt_cmp rfl rfl rfl) ?_
      refine Ow_q rfl rfl rfl (Qt_pick_f rfl rfl) ?_
      refine Ow_nil ?_
      refine Shift.pull (.there (.there (.there .here))) ?_
      refine Shift.pull (.there (.there (.there .here))) ?_
      refine Shift.pull (.there (.there (.there .here))) ?_
      refine Shift.pull (.there (.there (.there .here))) ?_
      refine Shift.done ?_
      exact ⟨[(2, (.pointer (some ((⟨b110, 0, none⟩ : Addr).add 0)))), (3, (.pointer (some ((⟨b111, 0, none⟩ : Addr).add 0)))), (4, (.pointer (some ((⟨b112, 0, none⟩ : Addr).add 0)))), (5, (.pointer (some ((⟨b113, 0, none⟩ : Addr).add 0)))), (19, (.bool (dcd (p1.address ≥ (p0.lists.length : Int)))))], ⟨rfl, rfl, rfl, rfl, rfl, trivial⟩, (dcd (p1.address ≥ (p0.lists.length : Int))), rfl, rfl, rfl, H⟩
  rintro _ _ _ - ⟨t118, rfl, rfl, rfl, H⟩
  unfold M_memory_list_J1 at H
  refine Cw_cond rfl ?_ ?_
  · intro h120
    have H := ift h120 H
    refine Cw_seq ?_
    refine Cw_region ?_
    refine Ow_q rfl rfl rfl (Qt_loadA (m := 3) (cs := (Memory.cells p0 vp0_words vp0_lists)) rfl rfl rfl rfl ⟨rfl, Rdc.blk (.tail _ (.tail _ (.tail _ (.head _)))) rfl⟩) ?_
    refine Ow_q rfl rfl rfl (Qt_build (cs := (Answer.cells (Answer.mk 0 false false []) nilS)) rfl rfl rfl rfl rfl rfl) ?_
    refine Ow_cons rfl (OpW_store (vs := (Memory.cells p0 vp0_words vp0_lists)) (all' := (Memory.cells p0 vp0_words vp0_lists)) rfl rfl rfl rfl rfl (.there .here) rfl rfl rfl ?_)
    refine Ow_cons rfl (OpW_store (vs := (Answer.cells (Answer.mk 0 false false []) nilS)) (all' := (Answer.cells (Answer.mk 0 false false []) nilS)) rfl rfl rfl rfl rfl .here rfl rfl rfl ?_)
    refine Ow_nil ?_
    refine Cw_ret ?_
    obtain ⟨ey0, ey1⟩ := inj2 H
    subst y0 y1
    refine ⟨(by first | exact .inl rfl | exact .inr rfl), [(.agg (Memory.cells p0 vp0_words vp0_lists).toArray), (.agg (Answer.cells (Answer.mk 0 false false []) nilS).toArray)], ⟨(.agg (Memory.cells p0 vp0_words vp0_lists).toArray), _, rfl, ⟨_, 3, (Memory.cells p0 vp0_words vp0_lists), rfl, rfl, rfl, rfl, ⟨rfl, Rdc.blk (.tail _ (.head _)) rfl⟩, rfl⟩, ⟨(.agg (Answer.cells (Answer.mk 0 false false []) nilS).toArray), _, rfl, ⟨_, 4, (Answer.cells (Answer.mk 0 false false []) nilS), rfl, rfl, rfl, rfl, ⟨rfl, Rdc.blk (.head _) rfl⟩, rfl⟩, rfl⟩⟩, ?_⟩
    refine Shift.rem .here ?_
    refine Shift.rem .here ?_
    refine Shift.rem .here ?_
    refine Shift.rem .here ?_
    refine Shift.done ?_
    exact ⟨vp0_words, vp0_lists, nilS, rfl, rfl, hp0_words, hp0_lists, (Slr.nil Ty.i64 _)⟩
  · intro h120
    have H := iff_ (btf h120) H
    refine Cw_skip ?_
    refine Cw_seq ?_
    refine Cw_region ?_
    refine Ow_q rfl rfl rfl (Qt_fieldAddr (m := 1) rfl rfl rfl rfl rfl) ?_
    refine Ow_q rfl rfl rfl (Qt_load1 (v := (sv vp0_lists)) rfl rfl rfl (Rdc.blk (.tail _ (.tail _ (.tail _ (.head _)))) rfl)) ?_
    refine Ow_q rfl rfl rfl (Qt_fieldAddr (m := 1) rfl rfl rfl rfl rfl) ?_
    refine Ow_q rfl rfl rfl (Qt_load1 (v := (.int .i64 p1.address)) rfl rfl rfl (Rdc.blk (.tail _ (.tail _ (.head _))) rfl)) ?_
    obtain ⟨x121, hx122, H⟩ := bnd H
    obtain ⟨r123, hr124, hk125⟩ := Slr.at hp0_lists hx122
    obtain ⟨v126, rfl, hs127⟩ := hr124
    refine Ow_q rfl rfl rfl (Q_ix (T := (Ty.sl Ty.i64)) hp0_lists hx122 rfl rfl rfl rfl rfl) ?_
    refine Ow_q rfl rfl rfl (Qt_load1 (v := (sv v126)) rfl rfl rfl (Rdc.k hk125 rfl)) ?_
    refine Ow_q rfl rfl rfl (Qt_assign rfl) ?_
    refine Ow_nil ?_
    refine Cw_seq ?_
    refine Cw_seq ?_
    refine Cw_region ?_
    refine Ow_q rfl rfl rfl (Qt_fieldAddr (m := 0) rfl rfl rfl rfl rfl) ?_
    refine Ow_q rfl rfl rfl (Qt_load1 (v := (.int .i64 p1.kind)) rfl rfl rfl (Rdc.blk (.tail _ (.tail _ (.head _))) rfl)) ?_
    refine Ow_q rfl rfl rfl (Qt_cmp rfl rfl rfl) ?_
    refine Ow_nil ?_
    refine Cw_cond rfl ?_ ?_
    · intro h129
      have h129 := dcd_t (h129)
      have H := ift h129 H
      refine Cw_seq ?_
      refine Cw_region ?_
      refine Ow_q rfl rfl rfl (Qt_loadA (m := 3) (cs := (Memory.cells p0 vp0_words vp0_lists)) rfl rfl rfl rfl ⟨rfl, Rdc.blk (.tail _ (.tail _ (.tail _ (.head _)))) rfl⟩) ?_
      refine Ow_q rfl rfl rfl (Qt_move rfl) ?_
      refine Ow_q rfl rfl rfl (Qt_build (cs := (Answer.cells (Answer.mk 0 false false x121) v126)) rfl rfl rfl rfl rfl rfl) ?_
      refine Ow_cons rfl (OpW_store (vs := (Memory.cells p0 vp0_words vp0_lists)) (all' := (Memory.cells p0 vp0_words vp0_lists)) rfl rfl rfl rfl rfl (.there .here) rfl rfl rfl ?_)
      refine Ow_cons rfl (OpW_store (vs := (Answer.cells (Answer.mk 0 false false x121) v126)) (all' := (Answer.cells (Answer.mk 0 false false x121) v126)) rfl rfl rfl rfl rfl .here rfl rfl rfl ?_)
      refine Ow_nil ?_
      refine Cw_ret ?_
      obtain ⟨ey0, ey1⟩ := inj2 H
      subst y0 y1
      refine ⟨(by first | exact .inl rfl | exact .inr rfl), [(.agg (Memory.cells p0 vp0_words vp0_lists).toArray), (.agg (Answer.cells (Answer.mk 0 false false x121) v126).toArray)], ⟨(.agg (Memory.cells p0 vp0_words vp0_lists).toArray), _, rfl, ⟨_, 3, (Memory.cells p0 vp0_words vp0_lists), rfl, rfl, rfl, rfl, ⟨rfl, Rdc.blk (.tail _ (.head _)) rfl⟩, rfl⟩, ⟨(.agg (Answer.cells (Answer.mk 0 false false x121) v126).toArray), _, rfl, ⟨_, 4, (Answer.cells (Answer.mk 0 false false x121) v126), rfl, rfl, rfl, rfl, ⟨rfl, Rdc.blk (.head _) rfl⟩, rfl⟩, rfl⟩⟩, ?_⟩
      refine Shift.rem .here ?_
      refine Shift.rem .here ?_
      refine Shift.rem .here ?_
      refine Shift.rem .here ?_
      refine Shift.done ?_
      exact ⟨vp0_words, vp0_lists, v126, rfl, rfl, hp0_words, hp0_lists, hs127⟩
    · intro h129
      have h129 := dcd_f (h129)
      have H := iff_ h129 H
      refine Cw_skip ?_
      refine Cw_seq ?_
      refine Cw_region ?_
      refine Ow_q rfl rfl rfl (Qt_fieldAddr (m := 3) rfl rfl rfl rfl rfl) ?_
      refine Ow_q rfl rfl rfl (Qt_load1 (v := (.int .u64 p1.new)) rfl rfl rfl (Rdc.blk (.tail _ (.tail _ (.head _))) rfl)) ?_
      refine Ow_q rfl rfl rfl (Qt_conv (c := wI p1.new) rfl rfl rfl rfl) ?_
      refine Ow_q rfl rfl rfl (Qt_assign rfl) ?_
      refine Ow_nil ?_
      refine Cw_seq ?_
      refine Cw_region ?_
      refine Ow_q rfl rfl rfl (Qt_move rfl) ?_
      refine Ow_q rfl rfl rfl (Qt_move rfl) ?_
      obtain ⟨x130, hx131, H⟩ := bnd H
      refine Ow_cons rfl (OpW_call rfl Try.call61 rfl rfl (c_M_slices_Index_int_int x121 v126 (wI p1.new) x130 hx131 _ _ hs127) ?_)
      rintro _ K132 _ hK133 ⟨rfl, rfl⟩
      refine Ow_q rfl rfl rfl (Qt_assign rfl) ?_
      refine Ow_nil ?_
      refine Cw_join (fun env' K' G' => ∃ (v166 : SV) (l167 : List Int) (rs169 : List (List Value)), [(2, (.pointer (some ((⟨b110, 0, none⟩ : Addr).add 0)))), (3, (.pointer (some ((⟨b111, 0, none⟩ : Addr).add 0)))), (4, (.pointer (some ((⟨b112, 0, none⟩ : Addr).add 0)))), (5, (.pointer (some ((⟨b113, 0, none⟩ : Addr).add 0)))), (6, (sv v166))] = env' ∧ K132 = K' ∧ (.blk b113 40 (Answer.cells (Answer.mk 0 false false []) nilS)) :: (.blk b112 49 (Memory.cells (Memory.mk [] [] 0) nilS nilS)) :: (.blk b111 24 (Access.cells p1)) :: (.blk b110 49 (Memory.cells p0 vp0_words vp0_lists)) :: (.row (sv v166) 3 1 rs169.flatten) :: G = G' ∧ M_memory_list_J2 p1 p0 l167 = some (y0, y1) ∧ RowR Ty.i64 K' rs169 l167) ?_ ?_
      · skip
        refine Cw_block ?_
        refine Cw_join (fun env' K' G' => ∃ (t172 : Bool), [(2, (.pointer (some ((⟨b110, 0, none⟩ : Addr).add 0)))), (3, (.pointer (some ((⟨b111, 0, none⟩ : Addr).add 0)))), (4, (.pointer (some ((⟨b112, 0, none⟩ : Addr).add 0)))), (5, (.pointer (some ((⟨b113, 0, none⟩ : Addr).add 0)))), (6, (sv v126)), (7, (.int .i64 (wI p1.new))), (8, (.int .i64 x130)), (45, (.bool t172))] = env' ∧ K132 = K' ∧ (.blk b113 40 (Answer.cells (Answer.mk 0 false false []) nilS)) :: (.blk b112 49 (Memory.cells (Memory.mk [] [] 0) nilS nilS)) :: (.blk b111 24 (Access.cells p1)) :: (.blk b110 49 (Memory.cells p0 vp0_words vp0_lists)) :: G = G' ∧ M_memory_list_J3 x121 p1 x130 p0 t172 = some (y0, y1)) ?_ ?_
        · skip
          refine Cw_region ?_
          refine Ow_q rfl rfl rfl (Qt_fieldAddr (m := 0) rfl rfl rfl rfl rfl) ?_
          refine Ow_q rfl rfl rfl (Qt_load1 (v := (.int .i64 p1.kind)) rfl rfl rfl (Rdc.blk (.tail _ (.tail _ (.head _))) rfl)) ?_
          refine Ow_q rfl rfl rfl (Qt_cmp rfl rfl rfl) ?_
          refine Ow_q rfl rfl rfl (Qt_move rfl) ?_
          refine Ow_caseG rfl rfl rfl ?_ ?_
          · intro h173
            have h173 := dcd_t (h173)
            have H := ift h173 H
            refine Ow_qw rfl rfl rfl rfl rfl rfl (Qt_move rfl) ?_
            have hs174 := (hs127).mono hK133
            refine Ow_qw rfl rfl rfl rfl rfl rfl (Q_len (T := Ty.i64) hs174 rfl rfl) ?_
            refine Ow_qw rfl rfl rfl rfl rfl rfl (Qt_cmp rfl rfl rfl) ?_
            refine Ow_q rfl rfl rfl (Qt_pick_t rfl rfl) ?_
            refine Ow_q rfl rfl rfl (Qt_assign rfl) ?_
            refine Ow_nil ?_
            refine Shift.pull (.there (.there (.there .here))) ?_
            refine Shift.pull (.there (.there (.there .here))) ?_
            refine Shift.pull (.there (.there (.there .here))) ?_
            refine Shift.pull (.there (.there (.there .here))) ?_
            refine Shift.done ?_
            exact ⟨[(2, (.pointer (some ((⟨b110, 0, none⟩ : Addr).add 0)))), (3, (.pointer (some ((⟨b111, 0, none⟩ : Addr).add 0)))), (4, (.pointer (some ((⟨b112, 0, none⟩ : Addr).add 0)))), (5, (.pointer (some ((⟨b113, 0, none⟩ : Addr).add 0)))), (6, (sv v126)), (7, (.int .i64 (wI p1.new))), (8, (.int .i64 x130)), (45, (.bool (dcd ((x121.length : Int) < 1000))))], ⟨rfl, rfl, rfl, rfl, rfl, rfl, rfl, rfl, trivial⟩, (dcd ((x121.length : Int) < 1000)), rfl, rfl, rfl, H⟩
          · intro h173
            have h173 := dcd_f (h173)
            have H := iff_ h173 H
            refine Ow_pass rfl rfl rfl rfl rfl rfl rfl ?_
            refine Ow_pass rfl rfl rfl rfl rfl rfl rfl ?_
            refine Ow_pass rfl rfl rfl rfl rfl rfl rfl ?_
            refine Ow_q rfl rfl rfl (Qt_pick_f rfl rfl) ?_
            refine Ow_q rfl rfl rfl (Qt_assign rfl) ?_
            refine Ow_nil ?_
            refine Shift.pull (.there (.there (.there .here))) ?_
            refine Shift.pull (.there (.there (.there .here))) ?_
            refine Shift.pull (.there (.there (.there .here))) ?_
            refine Shift.pull (.there (.there (.there .here))) ?_
            refine Shift.done ?_
            exact ⟨[(2, (.pointer (some ((⟨b110, 0, none⟩ : Addr).add 0)))), (3, (.pointer (some ((⟨b111, 0, none⟩ : Addr).add 0)))), (4, (.pointer (some ((⟨b112, 0, none⟩ : Addr).add 0)))), (5, (.pointer (some ((⟨b113, 0, none⟩ : Addr).add 0)))), (6, (sv v126)), (7, (.int .i64 (wI p1.new))), (8, (.int .i64 x130)), (45, (.bool false))], ⟨rfl, rfl, rfl, rfl, rfl, rfl, rfl, rfl, trivial⟩, false, rfl, rfl, rfl, H⟩
        rintro _ _ _ - ⟨t172, rfl, rfl, rfl, H⟩
        unfold M_memory_list_J3 at H
        refine Cw_cond rfl ?_ ?_
        · intro h175
          have H := ift h175 H
          refine Cw_region ?_
          refine Ow_q rfl rfl rfl (Qt_move rfl) ?_
          obtain ⟨x176, hx177, H⟩ := bnd H
          have hs178 := (hs127).mono hK133
          refine Ow_cons rfl (OpW_call rfl Try.call62 rfl rfl (c_M_slices_Clone_int_int x121 v126 x176 hx177 _ _ hs178) ?_)
          rintro _ _ _ - ⟨v179, rs180, rfl, rfl, rfl, hs181⟩
          refine Ow_q rfl rfl rfl (Qt_move rfl) ?_
          have hR183 : RowR Ty.i64 K132 [[(.int .i64 (wI p1.new))]] [wI p1.new] := RowR.cons rfl (RowR.nil)
          refine Ow_cons rfl (O_lit (T := Ty.i64) (rows := [[(.int .i64 (wI p1.new))]]) (l := [wI p1.new]) rfl rfl rfl hR183 rfl rfl rfl rfl rfl rfl rfl rfl (fun v182 => ?_))
          obtain ⟨x184, hx185, H⟩ := bnd H
          refine Ow_cons rfl (O_appRow (T := Ty.i64) (bytes := 8) rfl rfl rfl (.tail _ (.head _)) hs181 (SrcT.row (.head _) hR183 rfl) hx185 rfl rfl rfl rfl rfl rfl rfl rfl (fun v186 rs187 hR188 => ⟨_, (.there .here), ?_⟩))
          refine Ow.shift (Shift.rem .here (Shift.done ?_))
          refine Ow_q rfl rfl rfl (Qt_assign rfl) ?_
          refine Ow_nil ?_
          refine Shift.pull (.there (.there (.there (.there .here)))) ?_
          refine Shift.pull (.there (.there (.there (.there .here)))) ?_
          refine Shift.pull (.there (.there (.there (.there .here)))) ?_
          refine Shift.pull (.there (.there (.there (.there .here)))) ?_
          refine Shift.done ?_
          exact ⟨[(2, (.pointer (some ((⟨b110, 0, none⟩ : Addr).add 0)))), (3, (.pointer (some ((⟨b111, 0, none⟩ : Addr).add 0)))), (4, (.pointer (some ((⟨b112, 0, none⟩ : Addr).add 0)))), (5, (.pointer (some ((⟨b113, 0, none⟩ : Addr).add 0)))), (6, (sv v186))], ⟨rfl, rfl, rfl, rfl, rfl, trivial⟩, v186, x184, rs187, rfl, rfl, rfl, H, hR188⟩
        · intro h175
          have H := iff_ (btf h175) H
          refine Cw_join (fun env' K' G' => ∃ (t190 : Bool), [(2, (.pointer (some ((⟨b110, 0, none⟩ : Addr).add 0)))), (3, (.pointer (some ((⟨b111, 0, none⟩ : Addr).add 0)))), (4, (.pointer (some ((⟨b112, 0, none⟩ : Addr).add 0)))), (5, (.pointer (some ((⟨b113, 0, none⟩ : Addr).add 0)))), (6, (sv v126)), (8, (.int .i64 x130)), (59, (.bool t190))] = env' ∧ K132 = K' ∧ (.blk b113 40 (Answer.cells (Answer.mk 0 false false []) nilS)) :: (.blk b112 49 (Memory.cells (Memory.mk [] [] 0) nilS nilS)) :: (.blk b111 24 (Access.cells p1)) :: (.blk b110 49 (Memory.cells p0 vp0_words vp0_lists)) :: G = G' ∧ M_memory_list_J4 x121 x130 p1 p0 t190 = some (y0, y1)) ?_ ?_
          · skip
            refine Cw_region ?_
            refine Ow_q rfl rfl rfl (Qt_fieldAddr (m := 0) rfl rfl rfl rfl rfl) ?_
            refine Ow_q rfl rfl rfl (Qt_load1 (v := (.int .i64 p1.kind)) rfl rfl rfl (Rdc.blk (.tail _ (.tail _ (.head _))) rfl)) ?_
            refine Ow_q rfl rfl rfl (Qt_cmp rfl rfl rfl) ?_
            refine Ow_q rfl rfl rfl (Qt_move rfl) ?_
            refine Ow_caseG rfl rfl rfl ?_ ?_
            · intro h191
              have h191 := dcd_t (h191)
              have H := ift h191 H
              refine Ow_qw rfl rfl rfl rfl rfl rfl (Qt_move rfl) ?_
              refine Ow_qw rfl rfl rfl rfl rfl rfl (Qt_cmp rfl rfl rfl) ?_
              refine Ow_q rfl rfl rfl (Qt_pick_t rfl rfl) ?_
              refine Ow_q rfl rfl rfl (Qt_assign rfl) ?_
              refine Ow_nil ?_
              refine Shift.pull (.there (.there (.there .here))) ?_
              refine Shift.pull (.there (.there (.there .here))) ?_
              refine Shift.pull (.there (.there (.there .here))) ?_
              refine Shift.pull (.there (.there (.there .here))) ?_
              refine Shift.done ?_
              exact ⟨[(2, (.pointer (some ((⟨b110, 0, none⟩ : Addr).add 0)))), (3, (.pointer (some ((⟨b111, 0, none⟩ : Addr).add 0)))), (4, (.pointer (some ((⟨b112, 0, none⟩ : Addr).add 0)))), (5, (.pointer (some ((⟨b113, 0, none⟩ : Addr).add 0)))), (6, (sv v126)), (8, (.int .i64 x130)), (59, (.bool (dcd (x130 ≥ 0))))], ⟨rfl, rfl, rfl, rfl, rfl, rfl, rfl, trivial⟩, (dcd (x130 ≥ 0)), rfl, rfl, rfl, H⟩
            · intro h191
              have h191 := dcd_f (h191)
              have H := iff_ h191 H
              refine Ow_pass rfl rfl rfl rfl rfl rfl rfl ?_
              refine Ow_pass rfl rfl rfl rfl rfl rfl rfl ?_
              refine Ow_q rfl rfl rfl (Qt_pick_f rfl rfl) ?_
              refine Ow_q rfl rfl rfl (Qt_assign rfl) ?_
              refine Ow_nil ?_
              refine Shift.pull (.there (.there (.there .here))) ?_
              refine Shift.pull (.there (.there (.there .here))) ?_
              refine Shift.pull (.there (.there (.there .here))) ?_
              refine Shift.pull (.there (.there (.there .here))) ?_
              refine Shift.done ?_
              exact ⟨[(2, (.pointer (some ((⟨b110, 0, none⟩ : Addr).add 0)))), (3, (.pointer (some ((⟨b111, 0, none⟩ : Addr).add 0)))), (4, (.pointer (some ((⟨b112, 0, none⟩ : Addr).add 0)))), (5, (.pointer (some ((⟨b113, 0, none⟩ : Addr).add 0)))), (6, (sv v126)), (8, (.int .i64 x130)), (59, (.bool false))], ⟨rfl, rfl, rfl, rfl, rfl, rfl, rfl, trivial⟩, false, rfl, rfl, rfl, H⟩
          rintro _ _ _ - ⟨t190, rfl, rfl, rfl, H⟩
          unfold M_memory_list_J4 at H
          refine Cw_cond rfl ?_ ?_
          · intro h192
            have H := ift h192 H
            refine Cw_region ?_
            refine Ow_q rfl rfl rfl (Qt_move rfl) ?_
            obtain ⟨x193, hx194, H⟩ := bnd H
            have hs195 := (hs127).mono hK133
            refine Ow_cons rfl (OpW_call rfl Try.call62 rfl rfl (c_M_slices_Clone_int_int x121 v126 x193 hx194 _ _ hs195) ?_)
            rintro _ _ _ - ⟨v196, rs197, rfl, rfl, rfl, hs198⟩
            refine Ow_q rfl rfl rfl (Qt_move rfl) ?_
            refine Ow_q rfl rfl rfl (Qt_move rfl) ?_
            refine Ow_q rfl rfl rfl (Qt_arith (e := wI (x130 + 1)) rfl rfl rfl rfl) ?_
            obtain ⟨x199, hx200, H⟩ := bnd H
            refine Ow_cons rfl (OpW_call rfl Try.call63 rfl rfl (c_M_slices_Delete_int_int x193 v196 rs197 x130 (wI (x130 + 1)) x199 hx200 _ _ hs198) ?_)
            rintro _ _ _ - ⟨v201, rs202, rfl, rfl, rfl, hs203⟩
            refine Ow_q rfl rfl rfl (Qt_assign rfl) ?_
            refine Ow_nil ?_
            refine Shift.pull (.there (.there (.there (.there .here)))) ?_
            refine Shift.pull (.there (.there (.there (.there .here)))) ?_
            refine Shift.pull (.there (.there (.there (.there .here)))) ?_
            refine Shift.pull (.there (.there (.there (.there .here)))) ?_
            refine Shift.done ?_
            exact ⟨[(2, (.pointer (some ((⟨b110, 0, none⟩ : Addr).add 0)))), (3, (.pointer (some ((⟨b111, 0, none⟩ : Addr).add 0)))), (4, (.pointer (some ((⟨b112, 0, none⟩ : Addr).add 0)))), (5, (.pointer (some ((⟨b113, 0, none⟩ : Addr).add 0)))), (6, (sv v201))], ⟨rfl, rfl, rfl, rfl, rfl, trivial⟩, v201, x199, rs202, rfl, rfl, rfl, H, hs203⟩
          · intro h192
            have H := iff_ (btf h192) H
            refine Cw_seq ?_
            refine Cw_region ?_
            refine Ow_q rfl rfl rfl (Qt_loadA (m := 3) (cs := (Memory.cells p0 vp0_words vp0_lists)) rfl rfl rfl rfl ⟨rfl, Rdc.blk (.tail _ (.tail _ (.tail _ (.head _)))) rfl⟩) ?_
            refine Ow_q rfl rfl rfl (Qt_move rfl) ?_
            have hs204 := (hs127).mono hK133
            refine Ow_q rfl rfl rfl (Q_len (T := Ty.i64) hs204 rfl rfl) ?_
            refine Ow_q rfl rfl rfl (Qt_conv (c := wU (x121.length : Int)) rfl rfl rfl rfl) ?_
            refine Ow_q rfl rfl rfl (Qt_build (cs := (Answer.cells (Answer.mk (wU (x121.length : Int)) false false []) nilS)) rfl rfl rfl rfl rfl rfl) ?_
            refine Ow_cons rfl (OpW_store (vs := (Memory.cells p0 vp0_words vp0_lists)) (all' := (Memory.cells p0 vp0_words vp0_lists)) rfl rfl rfl rfl rfl (.there .here) rfl rfl rfl ?_)
            refine Ow_cons rfl (OpW_store (vs := (Answer.cells (Answer.mk (wU (x121.length : Int)) false false []) nilS)) (all' := (Answer.cells (Answer.mk (wU (x121.length : Int)) false false []) nilS)) rfl rfl rfl rfl rfl .here rfl rfl rfl ?_)
            refine Ow_nil ?_
            refine Cw_ret ?_
            obtain ⟨ey0, ey1⟩ := inj2 H
            subst y0 y1
            refine ⟨(by first | exact .inl rfl | exact .inr rfl), [(.agg (Memory.cells p0 vp0_words vp0_lists).toArray), (.agg (Answer.cells (Answer.mk (wU (x121.length : Int)) false false []) nilS).toArray)], ⟨(.agg (Memory.cells p0 vp0_words vp0_lists).toArray), _, rfl, ⟨_, 3, (Memory.cells p0 vp0_words vp0_lists), rfl, rfl, rfl, rfl, ⟨rfl, Rdc.blk (.tail _ (.head _)) rfl⟩, rfl⟩, ⟨(.agg (Answer.cells (Answer.mk (wU (x121.length : Int)) false false []) nilS).toArray), _, rfl, ⟨_, 4, (Answer.cells (Answer.mk (wU (x121.length : Int)) false false []) nilS), rfl, rfl, rfl, rfl, ⟨rfl, Rdc.blk (.head _) rfl⟩, rfl⟩, rfl⟩⟩, ?_⟩
            refine Shift.rem .here ?_
            refine Shift.rem .here ?_
            refine Shift.rem .here ?_
            refine Shift.rem .here ?_
            have hs205 := (hp0_words).mono hK133
            have hs206 := (hp0_lists).mono hK133
            refine Shift.done ?_
            exact ⟨vp0_words, vp0_lists, nilS, rfl, rfl, hs205, hs206, (Slr.nil Ty.i64 _)⟩
      rintro _ _ _ - ⟨v166, l167, rs169, rfl, rfl, rfl, H, hR168⟩
      unfold M_memory_list_J2 at H
      refine Cw_seq ?_
      refine Cw_region ?_
      refine Ow_q rfl rfl rfl (Qt_fieldAddr (m := 1) rfl rfl rfl rfl rfl) ?_
      refine Ow_q rfl rfl rfl (Qt_load1 (v := (sv vp0_lists)) rfl rfl rfl (Rdc.blk (.tail _ (.tail _ (.tail _ (.head _)))) rfl)) ?_
      obtain ⟨x207, hx208, H⟩ := bnd H
      have hs209 := (hp0_lists).mono hK133
      refine Ow_cons rfl (OpW_call rfl Try.call64 rfl rfl (c_M_slices_Clone_int_int_b p0.lists vp0_lists x207 hx208 _ _ hs209) ?_)
      rintro _ _ _ - ⟨v210, rs211, rfl, rfl, rfl, hs212⟩
      refine Ow_q rfl rfl rfl (Qt_fieldAddr (m := 1) rfl rfl rfl rfl rfl) ?_
      refine Ow_cons rfl (OpW_store (vs := [(sv v210)]) (all' := (Memory.cells (Memory.mk p0.words x207 p0.tick) vp0_words v210)) rfl rfl rfl rfl rfl (.there (.there (.there (.there .here)))) rfl rfl rfl ?_)
      refine Ow_nil ?_
      refine Cw_seq ?_
      refine Cw_region ?_
      refine Ow_q rfl rfl rfl (Qt_fieldAddr (m := 1) rfl rfl rfl rfl rfl) ?_
      refine Ow_q rfl rfl rfl (Qt_load1 (v := (sv v210)) rfl rfl rfl (Rdc.blk (.tail _ (.tail _ (.tail _ (.tail _ (.head _))))) rfl)) ?_
      refine Ow_q rfl rfl rfl (Qt_fieldAddr (m := 1) rfl rfl rfl rfl rfl) ?_
      refine Ow_q rfl rfl rfl (Qt_load1 (v := (.int .i64 p1.address)) rfl rfl rfl (Rdc.blk (.tail _ (.tail _ (.tail _ (.head _)))) rfl)) ?_
      refine Ow_q rfl rfl rfl (Qt_move rfl) ?_
      obtain ⟨x213, hx214, H⟩ := bnd H
      obtain ⟨r215, hq216, hr217⟩ := RowR.at hs212 hx214
      obtain ⟨v218, rfl, hs219⟩ := hr217
      refine Ow_q rfl rfl rfl (Q_ixR (T := (Ty.sl Ty.i64)) (.head _) hs212 hq216 (getI_ix hx214).1 rfl rfl rfl rfl rfl) ?_
      refine Ow.shift (Shift.settle (T := Ty.i64) (.there (.there (.there (.there (.there .here))))) hR168 rfl (fun K220 hK221 hs222 => Shift.done ?_))
      have hs223 := (hs212).mono hK221
      refine Ow_cons rfl (O_storeR (T := (Ty.sl Ty.i64)) (vs := [(sv v166)]) (r' := [(sv v166)]) (l' := (setI x207 p1.address l167)) rfl rfl rfl rfl rfl .here hs223 hq216 rfl rfl rfl (RowR.set p1.address hs223 ⟨v166, rfl, hs222⟩) (fun hR224 => ?_))
      have hE225 := set_at hq216 (v := [(sv v166)])
      refine Ow_nil ?_
      refine Cw_seq ?_
      refine Cw_region ?_
      refine Ow_q rfl rfl rfl (Qt_loadA (m := 3) (cs := (Memory.cells (Memory.mk p0.words (setI x207 p1.address l167) p0.tick) vp0_words v210)) rfl rfl rfl rfl ⟨rfl, Rdc.blk (.tail _ (.tail _ (.tail _ (.tail _ (.head _))))) rfl⟩) ?_
      refine Ow_q rfl rfl rfl (Qt_move rfl) ?_
      refine Ow_q rfl rfl rfl (Q_len (T := Ty.i64) hs222 rfl rfl) ?_
      refine Ow_q rfl rfl rfl (Qt_conv (c := wU (l167.length : Int)) rfl rfl rfl rfl) ?_
      refine Ow_q rfl rfl rfl (Qt_build (cs := (Answer.cells (Answer.mk (wU (l167.length : Int)) false false []) nilS)) rfl rfl rfl rfl rfl rfl) ?_
      refine Ow_cons rfl (OpW_store (vs := (Memory.cells (Memory.mk p0.words (setI x207 p1.address l167) p0.tick) vp0_words v210)) (all' := (Memory.cells (Memory.mk p0.words (setI x207 p1.address l167) p0.tick) vp0_words v210)) rfl rfl rfl rfl rfl (.there (.there .here)) rfl rfl rfl ?_)
      refine Ow_cons rfl (OpW_store (vs := (Answer.cells (Answer.mk (wU (l167.length : Int)) false false []) nilS)) (all' := (Answer.cells (Answer.mk (wU (l167.length : Int)) false false []) nilS)) rfl rfl rfl rfl rfl (.there .here) rfl rfl rfl ?_)
      refine Ow_nil ?_
      refine Cw_ret ?_
      obtain ⟨ey0, ey1⟩ := inj2 H
      subst y0 y1
      refine ⟨(by first | exact .inl rfl | exact .inr rfl), [(.agg (Memory.cells (Memory.mk p0.words (setI x207 p1.address l167) p0.tick) vp0_words v210).toArray), (.agg (Answer.cells (Answer.mk (wU (l167.length : Int)) false false []) nilS).toArray)], ⟨(.agg (Memory.cells (Memory.mk p0.words (setI x207 p1.address l167) p0.tick) vp0_words v210).toArray), _, rfl, ⟨_, 3, (Memory.cells (Memory.mk p0.words (setI x207 p1.address l167) p0.tick) vp0_words v210), rfl, rfl, rfl, rfl, ⟨rfl, Rdc.blk (.tail _ (.tail _ (.head _))) rfl⟩, rfl⟩, ⟨(.agg (Answer.cells (Answer.mk (wU (l167.length : Int)) false false []) nilS).toArray), _, rfl, ⟨_, 4, (Answer.cells (Answer.mk (wU (l167.length : Int)) false false []) nilS), rfl, rfl, rfl, rfl, ⟨rfl, Rdc.blk (.tail _ (.head _)) rfl⟩, rfl⟩, rfl⟩⟩, ?_⟩
      refine Shift.settle (T := (Ty.sl Ty.i64)) .here hR224 rfl ?_
      intro K226 hK227 hs228
      refine Shift.rem .here ?_
      refine Shift.rem .here ?_
      refine Shift.rem .here ?_
      refine Shift.rem .here ?_
      refine Shift.rem .here ?_
      refine Shift.rem .here ?_
      have hs229 := (((hp0_words).mono hK133).mono hK221).mono hK227
      refine Shift.done ?_
      exact ⟨vp0_words, v210, nilS, rfl, rfl, hs229, hs228, (Slr.nil Ty.i64 _)⟩

set_option maxHeartbeats 1000000 in
theorem c_M_memory_put (p0 : Memory) (vp0_words : SV) (vp0_lists : SV) (p1 : Int) (p2 : Int) (y0 : Memory) (H : M_memory_put p0 p1 p2 = some y0) (K : Kp) (G : List Ent) (hp0_words : Slr Ty.u64 K (sv vp0_words) p0.words) (hp0_lists : Slr (Ty.sl Ty.i64) K (sv vp0_lists) p0.lists) :
    Fc Try.prog 54 #[(.agg (Memory.cells p0 vp0_words vp0_lists).toArray), (.int .i64 p1), (.int .u64 p2)] K (G) (fun v K' G' => ∃ (wy0_words : SV) (rswy0_words : List (List Value)) (wy0_lists : SV), v = (.agg (Memory.cells y0 wy0_words wy0_lists).toArray) ∧ K = K' ∧ (.row (sv wy0_words) 22 1 rswy0_words.flatten) :: G = G' ∧ RowR Ty.u64 K' rswy0_words y0.words ∧ Slr (Ty.sl Ty.i64) K' (sv wy0_lists) y0.lists) := by
  refine Fc_body Try.func54 rfl Try.ntmps54 Try.results54 rfl ?_
  unfold M_memory_put at H
  refine Cw_seq ?_
  refine Cw_region ?_
  refine Ow_cons rfl (OpW_box (cs := (Memory.cells p0 vp0_words vp0_lists)) rfl rfl rfl (fun b15 => ?_))
  refine Ow_cons rfl (OpW_alloc (cs := (Memory.cells (Memory.mk [] [] 0) nilS nilS)) rfl rfl rfl rfl (fun b16 => ?_))
  refine Ow_nil ?_
  refine Cw_seq ?_
  refine Cw_region ?_
  refine Ow_q rfl rfl rfl (Qt_fieldAddr (m := 0) rfl rfl rfl rfl rfl) ?_
  refine Ow_q rfl rfl rfl (Qt_load1 (v := (sv vp0_words)) rfl rfl rfl (Rdc.blk (.tail _ (.head _)) rfl)) ?_
  obtain ⟨x17, hx18, H⟩ := bnd H
  refine Ow_cons rfl (OpW_call rfl Try.call65 rfl rfl (c_M_slices_Clone_uint64_uint64 p0.words vp0_words x17 hx18 _ _ hp0_words) ?_)
  rintro _ _ _ - ⟨v19, rs20, rfl, rfl, rfl, hs21⟩
  refine Ow_q rfl rfl rfl (Qt_fieldAddr (m := 0) rfl rfl rfl rfl rfl) ?_
  refine Ow_cons rfl (OpW_store (vs := [(sv v19)]) (all' := (Memory.cells (Memory.mk x17 p0.lists p0.tick) v19 vp0_lists)) rfl rfl rfl rfl rfl (.there (.there .here)) rfl rfl rfl ?_)
  refine Ow_nil ?_
  refine Cw_seq ?_
  refine Cw_region ?_
  refine Ow_q rfl rfl rfl (Qt_fieldAddr (m := 0) rfl rfl rfl rfl rfl) ?_
  refine Ow_q rfl rfl rfl (Qt_load1 (v := (sv v19)) rfl rfl rfl (Rdc.blk (.tail _ (.tail _ (.head _))) rfl)) ?_
  refine Ow_q rfl rfl rfl (Qt_move rfl) ?_
  refine Ow_q rfl rfl rfl (Qt_move rfl) ?_
  obtain ⟨x22, hx23, H⟩ := bnd H
  obtain ⟨r24, hq25, hr26⟩ := RowR.at hs21 hx23
  obtain rfl := hr26
  refine Ow_q rfl rfl rfl (Q_ixR (T := Ty.u64) (.head _) hs21 hq25 (getI_ix hx23).1 rfl rfl rfl rfl rfl) ?_
  refine Ow_cons rfl (O_storeR (T := Ty.u64) (vs := [(.int .u64 p2)]) (r' := [(.int .u64 p2)]) (l' := (setI x17 p1 p2)) rfl rfl rfl rfl rfl .here hs21 hq25 rfl rfl rfl (RowR.set p1 hs21 rfl) (fun hR27 => ?_))
  have hE28 := set_at hq25 (v := [(.int .u64 p2)])
  refine Ow_nil ?_
  refine Cw_seq ?_
  refine Cw_region ?_
  refine Ow_q rfl rfl rfl (Qt_loadA (m := 3) (cs := (Memory.cells (Memory.mk (setI x17 p1 p2) p0.lists p0.tick) v19 vp0_lists)) rfl rfl rfl rfl ⟨rfl, Rdc.blk (.tail _ (.tail _ (.head _))) rfl⟩) ?_
  refine Ow_cons rfl (OpW_store (vs := (Memory.cells (Memory.mk (setI x17 p1 p2) p0.lists p0.tick) v19 vp0_lists)) (all' := (Memory.cells (Memory.mk (setI x17 p1 p2) p0.lists p0.tick) v19 vp0_lists)) rfl rfl rfl rfl rfl (.there .here) rfl rfl rfl ?_)
  refine Ow_nil ?_
  refine Cw_ret ?_
  obtain ey0 := inj1 H
  subst y0
  refine ⟨(by first | exact .inl rfl | exact .inr rfl), [(.agg (Memory.cells (Memory.mk (setI x17 p1 p2) p0.lists p0.tick) v19 vp0_lists).toArray)], ⟨(.agg (Memory.cells (Memory.mk (setI x17 p1 p2) p0.lists p0.tick) v19 vp0_lists).toArray), _, rfl, ⟨_, 3, (Memory.cells (Memory.mk (setI x17 p1 p2) p0.lists p0.tick) v19 vp0_lists), rfl, rfl, rfl, rfl, ⟨rfl, Rdc.blk (.tail _ (.head _)) rfl⟩, rfl⟩, rfl⟩, ?_⟩
  refine Shift.rem (.there .here) ?_
  refine Shift.rem (.there .here) ?_
  refine Shift.done ?_
  exact ⟨v19, (rs20.set p1.toNat [(.int .u64 p2)]), vp0_lists, rfl, rfl, rfl, hR27, hp0_lists⟩

set_option maxHeartbeats 1000000 in
theorem c_M_memory_Apply (p0 : Memory) (vp0_words : SV) (vp0_lists : SV) (p1 : Access) (y0 : Memory) (y1 : Answer) (y2 : Bool) (H : M_memory_Apply p0 p1 = some (y0, y1, y2)) (K : Kp) (G : List Ent) (hp0_words : Slr Ty.u64 K (sv vp0_words) p0.words) (hp0_lists : Slr (Ty.sl Ty.i64) K (sv vp0_lists) p0.lists) :
    Fc Try.prog 34 #[(.agg (Memory.cells p0 vp0_words vp0_lists).toArray), (.agg (Access.cells p1).toArray)] K (G) (fun v K' G' => ∃ (wy0_words : SV) (wy0_lists : SV) (wy1_list : SV), v = (.tuple #[(.agg (Memory.cells y0 wy0_words wy0_lists).toArray), (.agg (Answer.cells y1 wy1_list).toArray), (.bool y2)]) ∧ G = G' ∧ Slr Ty.u64 K' (sv wy0_words) y0.words ∧ Slr (Ty.sl Ty.i64) K' (sv wy0_lists) y0.lists ∧ Slr Ty.i64 K' (sv wy1_list) y1.list) := by
  refine Fc_body Try.func34 rfl Try.ntmps34 Try.results34 rfl ?_
  unfold M_memory_Apply at H
  refine Cw_seq ?_
  refine Cw_region ?_
  refine Ow_cons rfl (OpW_box (cs := (Memory.cells p0 vp0_words vp0_lists)) rfl rfl rfl (fun b59 => ?_))
  refine Ow_cons rfl (OpW_box (cs := (Access.cells p1)) rfl rfl rfl (fun b60 => ?_))
  refine Ow_cons rfl (OpW_alloc (cs := (Memory.cells (Memory.mk [] [] 0) nilS nilS)) rfl rfl rfl rfl (fun b61 => ?_))
  refine Ow_cons rfl (OpW_alloc (cs := (Answer.cells (Answer.mk 0 false false []) nilS)) rfl rfl rfl rfl (fun b62 => ?_))
  refine Ow_q rfl rfl rfl (Qt_assign rfl) ?_
  refine Ow_nil ?_
  refine Cw_seq ?_
  refine Cw_seq ?_
  refine Cw_region ?_
  refine Ow_q rfl rfl rfl (Qt_loadA (m := 3) (cs := (Memory.cells p0 vp0_words vp0_lists)) rfl rfl rfl rfl ⟨rfl, Rdc.blk (.tail _ (.tail _ (.tail _ (.head _)))) rfl⟩) ?_
  refine Ow_q rfl rfl rfl (Qt_loadA (m := 5) (cs := (Access.cells p1)) rfl rfl rfl rfl ⟨rfl, Rdc.blk (.tail _ (.tail _ (.head _))) rfl⟩) ?_
  obtain ⟨x66, hx67, H⟩ := bnd H
  refine Ow_cons rfl (OpW_call rfl Try.call36 rfl rfl (c_M_memory_Granted p0 vp0_words vp0_lists p1 x66 hx67 _ _ hp0_words hp0_lists) ?_)
  rintro _ _ _ - ⟨rfl, rfl, rfl⟩
  refine Ow_q rfl rfl rfl (Qt_not rfl) ?_
  refine Ow_nil ?_
  refine Cw_cond rfl ?_ ?_
  · intro h68
    have h68 := nt_t (h68)
    have H := iff_ (btf h68) H
    refine Cw_seq ?_
    refine Cw_region ?_
    refine Ow_q rfl rfl rfl (Qt_loadA (m := 3) (cs := (Memory.cells p0 vp0_words vp0_lists)) rfl rfl rfl rfl ⟨rfl, Rdc.blk (.tail _ (.tail _ (.tail _ (.head _)))) rfl⟩) ?_
    refine Ow_q rfl rfl rfl (Qt_build (cs := (Answer.cells (Answer.mk 0 false false []) nilS)) rfl rfl rfl rfl rfl rfl) ?_
    refine Ow_cons rfl (OpW_store (vs := (Memory.cells p0 vp0_words vp0_lists)) (all' := (Memory.cells p0 vp0_words vp0_lists)) rfl rfl rfl rfl rfl (.there .here) rfl rfl rfl ?_)
    refine Ow_cons rfl (OpW_store (vs := (Answer.cells (Answer.mk 0 false false []) nilS)) (all' := (Answer.cells (Answer.mk 0 false false []) nilS)) rfl rfl rfl rfl rfl .here rfl rfl rfl ?_)
    refine Ow_q rfl rfl rfl (Qt_assign rfl) ?_
    refine Ow_nil ?_
    refine Cw_ret ?_
    obtain ⟨ey0, ey1, ey2⟩ := inj3 H
    subst y0 y1 y2
    refine ⟨(by first | exact .inl rfl | exact .inr rfl), [(.agg (Memory.cells p0 vp0_words vp0_lists).toArray), (.agg (Answer.cells (Answer.mk 0 false false []) nilS).toArray), (.bool false)], ⟨(.agg (Memory.cells p0 vp0_words vp0_lists).toArray), _, rfl, ⟨_, 3, (Memory.cells p0 vp0_words vp0_lists), rfl, rfl, rfl, rfl, ⟨rfl, Rdc.blk (.tail _ (.head _)) rfl⟩, rfl⟩, ⟨(.agg (Answer.cells (Answer.mk 0 false false []) nilS).toArray), _, rfl, ⟨_, 4, (Answer.cells (Answer.mk 0 false false []) nilS), rfl, rfl, rfl, rfl, ⟨rfl, Rdc.blk (.head _) rfl⟩, rfl⟩, ⟨(.bool false), _, rfl, rfl, rfl⟩⟩⟩, ?_⟩
    refine Shift.rem .here ?_
    refine Shift.rem .here ?_
    refine Shift.rem .here ?_
    refine Shift.rem .here ?_
    refine Shift.done ?_
    exact ⟨vp0_words, vp0_lists, nilS, rfl, rfl, hp0_words, hp0_lists, (Slr.nil Ty.i64 _)⟩
  · intro h68
    have h68 := nt_f (h68)
    have H := ift h68 H
    refine Cw_skip ?_
    refine Cw_seq ?_
    refine Cw_seq ?_
    refine Cw_region ?_
    refine Ow_q rfl rfl rfl (Qt_fieldAddr (m := 0) rfl rfl rfl rfl rfl) ?_
    refine Ow_q rfl rfl rfl (Qt_load1 (v := (.int .i64 p1.kind)) rfl rfl rfl (Rdc.blk (.tail _ (.tail _ (.head _))) rfl)) ?_
    refine Ow_q rfl rfl rfl (Qt_cmp rfl rfl rfl) ?_
    refine Ow_nil ?_
    refine Cw_cond rfl ?_ ?_
    · intro h83
      have h83 := dcd_t (h83)
      have H := ift h83 H
      refine Cw_seq ?_
      refine Cw_region ?_
      refine Ow_q rfl rfl rfl (Qt_loadA (m := 3) (cs := (Memory.cells p0 vp0_words vp0_lists)) rfl rfl rfl rfl ⟨rfl, Rdc.blk (.tail _ (.tail _ (.tail _ (.head _)))) rfl⟩) ?_
      refine Ow_q rfl rfl rfl (Qt_loadA (m := 5) (cs := (Access.cells p1)) rfl rfl rfl rfl ⟨rfl, Rdc.blk (.tail _ (.tail _ (.head _))) rfl⟩) ?_
      obtain ⟨x84, x85, hx86, H⟩ := bnd2 H
      refine Ow_cons rfl (OpW_call rfl Try.call52 rfl rfl (c_M_memory_list p0 vp0_words vp0_lists p1 x84 x85 hx86 _ _ hp0_words hp0_lists) ?_)
      rintro _ K90 _ hK91 ⟨v87, v88, v89, rfl, rfl, hs92, hs93, hs94⟩
      refine Ow_q rfl rfl rfl (Qt_move rfl) ?_
      refine Ow_q rfl rfl rfl (Qt_extract rfl rfl) ?_
      refine Ow_q rfl rfl rfl (Qt_extract rfl rfl) ?_
      refine Ow_cons rfl (OpW_alloc (cs := (Memory.cells (Memory.mk [] [] 0) nilS nilS)) rfl rfl rfl rfl (fun b95 => ?_))
      refine Ow_cons rfl (OpW_alloc (cs := (Answer.cells (Answer.mk 0 false false []) nilS)) rfl rfl rfl rfl (fun b96 => ?_))
      refine Ow_cons rfl (OpW_store (vs := (Memory.cells x84 v87 v88)) (all' := (Memory.cells x84 v87 v88)) rfl rfl rfl rfl rfl (.there .here) rfl rfl rfl ?_)
      refine Ow_cons rfl (OpW_store (vs := (Answer.cells x85 v89)) (all' := (Answer.cells x85 v89)) rfl rfl rfl rfl rfl .here rfl rfl rfl ?_)
      refine Ow_nil ?_
      refine Cw_seq ?_
      refine Cw_region_any [.blk b96 40 (Answer.cells x85 v89), .blk b95 49 (Memory.cells x84 v87 v88), .blk b60 24 (Access.cells p1), .blk b59 49 (Memory.cells p0 vp0_words vp0_lists)] rfl (Inc.cons (.head _) (Inc.cons (.tail _ (.head _)) (Inc.cons (.tail _ (.tail _ (.tail _ (.tail _ (.head _))))) (Inc.cons (.tail _ (.tail _ (.tail _ (.tail _ (.tail _ (.head _)))))) Inc.nil)))) ?_
      refine Aw_q 0 rfl (by kernel_rfl) (by kernel_rfl) (by kernel_rfl) rfl rfl rfl (Qt_loadA (m := 3) (cs := (Memory.cells x84 v87 v88)) rfl rfl rfl rfl ⟨rfl, Rdc.blk (.tail _ (.head _)) rfl⟩) ?_
      refine Aw_q 1 rfl (by kernel_rfl) (by kernel_rfl) (by kernel_rfl) rfl rfl rfl (Qt_loadA (m := 4) (cs := (Answer.cells x85 v89)) rfl rfl rfl rfl ⟨rfl, Rdc.blk (.head _) rfl⟩) ?_
      refine Aw_one 2 (by kernel_rfl) (Ax_mk rfl rfl ?_)
      refine OpW_store (vs := (Memory.cells x84 v87 v88)) (all' := (Memory.cells x84 v87 v88)) rfl rfl rfl rfl rfl (.there (.there (.there .here))) rfl rfl rfl ⟨(Inc.cons (.head _) (Inc.cons (.tail _ (.head _)) (Inc.cons (.tail _ (.tail _ (.tail _ (.tail _ (.head _))))) (Inc.cons (.tail _ (.tail _ (.tail _ (.tail _ (.tail _ (.head _)))))) Inc.nil)))), ?_⟩
      refine Aw_one 3 (by kernel_rfl) (Ax_mk rfl rfl ?_)
      refine OpW_store (vs := (Answer.cells x85 v89)) (all' := (Answer.cells x85 v89)) rfl rfl rfl rfl rfl (.there (.there .here)) rfl rfl rfl ⟨(Inc.cons (.head _) (Inc.cons (.tail _ (.head _)) (Inc.cons (.tail _ (.tail _ (.tail _ (.tail _ (.head _))))) (Inc.cons (.tail _ (.tail _ (.tail _ (.tail _ (.tail _ (.head _)))))) Inc.nil)))), ?_⟩
      refine Aw_q 4 rfl (by kernel_rfl) (by kernel_rfl) (by kernel_rfl) rfl rfl rfl (Qt_assign rfl) ?_
      refine Aw_done (by kernel_rfl) ?_
      refine Cw_ret ?_
      obtain ⟨ey0, ey1, ey2⟩ := inj3 H
      subst y0 y1 y2
      refine ⟨(by first | exact .inl rfl | exact .inr rfl), [(.agg (Memory.cells x84 v87 v88).toArray), (.agg (Answer.cells x85 v89).toArray), (.bool true)], ⟨(.agg (Memory.cells x84 v87 v88).toArray), _, rfl, ⟨_, 3, (Memory.cells x84 v87 v88), rfl, rfl, rfl, rfl, ⟨rfl, Rdc.blk (.tail _ (.tail _ (.tail _ (.head _)))) rfl⟩, rfl⟩, ⟨(.agg (Answer.cells x85 v89).toArray), _, rfl, ⟨_, 4, (Answer.cells x85 v89), rfl, rfl, rfl, rfl, ⟨rfl, Rdc.blk (.tail _ (.tail _ (.head _))) rfl⟩, rfl⟩, ⟨(.bool true), _, rfl, rfl, rfl⟩⟩⟩, ?_⟩
      refine Shift.rem .here ?_
      refine Shift.rem .here ?_
      refine Shift.rem .here ?_
      refine Shift.rem .here ?_
      refine Shift.rem .here ?_
      refine Shift.rem .here ?_
      refine Shift.done ?_
      exact ⟨v87, v88, v89, rfl, rfl, hs92, hs93, hs94⟩
    · intro h83
      have h83 := dcd_f (h83)
      have H := iff_ h83 H
      refine Cw_skip ?_
      refine Cw_seq ?_
      refine Cw_region ?_
      refine Ow_q rfl rfl rfl (Qt_loadA (m := 3) (cs := (Memory.cells p0 vp0_words vp0_lists)) rfl rfl rfl rfl ⟨rfl, Rdc.blk (.tail _ (.tail _ (.tail _ (.head _)))) rfl⟩) ?_
      refine Ow_q rfl rfl rfl (Qt_fieldAddr (m := 1) rfl rfl rfl rfl rfl) ?_
      refine Ow_q rfl rfl rfl (Qt_load1 (v := (.int .i64 p1.address)) rfl rfl rfl (Rdc.blk (.tail _ (.tail _ (.head _))) rfl)) ?_
      obtain ⟨x97, x98, hx99, H⟩ := bnd2 H
      refine Ow_cons rfl (OpW_call rfl Try.call53 rfl rfl (c_M_memory_word p0 vp0_words vp0_lists p1.address x97 x98 hx99 _ _ hp0_words hp0_lists) ?_)
      rintro _ _ _ - ⟨rfl, rfl, rfl⟩
      refine Ow_q rfl rfl rfl (Qt_move rfl) ?_
      refine Ow_q rfl rfl rfl (Qt_extract rfl rfl) ?_
      refine Ow_q rfl rfl rfl (Qt_extract rfl rfl) ?_
      refine Ow_q rfl rfl rfl (Qt_assign rfl) ?_
      refine Ow_q rfl rfl rfl (Qt_assign rfl) ?_
      refine Ow_nil ?_
      refine Cw_seq ?_
      refine Cw_seq ?_
      refine Cw_region ?_
      refine Ow_q rfl rfl rfl (Qt_move rfl) ?_
      refine Ow_q rfl rfl rfl (Qt_not rfl) ?_
      refine Ow_nil ?_
      refine Cw_cond rfl ?_ ?_
      · intro h101
        have h101 := nt_t (h101)
        have H := iff_ (btf h101) H
        refine Cw_seq ?_
        refine Cw_region ?_
        refine Ow_q rfl rfl rfl (Qt_loadA (m := 3) (cs := (Memory.cells p0 vp0_words vp0_lists)) rfl rfl rfl rfl ⟨rfl, Rdc.blk (.tail _ (.tail _ (.tail _ (.head _)))) rfl⟩) ?_
        refine Ow_q rfl rfl rfl (Qt_build (cs := (Answer.cells (Answer.mk 0 false false []) nilS)) rfl rfl rfl rfl rfl rfl) ?_
        refine Ow_cons rfl (OpW_store (vs := (Memory.cells p0 vp0_words vp0_lists)) (all' := (Memory.cells p0 vp0_words vp0_lists)) rfl rfl rfl rfl rfl (.there .here) rfl rfl rfl ?_)
        refine Ow_cons rfl (OpW_store (vs := (Answer.cells (Answer.mk 0 false false []) nilS)) (all' := (Answer.cells (Answer.mk 0 false false []) nilS)) rfl rfl rfl rfl rfl .here rfl rfl rfl ?_)
        refine Ow_q rfl rfl rfl (Qt_assign rfl) ?_
        refine Ow_nil ?_
        refine Cw_ret ?_
        obtain ⟨ey0, ey1, ey2⟩ := inj3 H
        subst y0 y1 y2
        refine ⟨(by first | exact .inl rfl | exact .inr rfl), [(.agg (Memory.cells p0 vp0_words vp0_lists).toArray), (.agg (Answer.cells (Answer.mk 0 false false []) nilS).toArray), (.bool true)], ⟨(.agg (Memory.cells p0 vp0_words vp0_lists).toArray), _, rfl, ⟨_, 3, (Memory.cells p0 vp0_words vp0_lists), rfl, rfl, rfl, rfl, ⟨rfl, Rdc.blk (.tail _ (.head _)) rfl⟩, rfl⟩, ⟨(.agg (Answer.cells (Answer.mk 0 false false []) nilS).toArray), _, rfl, ⟨_, 4, (Answer.cells (Answer.mk 0 false false []) nilS), rfl, rfl, rfl, rfl, ⟨rfl, Rdc.blk (.head _) rfl⟩, rfl⟩, ⟨(.bool true), _, rfl, rfl, rfl⟩⟩⟩, ?_⟩
        refine Shift.rem .here ?_
        refine Shift.rem .here ?_
        refine Shift.rem .here ?_
        refine Shift.rem .here ?_
        refine Shift.done ?_
        exact ⟨vp0_words, vp0_lists, nilS, rfl, rfl, hp0_words, hp0_lists, (Slr.nil Ty.i64 _)⟩
      · intro h101
        have h101 := nt_f (h101)
        have H := ift h101 H
        refine Cw_skip ?_
        refine Cw_join (fun env' K' G' => [(2, (.pointer (some ((⟨b59, 0, none⟩ : Addr).add 0)))), (4, (.pointer (some ((⟨b61, 0, none⟩ : Addr).add 0)))), (5, (.pointer (some ((⟨b62, 0, none⟩ : Addr).add 0)))), (9, (.int .u64 x97))] = env' ∧ K = K' ∧ (.blk b62 40 (Answer.cells (Answer.mk 0 false false []) nilS)) :: (.blk b61 49 (Memory.cells (Memory.mk [] [] 0) nilS nilS)) :: (.blk b59 49 (Memory.cells p0 vp0_words vp0_lists)) :: G = G' ∧ M_memory_Apply_J1 x97 p0 = some (y0, y1, y2)) ?_ ?_
        · skip
          refine Cw_seq ?_
          refine Cw_region ?_
          refine Ow_q rfl rfl rfl (Qt_fieldAddr (m := 0) rfl rfl rfl rfl rfl) ?_
          refine Ow_q rfl rfl rfl (Qt_load1 (v := (.int .i64 p1.kind)) rfl rfl rfl (Rdc.blk (.tail _ (.tail _ (.head _))) rfl)) ?_
          refine Ow_nil ?_
          refine Cw_block ?_
          refine Cw_join (fun env' K' G' => ∃ (t123 : Bool), [(2, (.pointer (some ((⟨b59, 0, none⟩ : Addr).add 0)))), (3, (.pointer (some ((⟨b60, 0, none⟩ : Addr).add 0)))), (4, (.pointer (some ((⟨b61, 0, none⟩ : Addr).add 0)))), (5, (.pointer (some ((⟨b62, 0, none⟩ : Addr).add 0)))), (9, (.int .u64 x97)), (40, (.int .i64 p1.kind)), (41, (.bool t123))] = env' ∧ K = K' ∧ (.blk b62 40 (Answer.cells (Answer.mk 0 false false []) nilS)) :: (.blk b61 49 (Memory.cells (Memory.mk [] [] 0) nilS nilS)) :: (.blk b60 24 (Access.cells p1)) :: (.blk b59 49 (Memory.cells p0 vp0_words vp0_lists)) :: G = G' ∧ M_memory_Apply_J2 x97 p1 p0 t123 = some (y0, y1, y2)) ?_ ?_
          · skip
            refine Cw_seq ?_
            refine Cw_region ?_
            refine Ow_q rfl rfl rfl (Qt_cmp rfl rfl rfl) ?_
            refine Ow_q rfl rfl rfl (Qt_assign rfl) ?_
            refine Ow_nil ?_
            refine Cw_cond rfl ?_ ?_
            · intro h124
              have h124 := dcd_t (h124)
              have H := ift h124 H
              refine Cw_skip ?_
              refine Shift.pull (.there (.there (.there .here))) ?_
              refine Shift.pull (.there (.there (.there .here))) ?_
              refine Shift.pull (.there (.there (.there .here))) ?_
              refine Shift.pull (.there (.there (.there .here))) ?_
              refine Shift.done ?_
              exact ⟨[(2, (.pointer (some ((⟨b59, 0, none⟩ : Addr).add 0)))), (3, (.pointer (some ((⟨b60, 0, none⟩ : Addr).add 0)))), (4, (.pointer (some ((⟨b61, 0, none⟩ : Addr).add 0)))), (5, (.pointer (some ((⟨b62, 0, none⟩ : Addr).add 0)))), (9, (.int .u64 x97)), (40, (.int .i64 p1.kind)), (41, (.bool (dcd (p1.kind = 2))))], ⟨rfl, rfl, rfl, rfl, rfl, rfl, rfl, trivial⟩, (dcd (p1.kind = 2)), rfl, rfl, rfl, H⟩
            · intro h124
              have h124 := dcd_f (h124)
              have H := iff_ h124 H
              refine Cw_region ?_
              refine Ow_q rfl rfl rfl (Qt_cmp rfl rfl rfl) ?_
              refine Ow_q rfl rfl rfl (Qt_assign rfl) ?_
              refine Ow_nil ?_
              refine Shift.pull (.there (.there (.there .here))) ?_
              refine Shift.pull (.there (.there (.there .here))) ?_
              refine Shift.pull (.there (.there (.there .here))) ?_
              refine Shift.pull (.there (.there (.there .here))) ?_
              refine Shift.done ?_
              exact ⟨[(2, (.pointer (some ((⟨b59, 0, none⟩ : Addr).add 0)))), (3, (.pointer (some ((⟨b60, 0, none⟩ : Addr).add 0)))), (4, (.pointer (some ((⟨b61, 0, none⟩ : Addr).add 0)))), (5, (.pointer (some ((⟨b62, 0, none⟩ : Addr).add 0)))), (9, (.int .u64 x97)), (40, (.int .i64 p1.kind)), (41, (.bool (dcd (p1.kind = 6))))], ⟨rfl, rfl, rfl, rfl, rfl, rfl, rfl, trivial⟩, (dcd (p1.kind = 6)), rfl, rfl, rfl, H⟩
          rintro _ _ _ - ⟨t123, rfl, rfl, rfl, H⟩
          unfold M_memory_Apply_J2 at H
          refine Cw_cond rfl ?_ ?_
          · intro h125
            have H := ift h125 H
            refine Cw_seq ?_
            refine Cw_region ?_
            refine Ow_q rfl rfl rfl (Qt_loadA (m := 3) (cs := (Memory.cells p0 vp0_words vp0_lists)) rfl rfl rfl rfl ⟨rfl, Rdc.blk (.tail _ (.tail _ (.tail _ (.head _)))) rfl⟩) ?_
            refine Ow_q rfl rfl rfl (Qt_fieldAddr (m := 1) rfl rfl rfl rfl rfl) ?_
            refine Ow_q rfl rfl rfl (Qt_load1 (v := (.int .i64 p1.address)) rfl rfl rfl (Rdc.blk (.tail _ (.tail _ (.head _))) rfl)) ?_
            refine Ow_q rfl rfl rfl (Qt_fieldAddr (m := 3) rfl rfl rfl rfl rfl) ?_
            refine Ow_q rfl rfl rfl (Qt_load1 (v := (.int .u64 p1.new)) rfl rfl rfl (Rdc.blk (.tail _ (.tail _ (.head _))) rfl)) ?_
            obtain ⟨x126, hx127, H⟩ := bnd H
            refine Ow_cons rfl (OpW_call rfl Try.call54 rfl rfl (c_M_memory_put p0 vp0_words vp0_lists p1.address p1.new x126 hx127 _ _ hp0_words hp0_lists) ?_)
            rintro _ _ _ - ⟨v128, rs129, v130, rfl, rfl, rfl, hs131, hs132⟩
            refine Ow_q rfl rfl rfl (Qt_build (cs := (Answer.cells (Answer.mk 0 false false []) nilS)) rfl rfl rfl rfl rfl rfl) ?_
            refine Ow_cons rfl (OpW_store (vs := (Memory.cells x126 v128 v130)) (all' := (Memory.cells x126 v128 v130)) rfl rfl rfl rfl rfl (.there (.there .here)) rfl rfl rfl ?_)
            refine Ow_cons rfl (OpW_store (vs := (Answer.cells (Answer.mk 0 false false []) nilS)) (all' := (Answer.cells (Answer.mk 0 false false []) nilS)) rfl rfl rfl rfl rfl (.there .here) rfl rfl rfl ?_)
            refine Ow_q rfl rfl rfl (Qt_assign rfl) ?_
            refine Ow_nil ?_
            refine Cw_ret ?_
            obtain ⟨ey0, ey1, ey2⟩ := inj3 H
            subst y0 y1 y2
            refine ⟨(by first | exact .inl rfl | exact .inr rfl), [(.agg (Memory.cells x126 v128 v130).toArray), (.agg (Answer.cells (Answer.mk 0 false false []) nilS).toArray), (.bool true)], ⟨(.agg (Memory.cells x126 v128 v130).toArray), _, rfl, ⟨_, 3, (Memory.cells x126 v128 v130), rfl, rfl, rfl, rfl, ⟨rfl, Rdc.blk (.tail _ (.tail _ (.head _))) rfl⟩, rfl⟩, ⟨(.agg (Answer.cells (Answer.mk 0 false false []) nilS).toArray), _, rfl, ⟨_, 4, (Answer.cells (Answer.mk 0 false false []) nilS), rfl, rfl, rfl, rfl, ⟨rfl, Rdc.blk (.tail _ (.head _)) rfl⟩, rfl⟩, ⟨(.bool true), _, rfl, rfl, rfl⟩⟩⟩, ?_⟩
            refine Shift.settle (T := Ty.u64) .here hs131 rfl ?_
            intro K133 hK134 hs135
            refine Shift.rem .here ?_
            refine Shift.rem .here ?_
            refine Shift.rem .here ?_
            refine Shift.rem .here ?_
            refine Shift.rem .here ?_
            have hs136 := (hs132).mono hK134
            refine Shift.done ?_
            exact ⟨v128, v130, nilS, rfl, rfl, hs135, hs136, (Slr.nil Ty.i64 _)⟩
          · intro h125
            have H := iff_ (btf h125) H
            refine Cw_seq ?_
            refine Cw_region ?_
            refine Ow_q rfl rfl rfl (Qt_cmp rfl rfl rfl) ?_
            refine Ow_q rfl rfl rfl (Qt_assign rfl) ?_
            refine Ow_nil ?_
            refine Cw_cond rfl ?_ ?_
            · intro h137
              have h137 := dcd_t (h137)
              have H := ift h137 H
              refine Cw_seq ?_
              refine Cw_region ?_
              refine Ow_q rfl rfl rfl (Qt_move rfl) ?_
              refine Ow_q rfl rfl rfl (Qt_fieldAddr (m := 2) rfl rfl rfl rfl rfl) ?_
              refine Ow_q rfl rfl rfl (Qt_load1 (v := (.int .u64 p1.old)) rfl rfl rfl (Rdc.blk (.tail _ (.tail _ (.head _))) rfl)) ?_
              refine Ow_q rfl rfl rfl (Qt_cmp rfl rfl rfl) ?_
              refine Ow_nil ?_
              refine Cw_cond rfl ?_ ?_
              · intro h138
                have h138 := dcd_t (h138)
                have H := ift h138 H
                refine Cw_seq ?_
                refine Cw_region ?_
                refine Ow_q rfl rfl rfl (Qt_loadA (m := 3) (cs := (Memory.cells p0 vp0_words vp0_lists)) rfl rfl rfl rfl ⟨rfl, Rdc.blk (.tail _ (.tail _ (.tail _ (.head _)))) rfl⟩) ?_
                refine Ow_q rfl rfl rfl (Qt_fieldAddr (m := 1) rfl rfl rfl rfl rfl) ?_
                refine Ow_q rfl rfl rfl (Qt_load1 (v := (.int .i64 p1.address)) rfl rfl rfl (Rdc.blk (.tail _ (.tail _ (.head _))) rfl)) ?_
                refine Ow_q rfl rfl rfl (Qt_fieldAddr (m := 3) rfl rfl rfl rfl rfl) ?_
                refine Ow_q rfl rfl rfl (Qt_load1 (v := (.int .u64 p1.new)) rfl rfl rfl (Rdc.blk (.tail _ (.tail _ (.head _))) rfl)) ?_
                obtain ⟨x139, hx140, H⟩ := bnd H
                refine Ow_cons rfl (OpW_call rfl Try.call54 rfl rfl (c_M_memory_put p0 vp0_words vp0_lists p1.address p1.new x139 hx140 _ _ hp0_words hp0_lists) ?_)
                rintro _ _ _ - ⟨v141, rs142, v143, rfl, rfl, rfl, hs144, hs145⟩
                refine Ow_q rfl rfl rfl (Qt_move rfl) ?_
                refine Ow_q rfl rfl rfl (Qt_build (cs := (Answer.cells (Answer.mk x97 true false []) nilS)) rfl rfl rfl rfl rfl rfl) ?_
                refine Ow_cons rfl (OpW_store (vs := (Memory.cells x139 v141 v143)) (all' := (Memory.cells x139 v141 v143)) rfl rfl rfl rfl rfl (.there (.there .here)) rfl rfl rfl ?_)
                refine Ow_cons rfl (OpW_store (vs := (Answer.cells (Answer.mk x97 true false []) nilS)) (all' := (Answer.cells (Answer.mk x97 true false []) nilS)) rfl rfl rfl rfl rfl (.there .here) rfl rfl rfl ?_)
                refine Ow_q rfl rfl rfl (Qt_assign rfl) ?_
                refine Ow_nil ?_
                refine Cw_ret ?_
                obtain ⟨ey0, ey1, ey2⟩ := inj3 H
                subst y0 y1 y2
                refine ⟨(by first | exact .inl rfl | exact .inr rfl), [(.agg (Memory.cells x139 v141 v143).toArray), (.agg (Answer.cells (Answer.mk x97 true false []) nilS).toArray), (.bool true)], ⟨(.agg (Memory.cells x139 v141 v143).toArray), _, rfl, ⟨_, 3, (Memory.cells x139 v141 v143), rfl, rfl, rfl, rfl, ⟨rfl, Rdc.blk (.tail _ (.tail _ (.head _))) rfl⟩, rfl⟩, ⟨(.agg (Answer.cells (Answer.mk x97 true false []) nilS).toArray), _, rfl, ⟨_, 4, (Answer.cells (Answer.mk x97 true false []) nilS), rfl, rfl, rfl, rfl, ⟨rfl, Rdc.blk (.tail _ (.head _)) rfl⟩, rfl⟩, ⟨(.bool true), _, rfl, rfl, rfl⟩⟩⟩, ?_⟩
                refine Shift.settle (T := Ty.u64) .here hs144 rfl ?_
                intro K146 hK147 hs148
                refine Shift.rem .here ?_
                refine Shift.rem .here ?_
                refine Shift.rem .here ?_
                refine Shift.rem .here ?_
                refine Shift.rem .here ?_
                have hs149 := (hs145).mono hK147
                refine Shift.done ?_
                exact ⟨v141, v143, nilS, rfl, rfl, hs148, hs149, (Slr.nil Ty.i64 _)⟩
              · intro h138
                have h138 := dcd_f (h138)
                have H := iff_ h138 H
                refine Cw_skip ?_
                refine Shift.pull (.there (.there (.there .here))) ?_
                refine Shift.pull (.there (.there .here)) ?_
                refine Shift.pull (.there (.there .here)) ?_
                refine Shift.rem (.there (.there (.there .here))) ?_
                refine Shift.done ?_
                exact ⟨[(2, (.pointer (some ((⟨b59, 0, none⟩ : Addr).add 0)))), (4, (.pointer (some ((⟨b61, 0, none⟩ : Addr).add 0)))), (5, (.pointer (some ((⟨b62, 0, none⟩ : Addr).add 0)))), (9, (.int .u64 x97))], ⟨rfl, rfl, rfl, rfl, trivial⟩, rfl, rfl, rfl, H⟩
            · intro h137
              have h137 := dcd_f (h137)
              have H := iff_ h137 H
              refine Cw_seq ?_
              refine Cw_region ?_
              refine Ow_q rfl rfl rfl (Qt_cmp rfl rfl rfl) ?_
              refine Ow_q rfl rfl rfl (Qt_assign rfl) ?_
              refine Ow_nil ?_
              refine Cw_cond rfl ?_ ?_
              · intro h150
                have h150 := dcd_t (h150)
                have H := ift h150 H
                refine Cw_seq ?_
                refine Cw_region_any [.blk b60 24 (Access.cells p1), .blk b59 49 (Memory.cells p0 vp0_words vp0_lists)] rfl (Inc.cons (.tail _ (.tail _ (.head _))) (Inc.cons (.tail _ (.tail _ (.tail _ (.head _)))) Inc.nil)) ?_
                refine Aw_q 0 rfl (by kernel_rfl) (by kernel_rfl) (by kernel_rfl) rfl rfl rfl (Qt_loadA (m := 3) (cs := (Memory.cells p0 vp0_words vp0_lists)) rfl rfl rfl rfl ⟨rfl, Rdc.blk (.tail _ (.head _)) rfl⟩) ?_
                refine Aw_q 1 rfl (by kernel_rfl) (by kernel_rfl) (by kernel_rfl) rfl rfl rfl (Qt_move rfl) ?_
                refine Aw_q 2 rfl (by kernel_rfl) (by kernel_rfl) (by kernel_rfl) rfl rfl rfl (Qt_move rfl) ?_
                refine Aw_q 3 rfl (by kernel_rfl) (by kernel_rfl) (by kernel_rfl) rfl rfl rfl (Qt_fieldAddr (m := 2) rfl rfl rfl rfl rfl) ?_
                refine Aw_q 4 rfl (by kernel_rfl) (by kernel_rfl) (by kernel_rfl) rfl rfl rfl (Qt_load1 (v := (.int .u64 p1.old)) rfl rfl rfl (Rdc.blk (.head _) rfl)) ?_
                refine Aw_q 5 rfl (by kernel_rfl) (by kernel_rfl) (by kernel_rfl) rfl rfl rfl (Qt_cmp rfl rfl rfl) ?_
                refine Aw_q 6 rfl (by kernel_rfl) (by kernel_rfl) (by kernel_rfl) rfl rfl rfl (Qt_build (cs := (Answer.cells (Answer.mk x97 false (dcd (x97 = p1.old)) []) nilS)) rfl rfl rfl rfl rfl rfl) ?_
                refine Aw_one 7 (by kernel_rfl) (Ax_mk rfl rfl ?_)
                refine OpW_store (vs := (Memory.cells p0 vp0_words vp0_lists)) (all' := (Memory.cells p0 vp0_words vp0_lists)) rfl rfl rfl rfl rfl (.there .here) rfl rfl rfl ⟨(Inc.cons (.tail _ (.tail _ (.head _))) (Inc.cons (.tail _ (.tail _ (.tail _ (.head _)))) Inc.nil)), ?_⟩
                refine Aw_one 8 (by kernel_rfl) (Ax_mk rfl rfl ?_)
                refine OpW_store (vs := (Answer.cells (Answer.mk x97 false (dcd (x97 = p1.old)) []) nilS)) (all' := (Answer.cells (Answer.mk x97 false (dcd (x97 = p1.old)) []) nilS)) rfl rfl rfl rfl rfl .here rfl rfl rfl ⟨(Inc.cons (.tail _ (.tail _ (.head _))) (Inc.cons (.tail _ (.tail _ (.tail _ (.head _)))) Inc.nil)), ?_⟩
                refine Aw_q 9 rfl (by kernel_rfl) (by kernel_rfl) (by kernel_rfl) rfl rfl rfl (Qt_assign rfl) ?_
                refine Aw_done (by kernel_rfl) ?_
                refine Cw_ret ?_
                obtain ⟨ey0, ey1, ey2⟩ := inj3 H
                subst y0 y1 y2
                refine ⟨(by first | exact .inl rfl | exact .inr rfl), [(.agg (Memory.cells p0 vp0_words vp0_lists).toArray), (.agg (Answer.cells (Answer.mk x97 false (dcd (x97 = p1.old)) []) nilS).toArray), (.bool true)], ⟨(.agg (Memory.cells p0 vp0_words vp0_lists).toArray), _, rfl, ⟨_, 3, (Memory.cells p0 vp0_words vp0_lists), rfl, rfl, rfl, rfl, ⟨rfl, Rdc.blk (.tail _ (.head _)) rfl⟩, rfl⟩, ⟨(.agg (Answer.cells (Answer.mk x97 false (dcd (x97 = p1.old)) []) nilS).toArray), _, rfl, ⟨_, 4, (Answer.cells (Answer.mk x97 false (dcd (x97 = p1.old)) []) nilS), rfl, rfl, rfl, rfl, ⟨rfl, Rdc.blk (.head _) rfl⟩, rfl⟩, ⟨(.bool true), _, rfl, rfl, rfl⟩⟩⟩, ?_⟩
                refine Shift.rem .here ?_
                refine Shift.rem .here ?_
                refine Shift.rem .here ?_
                refine Shift.rem .here ?_
                refine Shift.done ?_
                exact ⟨vp0_words, vp0_lists, nilS, rfl, rfl, hp0_words, hp0_lists, (Slr.nil Ty.i64 _)⟩
              · intro h150
                have h150 := dcd_f (h150)
                have H := iff_ h150 H
                refine Cw_skip ?_
                refine Shift.pull (.there (.there (.there .here))) ?_
                refine Shift.pull (.there (.there .here)) ?_
                refine Shift.pull (.there (.there .here)) ?_
                refine Shift.rem (.there (.there (.there .here))) ?_
                refine Shift.done ?_
                exact ⟨[(2, (.pointer (some ((⟨b59, 0, none⟩ : Addr).add 0)))), (4, (.pointer (some ((⟨b61, 0, none⟩ : Addr).add 0)))), (5, (.pointer (some ((⟨b62, 0, none⟩ : Addr).add 0)))), (9, (.int .u64 x97))], ⟨rfl, rfl, rfl, rfl, trivial⟩, rfl, rfl, rfl, H⟩
        rintro _ _ _ - ⟨rfl, rfl, rfl, H⟩
        unfold M_memory_Apply_J1 at H
        refine Cw_seq ?_
        refine Cw_region ?_
        refine Ow_q rfl rfl rfl (Qt_loadA (m := 3) (cs := (Memory.cells p0 vp0_words vp0_lists)) rfl rfl rfl rfl ⟨rfl, Rdc.blk (.tail _ (.tail _ (.head _))) rfl⟩) ?_
        refine Ow_q rfl rfl rfl (Qt_move rfl) ?_
        refine Ow_q rfl rfl rfl (Qt_build (cs := (Answer.cells (Answer.mk x97 false false []) nilS)) rfl rfl rfl rfl rfl rfl) ?_
        refine Ow_cons rfl (OpW_store (vs := (Memory.cells p0 vp0_words vp0_lists)) (all' := (Memory.cells p0 vp0_words vp0_lists)) rfl rfl rfl rfl rfl (.there .here) rfl rfl rfl ?_)
        refine Ow_cons rfl (OpW_store (vs := (Answer.cells (Answer.mk x97 false false []) nilS)) (all' := (Answer.cells (Answer.mk x97 false false []) nilS)) rfl rfl rfl rfl rfl .here rfl rfl rfl ?_)
        refine Ow_q rfl rfl rfl (Qt_assign rfl) ?_
        refine Ow_nil ?_
        refine Cw_ret ?_
        obtain ⟨ey0, ey1, ey2⟩ := inj3 H
        subst y0 y1 y2
        refine ⟨(by first | exact .inl rfl | exact .inr rfl), [(.agg (Memory.cells p0 vp0_words vp0_lists).toArray), (.agg (Answer.cells (Answer.mk x97 false false []) nilS).toArray), (.bool true)], ⟨(.agg (Memory.cells p0 vp0_words vp0_lists).toArray), _, rfl, ⟨_, 3, (Memory.cells p0 vp0_words vp0_lists), rfl, rfl, rfl, rfl, ⟨rfl, Rdc.blk (.tail _ (.head _)) rfl⟩, rfl⟩, ⟨(.agg (Answer.cells (Answer.mk x97 false false []) nilS).toArray), _, rfl, ⟨_, 4, (Answer.cells (Answer.mk x97 false false []) nilS), rfl, rfl, rfl, rfl, ⟨rfl, Rdc.blk (.head _) rfl⟩, rfl⟩, ⟨(.bool true), _, rfl, rfl, rfl⟩⟩⟩, ?_⟩
        refine Shift.rem .here ?_
        refine Shift.rem .here ?_
        refine Shift.rem .here ?_
        refine Shift.done ?_
        exact ⟨vp0_words, vp0_lists, nilS, rfl, rfl, hp0_words, hp0_lists, (Slr.nil Ty.i64 _)⟩

set_option maxHeartbeats 1000000 in
theorem c_M_memory_Writes (p0 : Int) (y0 : Bool) (H : M_memory_Writes p0 = some y0) (K : Kp) (G : List Ent)  :
    Fc Try.prog 42 #[(.int .i64 p0)] K (G) (fun v K' G' => v = (.bool y0) ∧ K = K' ∧ G = G') := by
  refine Fc_body Try.func42 rfl Try.ntmps42 Try.results42 rfl ?_
  unfold M_memory_Writes at H
  refine Cw_seq ?_
  refine Cw_region ?_
  refine Ow_q rfl rfl rfl (Qt_assign rfl) ?_
  refine Ow_nil ?_
  refine Cw_seq ?_
  refine Cw_seq ?_
  refine Cw_region ?_
  refine Ow_q rfl rfl rfl (Qt_move rfl) ?_
  refine Ow_nil ?_
  refine Cw_block ?_
  refine Cw_join (fun env' K' G' => ∃ (t17 : Bool), [(4, (.bool t17))] = env' ∧ K = K' ∧ G = G' ∧ M_memory_Writes_J1 t17 = some y0) ?_ ?_
  · skip
    refine Cw_seq ?_
    refine Cw_region ?_
    refine Ow_q rfl rfl rfl (Qt_cmp rfl rfl rfl) ?_
    refine Ow_q rfl rfl rfl (Qt_assign rfl) ?_
    refine Ow_nil ?_
    refine Cw_cond rfl ?_ ?_
    · intro h18
      have h18 := dcd_t (h18)
      have H := ift h18 H
      refine Cw_skip ?_
      refine Shift.done ?_
      exact ⟨[(4, (.bool (dcd (p0 = 2))))], ⟨rfl, trivial⟩, (dcd (p0 = 2)), rfl, rfl, rfl, H⟩
    · intro h18
      have h18 := dcd_f (h18)
      have H := iff_ h18 H
      refine Cw_seq ?_
      refine Cw_region ?_
      refine Ow_q rfl rfl rfl (Qt_cmp rfl rfl rfl) ?_
      refine Ow_q rfl rfl rfl (Qt_assign rfl) ?_
      refine Ow_nil ?_
      refine Cw_cond rfl ?_ ?_
      · intro h19
        have h19 := dcd_t (h19)
        have H := ift h19 H
        refine Cw_skip ?_
        refine Shift.done ?_
        exact ⟨[(4, (.bool (dcd (p0 = 3))))], ⟨rfl, trivial⟩, (dcd (p0 = 3)), rfl, rfl, rfl, H⟩
      · intro h19
        have h19 := dcd_f (h19)
        have H := iff_ h19 H
        refine Cw_seq ?_
        refine Cw_region ?_
        refine Ow_q rfl rfl rfl (Qt_cmp rfl rfl rfl) ?_
        refine Ow_q rfl rfl rfl (Qt_assign rfl) ?_
        refine Ow_nil ?_
        refine Cw_cond rfl ?_ ?_
        · intro h20
          have h20 := dcd_t (h20)
          have H := ift h20 H
          refine Cw_skip ?_
          refine Shift.done ?_
          exact ⟨[(4, (.bool (dcd (p0 = 6))))], ⟨rfl, trivial⟩, (dcd (p0 = 6)), rfl, rfl, rfl, H⟩
        · intro h20
          have h20 := dcd_f (h20)
          have H := iff_ h20 H
          refine Cw_seq ?_
          refine Cw_region ?_
          refine Ow_q rfl rfl rfl (Qt_cmp rfl rfl rfl) ?_
          refine Ow_q rfl rfl rfl (Qt_assign rfl) ?_
          refine Ow_nil ?_
          refine Cw_cond rfl ?_ ?_
          · intro h21
            have h21 := dcd_t (h21)
            have H := ift h21 H
            refine Cw_skip ?_
            refine Shift.done ?_
            exact ⟨[(4, (.bool (dcd (p0 = 8))))], ⟨rfl, trivial⟩, (dcd (p0 = 8)), rfl, rfl, rfl, H⟩
          · intro h21
            have h21 := dcd_f (h21)
            have H := iff_ h21 H
            refine Cw_region ?_
            refine Ow_q rfl rfl rfl (Qt_cmp rfl rfl rfl) ?_
            refine Ow_q rfl rfl rfl (Qt_assign rfl) ?_
            refine Ow_nil ?_
            refine Shift.done ?_
            exact ⟨[(4, (.bool (dcd (p0 = 9))))], ⟨rfl, trivial⟩, (dcd (p0 = 9)), rfl, rfl, rfl, H⟩
  rintro _ _ _ - ⟨t17, rfl, rfl, rfl, H⟩
  unfold M_memory_Writes_J1 at H
  refine Cw_cond rfl ?_ ?_
  · intro h22
    have H := ift h22 H
    refine Cw_seq ?_
    refine Cw_region ?_
    refine Ow_q rfl rfl rfl (Qt_assign rfl) ?_
    refine Ow_nil ?_
    refine Cw_ret ?_
    obtain ey0 := inj1 H
    subst y0
    refine ⟨(by first | exact .inl rfl | exact .inr rfl), [(.bool true)], ⟨(.bool true), _, rfl, rfl, rfl⟩, ?_⟩
    refine Shift.done ?_
    exact ⟨rfl, rfl, rfl⟩
  · intro h22
    have H := iff_ (btf h22) H
    refine Cw_skip ?_
    refine Cw_seq ?_
    refine Cw_region ?_
    refine Ow_q rfl rfl rfl (Qt_assign rfl) ?_
    refine Ow_nil ?_
    refine Cw_ret ?_
    obtain ey0 := inj1 H
    subst y0
    refine ⟨(by first | exact .inl rfl | exact .inr rfl), [(.bool false)], ⟨(.bool false), _, rfl, rfl, rfl⟩, ?_⟩
    refine Shift.done ?_
    exact ⟨rfl, rfl, rfl⟩


end Go.Hx
