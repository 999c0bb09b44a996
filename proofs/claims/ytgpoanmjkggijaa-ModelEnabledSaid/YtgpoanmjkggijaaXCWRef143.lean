/- Printed by program. -/
import Derived.Test.YtgpoanmjkggijaaXCM
import Derived.Test.YtgpoanmjkggijaaXCWRef141
import Derived.Test.YtgpoanmjkggijaaXCWRef142
import Derived.Test.YtgpoanmjkggijaaXCWRef3
namespace Go.Hx
open Go Go.Proofs
set_option linter.unusedSimpArgs false
set_option linter.unusedVariables false
set_option maxRecDepth 10000
set_option maxHeartbeats 1000000 in
theorem c_M_ref14_do (p0 : List Chan) (vp0 : SV) (p1 : Case) (p2 : Result) (y0 : List Chan) (y1 : Bool) (H : M_ref14_do p0 p1 p2 = some (y0, y1)) (K : Kp) (G : List Ent) (hp0 : Slr TyChan K (sv vp0) p0) :
    Fc Try.prog 96 #[(sv vp0), (.agg (Case.cells p1).toArray), (.agg (Result.cells p2).toArray)] K (G) (fun v K' G' => ∃ (wy0 : SV), v = (.tuple #[(sv wy0), (.bool y1)]) ∧ G = G' ∧ Slr TyChan K' (sv wy0) y0) := by
  refine Fc_body Try.func96 rfl Try.ntmps96 Try.results96 rfl ?_
  unfold M_ref14_do at H
  refine Cw_seq ?_
  refine Cw_region ?_
  refine Ow_cons rfl (OpW_box (cs := (Case.cells p1)) rfl rfl rfl (fun b141 => ?_))
  refine Ow_cons rfl (OpW_box (cs := (Result.cells p2)) rfl rfl rfl (fun b142 => ?_))
  refine Ow_q rfl rfl rfl (Qt_assign rfl) ?_
  refine Ow_q rfl rfl rfl (Qt_assign rfl) ?_
  refine Ow_nil ?_
  refine Cw_seq ?_
  refine Cw_seq ?_
  refine Cw_region ?_
  refine Ow_q rfl rfl rfl (Qt_move rfl) ?_
  refine Ow_q rfl rfl rfl (Qt_fieldAddr (m := 1) rfl rfl rfl rfl rfl) ?_
  refine Ow_q rfl rfl rfl (Qt_load1 (v := (.int .i64 p1.channel)) rfl rfl rfl (Rdc.blk (.tail _ (.head _)) rfl)) ?_
  obtain ⟨x146, hx147, H⟩ := bnd H
  refine Ow_cons rfl (OpW_call rfl Try.call80 rfl rfl (c_M_ref14_exists p0 vp0 p1.channel x146 hx147 _ _ hp0) ?_)
  rintro _ _ _ - ⟨rfl, rfl, rfl⟩
  refine Ow_q rfl rfl rfl (Qt_not rfl) ?_
  refine Ow_nil ?_
  refine Cw_cond rfl ?_ ?_
  · intro h148
    have h148 := nt_t (h148)
    have H := iff_ (btf h148) H
    refine Cw_seq ?_
    refine Cw_region ?_
    refine Ow_q rfl rfl rfl (Qt_assign rfl) ?_
    refine Ow_q rfl rfl rfl (Qt_assign rfl) ?_
    refine Ow_nil ?_
    refine Cw_ret ?_
    obtain ⟨ey0, ey1⟩ := inj2 H
    subst y0 y1
    refine ⟨(by first | exact .inl rfl | exact .inr rfl), [(sv nilS), (.bool false)], ⟨(sv nilS), _, rfl, rfl, ⟨(.bool false), _, rfl, rfl, rfl⟩⟩, ?_⟩
    refine Shift.rem .here ?_
    refine Shift.rem .here ?_
    refine Shift.done ?_
    exact ⟨nilS, rfl, rfl, (Slr.nil TyChan _)⟩
  · intro h148
    have h148 := nt_f (h148)
    have H := ift h148 H
    refine Cw_skip ?_
    refine Cw_seq ?_
    refine Cw_region ?_
    refine Ow_q rfl rfl rfl (Qt_move rfl) ?_
    refine Ow_q rfl rfl rfl (Qt_fieldAddr (m := 1) rfl rfl rfl rfl rfl) ?_
    refine Ow_q rfl rfl rfl (Qt_load1 (v := (.int .i64 p1.channel)) rfl rfl rfl (Rdc.blk (.tail _ (.head _)) rfl)) ?_
    obtain ⟨x149, hx150, H⟩ := bnd H
    obtain ⟨r151, hr152, hk153⟩ := Slr.at hp0 hx150
    obtain ⟨v154, rfl, hs155⟩ := hr152
    refine Ow_q rfl rfl rfl (Q_ix (T := TyChan) hp0 hx150 rfl rfl rfl rfl rfl) ?_
    refine Ow_q rfl rfl rfl (Qt_loadA (m := 3) (cs := (Chan.cells x149 v154)) rfl rfl rfl rfl ⟨rfl, Rdc.k hk153 rfl⟩) ?_
    refine Ow_cons rfl (OpW_alloc (cs := (Chan.cells (Chan.mk 0 [] false) nilS)) rfl rfl rfl rfl (fun b156 => ?_))
    refine Ow_cons rfl (OpW_store (vs := (Chan.cells x149 v154)) (all' := (Chan.cells x149 v154)) rfl rfl rfl rfl rfl .here rfl rfl rfl ?_)
    refine Ow_nil ?_
    refine Cw_seq ?_
    refine Cw_block ?_
    refine Cw_join (fun env' K' G' => ∃ (t265 : Bool), [(0, (sv vp0)), (4, (.pointer (some ((⟨b141, 0, none⟩ : Addr).add 0)))), (5, (.pointer (some ((⟨b142, 0, none⟩ : Addr).add 0)))), (8, (.pointer (some ((⟨b156, 0, none⟩ : Addr).add 0)))), (19, (.bool t265))] = env' ∧ K = K' ∧ (.blk b156 83 (Chan.cells x149 v154)) :: (.blk b142 25 (Result.cells p2)) :: (.blk b141 73 (Case.cells p1)) :: G = G' ∧ M_ref14_do_J1 p0 x149 p2 p1 t265 = some (y0, y1)) ?_ ?_
    · skip
      refine Cw_region ?_
      refine Ow_q rfl rfl rfl (Qt_fieldAddr (m := 0) rfl rfl rfl rfl rfl) ?_
      refine Ow_q rfl rfl rfl (Qt_load1 (v := (.int .i64 p2.kind)) rfl rfl rfl (Rdc.blk (.tail _ (.head _)) rfl)) ?_
      refine Ow_q rfl rfl rfl (Qt_cmp rfl rfl rfl) ?_
      refine Ow_q rfl rfl rfl (Qt_move rfl) ?_
      refine Ow_caseG rfl rfl rfl ?_ ?_
      · intro h266
        have h266 := dcd_t (h266)
        have H := ift h266 H
        refine Ow_qw rfl rfl rfl rfl rfl rfl (Qt_fieldAddr (m := 0) rfl rfl rfl rfl rfl) ?_
        refine Ow_qw rfl rfl rfl rfl rfl rfl (Qt_load1 (v := (.bool p1.send)) rfl rfl rfl (Rdc.blk (.tail _ (.tail _ (.head _))) rfl)) ?_
        refine Ow_q rfl rfl rfl (Qt_pick_t rfl rfl) ?_
        refine Ow_q rfl rfl rfl (Qt_assign rfl) ?_
        refine Ow_nil ?_
        refine Shift.pull (.there (.there .here)) ?_
        refine Shift.pull (.there (.there .here)) ?_
        refine Shift.pull (.there (.there .here)) ?_
        refine Shift.done ?_
        exact ⟨[(0, (sv vp0)), (4, (.pointer (some ((⟨b141, 0, none⟩ : Addr).add 0)))), (5, (.pointer (some ((⟨b142, 0, none⟩ : Addr).add 0)))), (8, (.pointer (some ((⟨b156, 0, none⟩ : Addr).add 0)))), (19, (.bool p1.send))], ⟨rfl, rfl, rfl, rfl, rfl, trivial⟩, p1.send, rfl, rfl, rfl, H⟩
      · intro h266
        have h266 := dcd_f (h266)
        have H := iff_ h266 H
        refine Ow_pass rfl rfl rfl rfl rfl rfl rfl ?_
        refine Ow_pass rfl rfl rfl rfl rfl rfl rfl ?_
        refine Ow_q rfl rfl rfl (Qt_pick_f rfl rfl) ?_
        refine Ow_q rfl rfl rfl (Qt_assign rfl) ?_
        refine Ow_nil ?_
        refine Shift.pull (.there (.there .here)) ?_
        refine Shift.pull (.there (.there .here)) ?_
        refine Shift.pull (.there (.there .here)) ?_
        refine Shift.done ?_
        exact ⟨[(0, (sv vp0)), (4, (.pointer (some ((⟨b141, 0, none⟩ : Addr).add 0)))), (5, (.pointer (some ((⟨b142, 0, none⟩ : Addr).add 0)))), (8, (.pointer (some ((⟨b156, 0, none⟩ : Addr).add 0)))), (19, (.bool false))], ⟨rfl, rfl, rfl, rfl, rfl, trivial⟩, false, rfl, rfl, rfl, H⟩
    rintro _ _ _ - ⟨t265, rfl, rfl, rfl, H⟩
    unfold M_ref14_do_J1 at H
    refine Cw_cond rfl ?_ ?_
    · intro h267
      have H := ift h267 H
      refine Cw_seq ?_
      refine Cw_join (fun env' K' G' => ∃ (t278 : Bool), [(0, (sv vp0)), (4, (.pointer (some ((⟨b141, 0, none⟩ : Addr).add 0)))), (8, (.pointer (some ((⟨b156, 0, none⟩ : Addr).add 0)))), (41, (.bool t278))] = env' ∧ K = K' ∧ (.blk b156 83 (Chan.cells x149 v154)) :: (.blk b141 73 (Case.cells p1)) :: G = G' ∧ M_ref14_do_J2 p0 x149 p1 t278 = some (y0, y1)) ?_ ?_
      · skip
        refine Cw_region ?_
        refine Ow_q rfl rfl rfl (Qt_loadA (m := 5) (cs := (Result.cells p2)) rfl rfl rfl rfl ⟨rfl, Rdc.blk (.tail _ (.head _)) rfl⟩) ?_
        obtain ⟨x279, hx280, H⟩ := bnd H
        refine Ow_cons rfl (OpW_call rfl Try.call97 rfl rfl (c_M_ref14_only p2 false false x279 hx280 _ _ ) ?_)
        rintro _ _ _ - ⟨rfl, rfl, rfl⟩
        refine Ow_q rfl rfl rfl (Qt_not rfl) ?_
        refine Ow_q rfl rfl rfl (Qt_move rfl) ?_
        refine Ow_caseG rfl rfl rfl ?_ ?_
        · intro h281
          have h281 := nt_t (h281)
          have H := iff_ (btf h281) H
          refine Ow_pass rfl rfl rfl rfl rfl rfl rfl ?_
          refine Ow_pass rfl rfl rfl rfl rfl rfl rfl ?_
          refine Ow_q rfl rfl rfl (Qt_pick_t rfl rfl) ?_
          refine Ow_q rfl rfl rfl (Qt_move rfl) ?_
          refine Ow_pass rfl rfl rfl rfl rfl rfl rfl ?_
          refine Ow_pass rfl rfl rfl rfl rfl rfl rfl ?_
          refine Ow_pass rfl rfl rfl rfl rfl rfl rfl ?_
          refine Ow_pass rfl rfl rfl rfl rfl rfl rfl ?_
          refine Ow_pass rfl rfl rfl rfl rfl rfl rfl ?_
          refine Ow_pass rfl rfl rfl rfl rfl rfl rfl ?_
          refine Ow_q rfl rfl rfl (Qt_pick_t rfl rfl) ?_
          refine Ow_nil ?_
          refine Shift.pull (.there (.there .here)) ?_
          refine Shift.pull (.there .here) ?_
          refine Shift.rem (.there (.there .here)) ?_
          refine Shift.done ?_
          exact ⟨[(0, (sv vp0)), (4, (.pointer (some ((⟨b141, 0, none⟩ : Addr).add 0)))), (8, (.pointer (some ((⟨b156, 0, none⟩ : Addr).add 0)))), (41, (.bool true))], ⟨rfl, rfl, rfl, rfl, trivial⟩, true, rfl, rfl, rfl, H⟩
        · intro h281
          have h281 := nt_f (h281)
          have H := ift h281 H
          refine Ow_qw rfl rfl rfl rfl rfl rfl (Qt_fieldAddr (m := 2) rfl rfl rfl rfl rfl) ?_
          refine Ow_qw rfl rfl rfl rfl rfl rfl (Qt_load1 (v := (.bool x149.closed)) rfl rfl rfl (Rdc.blk (.head _) rfl)) ?_
          refine Ow_q rfl rfl rfl (Qt_pick_f rfl rfl) ?_
          refine Ow_q rfl rfl rfl (Qt_move rfl) ?_
          refine Ow_caseG rfl rfl rfl ?_ ?_
          · intro h282
            have H := ift h282 H
            refine Ow_pass rfl rfl rfl rfl rfl rfl rfl ?_
            refine Ow_pass rfl rfl rfl rfl rfl rfl rfl ?_
            refine Ow_pass rfl rfl rfl rfl rfl rfl rfl ?_
            refine Ow_pass rfl rfl rfl rfl rfl rfl rfl ?_
            refine Ow_pass rfl rfl rfl rfl rfl rfl rfl ?_
            refine Ow_pass rfl rfl rfl rfl rfl rfl rfl ?_
            refine Ow_q rfl rfl rfl (Qt_pick_t rfl rfl) ?_
            refine Ow_nil ?_
            refine Shift.pull (.there (.there .here)) ?_
            refine Shift.pull (.there .here) ?_
            refine Shift.rem (.there (.there .here)) ?_
            refine Shift.done ?_
            exact ⟨[(0, (sv vp0)), (4, (.pointer (some ((⟨b141, 0, none⟩ : Addr).add 0)))), (8, (.pointer (some ((⟨b156, 0, none⟩ : Addr).add 0)))), (41, (.bool true))], ⟨rfl, rfl, rfl, rfl, trivial⟩, true, rfl, rfl, rfl, H⟩
          · intro h282
            have H := iff_ (btf h282) H
            refine Ow_qw rfl rfl rfl rfl rfl rfl (Qt_fieldAddr (m := 1) rfl rfl rfl rfl rfl) ?_
            refine Ow_qw rfl rfl rfl rfl rfl rfl (Qt_load1 (v := (sv v154)) rfl rfl rfl (Rdc.blk (.head _) rfl)) ?_
            refine Ow_qw rfl rfl rfl rfl rfl rfl (Q_len (T := Ty.u64) hs155 rfl rfl) ?_
            refine Ow_qw rfl rfl rfl rfl rfl rfl (Qt_fieldAddr (m := 0) rfl rfl rfl rfl rfl) ?_
            refine Ow_qw rfl rfl rfl rfl rfl rfl (Qt_load1 (v := (.int .i64 x149.capacity)) rfl rfl rfl (Rdc.blk (.head _) rfl)) ?_
            refine Ow_qw rfl rfl rfl rfl rfl rfl (Qt_cmp rfl rfl rfl) ?_
            refine Ow_q rfl rfl rfl (Qt_pick_f rfl rfl) ?_
            refine Ow_nil ?_
            refine Shift.pull (.there (.there .here)) ?_
            refine Shift.pull (.there .here) ?_
            refine Shift.rem (.there (.there .here)) ?_
            refine Shift.done ?_
            exact ⟨[(0, (sv vp0)), (4, (.pointer (some ((⟨b141, 0, none⟩ : Addr).add 0)))), (8, (.pointer (some ((⟨b156, 0, none⟩ : Addr).add 0)))), (41, (.bool (dcd ((x149.buffer.length : Int) ≥ x149.capacity))))], ⟨rfl, rfl, rfl, rfl, trivial⟩, (dcd ((x149.buffer.length : Int) ≥ x149.capacity)), rfl, rfl, rfl, H⟩
      rintro _ _ _ - ⟨t278, rfl, rfl, rfl, H⟩
      unfold M_ref14_do_J2 at H
      refine Cw_cond rfl ?_ ?_
      · intro h283
        have H := ift h283 H
        refine Cw_seq ?_
        refine Cw_region ?_
        refine Ow_q rfl rfl rfl (Qt_assign rfl) ?_
        refine Ow_q rfl rfl rfl (Qt_assign rfl) ?_
        refine Ow_nil ?_
        refine Cw_ret ?_
        obtain ⟨ey0, ey1⟩ := inj2 H
        subst y0 y1
        refine ⟨(by first | exact .inl rfl | exact .inr rfl), [(sv nilS), (.bool false)], ⟨(sv nilS), _, rfl, rfl, ⟨(.bool false), _, rfl, rfl, rfl⟩⟩, ?_⟩
        refine Shift.rem .here ?_
        refine Shift.rem .here ?_
        refine Shift.done ?_
        exact ⟨nilS, rfl, rfl, (Slr.nil TyChan _)⟩
      · intro h283
        have H := iff_ (btf h283) H
        refine Cw_skip ?_
        refine Cw_join (fun env' K' G' => ∃ (v330 : SV) (l331 : List Int), [(0, (sv vp0)), (4, (.pointer (some ((⟨b141, 0, none⟩ : Addr).add 0)))), (8, (.pointer (some ((⟨b156, 0, none⟩ : Addr).add 0))))] = env' ∧ (.blk b156 83 (Chan.cells (Chan.mk x149.capacity l331 x149.closed) v330)) :: (.blk b141 73 (Case.cells p1)) :: (.tok 23 1 [(sv v330)]) :: G = G' ∧ M_ref14_do_J3 p0 x149 p1 l331 = some (y0, y1) ∧ Slr Ty.u64 K' (sv v330) l331) ?_ ?_
        · skip
          obtain ⟨x333, hx334, H⟩ := bnd H
          obtain ⟨x341, hx342, H⟩ := bnd H
          refine Cw_region_any [.blk b141 73 (Case.cells p1)] rfl (Inc.cons (.tail _ (.head _)) Inc.nil) ?_
          refine Aw_q 0 rfl (by kernel_rfl) (by kernel_rfl) (by kernel_rfl) rfl rfl rfl (Qt_fieldAddr (m := 1) rfl rfl rfl rfl rfl) ?_
          refine Aw_q 3 rfl (by kernel_rfl) (by kernel_rfl) (by kernel_rfl) rfl rfl rfl (Qt_fieldAddr (m := 2) rfl rfl rfl rfl rfl) ?_
          refine Aw_q 4 rfl (by kernel_rfl) (by kernel_rfl) (by kernel_rfl) rfl rfl rfl (Qt_load1 (v := (.int .u64 p1.value)) rfl rfl rfl (Rdc.blk (.head _) rfl)) ?_
          refine Aw_two 1 5 (by kernel_rfl) ?_ ?_
          · skip
            refine id (Ax_mk rfl rfl (OpW_of_Qt rfl rfl (Qt_load1 (v := (sv v154)) rfl rfl rfl (Rdc.blk (.head _) rfl)) ⟨(Inc.cons (.tail _ (.head _)) Inc.nil), ?_⟩))
            refine Aw_two 2 5 (by kernel_rfl) ?_ ?_
            · skip
              refine id (Ax_mk rfl rfl ?_)
              refine OpW.shift (Shift.nilTok1 23 1 (Shift.done ?_))
              refine O_appTok (T := Ty.u64) (bytes := 8) (q := 0) rfl rfl rfl (Slr.nil Ty.u64 _) (.head _) rfl (SrcT.sl hs155) hx334 rfl rfl rfl rfl rfl rfl rfl rfl (fun v347 K348 hK349 hs350 => ⟨_, .here, ⟨(Inc.cons (.tail _ (.tail _ (.head _))) Inc.nil), ?_⟩⟩)
              refine Aw_one 5 (by kernel_rfl) (Ax_mk rfl rfl ?_)
              have hR352 : RowR Ty.u64 K348 [[(.int .u64 p1.value)]] [p1.value] := RowR.cons rfl (RowR.nil)
              refine O_lit (T := Ty.u64) (rows := [[(.int .u64 p1.value)]]) (l := [p1.value]) rfl rfl rfl hR352 rfl rfl rfl rfl rfl rfl rfl rfl (fun v351 => ⟨(Inc.cons (.tail _ (.tail _ (.tail _ (.head _)))) Inc.nil), ?_⟩)
              refine Aw_one 6 (by kernel_rfl) (Ax_mk rfl rfl ?_)
              refine O_appTok (T := Ty.u64) (bytes := 8) (q := 0) rfl rfl rfl hs350 (.tail _ (.head _)) rfl (SrcT.row (.head _) hR352 rfl) hx342 rfl rfl rfl rfl rfl rfl rfl rfl (fun v353 K354 hK355 hs356 => ⟨_, (.there .here), ⟨(Inc.cons (.tail _ (.tail _ (.tail _ (.head _)))) Inc.nil), ?_⟩⟩)
              refine Aw.shift (Shift.rem .here (Shift.done ⟨(Inc.cons (.tail _ (.tail _ (.head _))) Inc.nil), ?_⟩))
              refine Aw_q 7 rfl (by kernel_rfl) (by kernel_rfl) (by kernel_rfl) rfl rfl rfl (Qt_fieldAddr (m := 1) rfl rfl rfl rfl rfl) ?_
              refine Aw_one 8 (by kernel_rfl) (Ax_mk rfl rfl ?_)
              refine OpW_store (vs := [(sv v353)]) (all' := (Chan.cells (Chan.mk x149.capacity x341 x149.closed) v353)) rfl rfl rfl rfl rfl (.there .here) rfl rfl rfl ⟨(Inc.cons (.tail _ (.tail _ (.head _))) Inc.nil), ?_⟩
              refine Aw_done (by kernel_rfl) ?_
              refine Shift.pull (.there (.there .here)) ?_
              refine Shift.pull (.there (.there .here)) ?_
              refine Shift.done ?_
              exact ⟨[(0, (sv vp0)), (4, (.pointer (some ((⟨b141, 0, none⟩ : Addr).add 0)))), (8, (.pointer (some ((⟨b156, 0, none⟩ : Addr).add 0))))], ⟨rfl, rfl, rfl, trivial⟩, v353, x341, rfl, rfl, H, hs356⟩
            · skip
              refine id (Ax_mk rfl rfl ?_)
              have hR358 : RowR Ty.u64 K [[(.int .u64 p1.value)]] [p1.value] := RowR.cons rfl (RowR.nil)
              refine O_lit (T := Ty.u64) (rows := [[(.int .u64 p1.value)]]) (l := [p1.value]) rfl rfl rfl hR358 rfl rfl rfl rfl rfl rfl rfl rfl (fun v357 => ⟨(Inc.cons (.tail _ (.tail _ (.head _))) Inc.nil), ?_⟩)
              refine Aw_one 2 (by kernel_rfl) (Ax_mk rfl rfl ?_)
              refine OpW.shift (Shift.nilTok1 23 1 (Shift.done ?_))
              refine O_appTok (T := Ty.u64) (bytes := 8) (q := 0) rfl rfl rfl (Slr.nil Ty.u64 _) (.head _) rfl (SrcT.sl hs155) hx334 rfl rfl rfl rfl rfl rfl rfl rfl (fun v359 K360 hK361 hs362 => ⟨_, .here, ⟨(Inc.cons (.tail _ (.tail _ (.tail _ (.head _)))) Inc.nil), ?_⟩⟩)
              refine Aw_one 6 (by kernel_rfl) (Ax_mk rfl rfl ?_)
              have hs363 := (hR358).mono hK361
              refine O_appTok (T := Ty.u64) (bytes := 8) (q := 0) rfl rfl rfl hs362 (.head _) rfl (SrcT.row (.tail _ (.head _)) hs363 rfl) hx342 rfl rfl rfl rfl rfl rfl rfl rfl (fun v364 K365 hK366 hs367 => ⟨_, .here, ⟨(Inc.cons (.tail _ (.tail _ (.tail _ (.head _)))) Inc.nil), ?_⟩⟩)
              refine Aw.shift (Shift.rem (.there .here) (Shift.done ⟨(Inc.cons (.tail _ (.tail _ (.head _))) Inc.nil), ?_⟩))
              refine Aw_q 7 rfl (by kernel_rfl) (by kernel_rfl) (by kernel_rfl) rfl rfl rfl (Qt_fieldAddr (m := 1) rfl rfl rfl rfl rfl) ?_
              refine Aw_one 8 (by kernel_rfl) (Ax_mk rfl rfl ?_)
              refine OpW_store (vs := [(sv v364)]) (all' := (Chan.cells (Chan.mk x149.capacity x341 x149.closed) v364)) rfl rfl rfl rfl rfl (.there .here) rfl rfl rfl ⟨(Inc.cons (.tail _ (.tail _ (.head _))) Inc.nil), ?_⟩
              refine Aw_done (by kernel_rfl) ?_
              refine Shift.pull (.there (.there .here)) ?_
              refine Shift.pull (.there (.there .here)) ?_
              refine Shift.done ?_
              exact ⟨[(0, (sv vp0)), (4, (.pointer (some ((⟨b141, 0, none⟩ : Addr).add 0)))), (8, (.pointer (some ((⟨b156, 0, none⟩ : Addr).add 0))))], ⟨rfl, rfl, rfl, trivial⟩, v364, x341, rfl, rfl, H, hs367⟩
          · skip
            refine id (Ax_mk rfl rfl ?_)
            have hR369 : RowR Ty.u64 K [[(.int .u64 p1.value)]] [p1.value] := RowR.cons rfl (RowR.nil)
            refine O_lit (T := Ty.u64) (rows := [[(.int .u64 p1.value)]]) (l := [p1.value]) rfl rfl rfl hR369 rfl rfl rfl rfl rfl rfl rfl rfl (fun v368 => ⟨(Inc.cons (.tail _ (.tail _ (.head _))) Inc.nil), ?_⟩)
            refine Aw_one 1 (by kernel_rfl) (Ax_mk rfl rfl (OpW_of_Qt rfl rfl (Qt_load1 (v := (sv v154)) rfl rfl rfl (Rdc.blk (.tail _ (.head _)) rfl)) ⟨(Inc.cons (.tail _ (.tail _ (.head _))) Inc.nil), ?_⟩))
            refine Aw_one 2 (by kernel_rfl) (Ax_mk rfl rfl ?_)
            refine OpW.shift (Shift.nilTok1 23 1 (Shift.done ?_))
            refine O_appTok (T := Ty.u64) (bytes := 8) (q := 0) rfl rfl rfl (Slr.nil Ty.u64 _) (.head _) rfl (SrcT.sl hs155) hx334 rfl rfl rfl rfl rfl rfl rfl rfl (fun v370 K371 hK372 hs373 => ⟨_, .here, ⟨(Inc.cons (.tail _ (.tail _ (.tail _ (.head _)))) Inc.nil), ?_⟩⟩)
            refine Aw_one 6 (by kernel_rfl) (Ax_mk rfl rfl ?_)
            have hs374 := (hR369).mono hK372
            refine O_appTok (T := Ty.u64) (bytes := 8) (q := 0) rfl rfl rfl hs373 (.head _) rfl (SrcT.row (.tail _ (.head _)) hs374 rfl) hx342 rfl rfl rfl rfl rfl rfl rfl rfl (fun v375 K376 hK377 hs378 => ⟨_, .here, ⟨(Inc.cons (.tail _ (.tail _ (.tail _ (.head _)))) Inc.nil), ?_⟩⟩)
            refine Aw.shift (Shift.rem (.there .here) (Shift.done ⟨(Inc.cons (.tail _ (.tail _ (.head _))) Inc.nil), ?_⟩))
            refine Aw_q 7 rfl (by kernel_rfl) (by kernel_rfl) (by kernel_rfl) rfl rfl rfl (Qt_fieldAddr (m := 1) rfl rfl rfl rfl rfl) ?_
            refine Aw_one 8 (by kernel_rfl) (Ax_mk rfl rfl ?_)
            refine OpW_store (vs := [(sv v375)]) (all' := (Chan.cells (Chan.mk x149.capacity x341 x149.closed) v375)) rfl rfl rfl rfl rfl (.there .here) rfl rfl rfl ⟨(Inc.cons (.tail _ (.tail _ (.head _))) Inc.nil), ?_⟩
            refine Aw_done (by kernel_rfl) ?_
            refine Shift.pull (.there (.there .here)) ?_
            refine Shift.pull (.there (.there .here)) ?_
            refine Shift.done ?_
            exact ⟨[(0, (sv vp0)), (4, (.pointer (some ((⟨b141, 0, none⟩ : Addr).add 0)))), (8, (.pointer (some ((⟨b156, 0, none⟩ : Addr).add 0))))], ⟨rfl, rfl, rfl, trivial⟩, v375, x341, rfl, rfl, H, hs378⟩
        rintro _ K379 _ hK380 ⟨v330, l331, rfl, rfl, H, hs332⟩
        unfold M_ref14_do_J3 at H
        refine Cw_seq ?_
        refine Cw_region ?_
        refine Ow_q rfl rfl rfl (Qt_move rfl) ?_
        refine Ow_q rfl rfl rfl (Qt_fieldAddr (m := 1) rfl rfl rfl rfl rfl) ?_
        refine Ow_q rfl rfl rfl (Qt_load1 (v := (.int .i64 p1.channel)) rfl rfl rfl (Rdc.blk (.tail _ (.head _)) rfl)) ?_
        refine Ow_q rfl rfl rfl (Qt_loadA (m := 3) (cs := (Chan.cells (Chan.mk x149.capacity l331 x149.closed) v330)) rfl rfl rfl rfl ⟨rfl, Rdc.blk (.head _) rfl⟩) ?_
        obtain ⟨x381, hx382, H⟩ := bnd H
        have hs383 := (hp0).mono hK380
        refine Ow_cons rfl (OpW_call rfl Try.call98 rfl rfl (c_M_ref14_set p0 vp0 p1.channel (Chan.mk x149.capacity l331 x149.closed) v330 x381 hx382 _ _ hs383 hs332) ?_)
        rintro _ _ _ - ⟨v384, rs385, rfl, rfl, rfl, hs386⟩
        refine Ow_q rfl rfl rfl (Qt_assign rfl) ?_
        refine Ow_q rfl rfl rfl (Qt_assign rfl) ?_
        refine Ow_nil ?_
        refine Cw_ret ?_
        obtain ⟨ey0, ey1⟩ := inj2 H
        subst y0 y1
        refine ⟨(by first | exact .inl rfl | exact .inr rfl), [(sv v384), (.bool true)], ⟨(sv v384), _, rfl, rfl, ⟨(.bool true), _, rfl, rfl, rfl⟩⟩, ?_⟩
        refine Shift.settle (T := TyChan) .here hs386 rfl ?_
        intro K387 hK388 hs389
        refine Shift.rem .here ?_
        refine Shift.rem .here ?_
        refine Shift.rem .here ?_
        refine Shift.rem .here ?_
        refine Shift.done ?_
        exact ⟨v384, rfl, rfl, hs389⟩
    · intro h267
      have H := iff_ (btf h267) H
      refine Cw_join (fun env' K' G' => ∃ (t391 : Bool), [(0, (sv vp0)), (4, (.pointer (some ((⟨b141, 0, none⟩ : Addr).add 0)))), (5, (.pointer (some ((⟨b142, 0, none⟩ : Addr).add 0)))), (8, (.pointer (some ((⟨b156, 0, none⟩ : Addr).add 0)))), (55, (.bool t391))] = env' ∧ K = K' ∧ (.blk b156 83 (Chan.cells x149 v154)) :: (.blk b142 25 (Result.cells p2)) :: (.blk b141 73 (Case.cells p1)) :: G = G' ∧ M_ref14_do_J4 p0 x149 p2 p1 t391 = some (y0, y1)) ?_ ?_
      · skip
        refine Cw_region ?_
        refine Ow_q rfl rfl rfl (Qt_fieldAddr (m := 0) rfl rfl rfl rfl rfl) ?_
        refine Ow_q rfl rfl rfl (Qt_load1 (v := (.int .i64 p2.kind)) rfl rfl rfl (Rdc.blk (.tail _ (.head _)) rfl)) ?_
        refine Ow_q rfl rfl rfl (Qt_cmp rfl rfl rfl) ?_
        refine Ow_q rfl rfl rfl (Qt_move rfl) ?_
        refine Ow_caseG rfl rfl rfl ?_ ?_
        · intro h392
          have h392 := dcd_t (h392)
          have H := ift h392 H
          refine Ow_qw rfl rfl rfl rfl rfl rfl (Qt_fieldAddr (m := 0) rfl rfl rfl rfl rfl) ?_
          refine Ow_qw rfl rfl rfl rfl rfl rfl (Qt_load1 (v := (.bool p1.send)) rfl rfl rfl (Rdc.blk (.tail _ (.tail _ (.head _))) rfl)) ?_
          refine Ow_q rfl rfl rfl (Qt_pick_t rfl rfl) ?_
          refine Ow_q rfl rfl rfl (Qt_assign rfl) ?_
          refine Ow_nil ?_
          refine Shift.pull (.there (.there .here)) ?_
          refine Shift.pull (.there (.there .here)) ?_
          refine Shift.pull (.there (.there .here)) ?_
          refine Shift.done ?_
          exact ⟨[(0, (sv vp0)), (4, (.pointer (some ((⟨b141, 0, none⟩ : Addr).add 0)))), (5, (.pointer (some ((⟨b142, 0, none⟩ : Addr).add 0)))), (8, (.pointer (some ((⟨b156, 0, none⟩ : Addr).add 0)))), (55, (.bool p1.send))], ⟨rfl, rfl, rfl, rfl, rfl, trivial⟩, p1.send, rfl, rfl, rfl, H⟩
        · intro h392
          have h392 := dcd_f (h392)
          have H := iff_ h392 H
          refine Ow_pass rfl rfl rfl rfl rfl rfl rfl ?_
          refine Ow_pass rfl rfl rfl rfl rfl rfl rfl ?_
          refine Ow_q rfl rfl rfl (Qt_pick_f rfl rfl) ?_
          refine Ow_q rfl rfl rfl (Qt_assign rfl) ?_
          refine Ow_nil ?_
          refine Shift.pull (.there (.there .here)) ?_
          refine Shift.pull (.there (.there .here)) ?_
          refine Shift.pull (.there (.there .here)) ?_
          refine Shift.done ?_
          exact ⟨[(0, (sv vp0)), (4, (.pointer (some ((⟨b141, 0, none⟩ : Addr).add 0)))), (5, (.pointer (some ((⟨b142, 0, none⟩ : Addr).add 0)))), (8, (.pointer (some ((⟨b156, 0, none⟩ : Addr).add 0)))), (55, (.bool false))], ⟨rfl, rfl, rfl, rfl, rfl, trivial⟩, false, rfl, rfl, rfl, H⟩
      rintro _ _ _ - ⟨t391, rfl, rfl, rfl, H⟩
      unfold M_ref14_do_J4 at H
      refine Cw_cond rfl ?_ ?_
      · intro h393
        have H := ift h393 H
        refine Cw_seq ?_
        obtain ⟨x397, hx398, H⟩ := bnd H
        rcases bool_ct x397 with hb_ | hb_ <;> revert hb_
        · intro h399
          have H := ift h399 H
          refine Cw_region_any [.blk b156 83 (Chan.cells x149 v154), .blk b142 25 (Result.cells p2), .blk b141 73 (Case.cells p1)] rfl (Inc.cons (.head _) (Inc.cons (.tail _ (.head _)) (Inc.cons (.tail _ (.tail _ (.head _))) Inc.nil))) ?_
          refine Aw_q 0 rfl (by kernel_rfl) (by kernel_rfl) (by kernel_rfl) rfl rfl rfl (Qt_move rfl) ?_
          refine Aw_q 1 rfl (by kernel_rfl) (by kernel_rfl) (by kernel_rfl) rfl rfl rfl (Qt_loadA (m := 5) (cs := (Result.cells p2)) rfl rfl rfl rfl ⟨rfl, Rdc.blk (.tail _ (.head _)) rfl⟩) ?_
          refine Aw_one 2 (by kernel_rfl) (Ax_mk rfl rfl ?_)
          refine OpW_call rfl Try.call97 rfl rfl (c_M_ref14_only p2 false false x397 hx398 _ _ ) ?_
          rintro _ _ _ - ⟨rfl, rfl, rfl⟩
          refine ⟨(Inc.cons (.head _) (Inc.cons (.tail _ (.head _)) (Inc.cons (.tail _ (.tail _ (.head _))) Inc.nil))), ?_⟩
          refine Aw_q 3 rfl (by kernel_rfl) (by kernel_rfl) (by kernel_rfl) rfl rfl rfl (Qt_move rfl) ?_
          refine Aw.known (d := 66) rfl (h399) ?_
          refine Aw_qw 4 rfl (by kernel_rfl) (by kernel_rfl) (by kernel_rfl) rfl rfl rfl rfl rfl rfl (Qt_fieldAddr (m := 2) rfl rfl rfl rfl rfl) ?_
          refine Aw_qw 5 rfl (by kernel_rfl) (by kernel_rfl) (by kernel_rfl) rfl rfl rfl rfl rfl rfl (Qt_load1 (v := (.bool x149.closed)) rfl rfl rfl (Rdc.blk (.head _) rfl)) ?_
          refine Aw_q 6 rfl (by kernel_rfl) (by kernel_rfl) (by kernel_rfl) rfl rfl rfl (Qt_pick_t rfl rfl) ?_
          refine Aw_q 7 rfl (by kernel_rfl) (by kernel_rfl) (by kernel_rfl) rfl rfl rfl (Qt_assign rfl) ?_
          refine Aw_q 8 rfl (by kernel_rfl) (by kernel_rfl) (by kernel_rfl) rfl rfl rfl (Qt_assign rfl) ?_
          refine Aw_done (by kernel_rfl) ?_
          refine Cw_ret ?_
          obtain ⟨ey0, ey1⟩ := inj2 H
          subst y0 y1
          refine ⟨(by first | exact .inl rfl | exact .inr rfl), [(sv vp0), (.bool x149.closed)], ⟨(sv vp0), _, rfl, rfl, ⟨(.bool x149.closed), _, rfl, rfl, rfl⟩⟩, ?_⟩
          refine Shift.rem .here ?_
          refine Shift.rem .here ?_
          refine Shift.rem .here ?_
          refine Shift.done ?_
          exact ⟨vp0, rfl, rfl, hp0⟩
        · intro h399
          have H := iff_ (btf h399) H
          refine Cw_region_any [.blk b156 83 (Chan.cells x149 v154), .blk b142 25 (Result.cells p2), .blk b141 73 (Case.cells p1)] rfl (Inc.cons (.head _) (Inc.cons (.tail _ (.head _)) (Inc.cons (.tail _ (.tail _ (.head _))) Inc.nil))) ?_
          refine Aw_q 0 rfl (by kernel_rfl) (by kernel_rfl) (by kernel_rfl) rfl rfl rfl (Qt_move rfl) ?_
          refine Aw_q 1 rfl (by kernel_rfl) (by kernel_rfl) (by kernel_rfl) rfl rfl rfl (Qt_loadA (m := 5) (cs := (Result.cells p2)) rfl rfl rfl rfl ⟨rfl, Rdc.blk (.tail _ (.head _)) rfl⟩) ?_
          refine Aw_one 2 (by kernel_rfl) (Ax_mk rfl rfl ?_)
          refine OpW_call rfl Try.call97 rfl rfl (c_M_ref14_only p2 false false x397 hx398 _ _ ) ?_
          rintro _ _ _ - ⟨rfl, rfl, rfl⟩
          refine ⟨(Inc.cons (.head _) (Inc.cons (.tail _ (.head _)) (Inc.cons (.tail _ (.tail _ (.head _))) Inc.nil))), ?_⟩
          refine Aw_q 3 rfl (by kernel_rfl) (by kernel_rfl) (by kernel_rfl) rfl rfl rfl (Qt_move rfl) ?_
          refine Aw.known (d := 66) rfl (h399) ?_
          refine Aw_pass 4 rfl (by kernel_rfl) (by kernel_rfl) (by kernel_rfl) rfl rfl rfl rfl rfl rfl rfl ?_
          refine Aw_pass 5 rfl (by kernel_rfl) (by kernel_rfl) (by kernel_rfl) rfl rfl rfl rfl rfl rfl rfl ?_
          refine Aw_q 6 rfl (by kernel_rfl) (by kernel_rfl) (by kernel_rfl) rfl rfl rfl (Qt_pick_f rfl rfl) ?_
          refine Aw_q 7 rfl (by kernel_rfl) (by kernel_rfl) (by kernel_rfl) rfl rfl rfl (Qt_assign rfl) ?_
          refine Aw_q 8 rfl (by kernel_rfl) (by kernel_rfl) (by kernel_rfl) rfl rfl rfl (Qt_assign rfl) ?_
          refine Aw_done (by kernel_rfl) ?_
          refine Cw_ret ?_
          obtain ⟨ey0, ey1⟩ := inj2 H
          subst y0 y1
          refine ⟨(by first | exact .inl rfl | exact .inr rfl), [(sv vp0), (.bool false)], ⟨(sv vp0), _, rfl, rfl, ⟨(.bool false), _, rfl, rfl, rfl⟩⟩, ?_⟩
          refine Shift.rem .here ?_
          refine Shift.rem .here ?_
          refine Shift.rem .here ?_
          refine Shift.done ?_
          exact ⟨vp0, rfl, rfl, hp0⟩
      · intro h393
        have H := iff_ (btf h393) H
        refine Cw_join (fun env' K' G' => ∃ (t402 : Bool), [(0, (sv vp0)), (4, (.pointer (some ((⟨b141, 0, none⟩ : Addr).add 0)))), (5, (.pointer (some ((⟨b142, 0, none⟩ : Addr).add 0)))), (8, (.pointer (some ((⟨b156, 0, none⟩ : Addr).add 0)))), (70, (.bool t402))] = env' ∧ K = K' ∧ (.blk b156 83 (Chan.cells x149 v154)) :: (.blk b142 25 (Result.cells p2)) :: (.blk b141 73 (Case.cells p1)) :: G = G' ∧ M_ref14_do_J5 p0 x149 p2 p1 t402 = some (y0, y1)) ?_ ?_
        · skip
          refine Cw_region ?_
          refine Ow_q rfl rfl rfl (Qt_fieldAddr (m := 0) rfl rfl rfl rfl rfl) ?_
          refine Ow_q rfl rfl rfl (Qt_load1 (v := (.int .i64 p2.kind)) rfl rfl rfl (Rdc.blk (.tail _ (.head _)) rfl)) ?_
          refine Ow_q rfl rfl rfl (Qt_cmp rfl rfl rfl) ?_
          refine Ow_q rfl rfl rfl (Qt_move rfl) ?_
          refine Ow_caseG rfl rfl rfl ?_ ?_
          · intro h403
            have h403 := dcd_t (h403)
            have H := ift h403 H
            refine Ow_qw rfl rfl rfl rfl rfl rfl (Qt_fieldAddr (m := 0) rfl rfl rfl rfl rfl) ?_
            refine Ow_qw rfl rfl rfl rfl rfl rfl (Qt_load1 (v := (.bool p1.send)) rfl rfl rfl (Rdc.blk (.tail _ (.tail _ (.head _))) rfl)) ?_
            refine Ow_qw rfl rfl rfl rfl rfl rfl (Qt_not rfl) ?_
            refine Ow_q rfl rfl rfl (Qt_pick_t rfl rfl) ?_
            refine Ow_q rfl rfl rfl (Qt_move rfl) ?_
            refine Ow_caseG rfl rfl rfl ?_ ?_
            · intro h404
              have h404 := nt_t (h404)
              have H := iff_ (btf h404) H
              refine Ow_qw rfl rfl rfl rfl rfl rfl (Qt_fieldAddr (m := 3) rfl rfl rfl rfl rfl) ?_
              refine Ow_qw rfl rfl rfl rfl rfl rfl (Qt_load1 (v := (.bool p2.ok)) rfl rfl rfl (Rdc.blk (.tail _ (.head _)) rfl)) ?_
              refine Ow_q rfl rfl rfl (Qt_pick_t rfl rfl) ?_
              refine Ow_q rfl rfl rfl (Qt_assign rfl) ?_
              refine Ow_nil ?_
              refine Shift.pull (.there (.there .here)) ?_
              refine Shift.pull (.there (.there .here)) ?_
              refine Shift.pull (.there (.there .here)) ?_
              refine Shift.done ?_
              exact ⟨[(0, (sv vp0)), (4, (.pointer (some ((⟨b141, 0, none⟩ : Addr).add 0)))), (5, (.pointer (some ((⟨b142, 0, none⟩ : Addr).add 0)))), (8, (.pointer (some ((⟨b156, 0, none⟩ : Addr).add 0)))), (70, (.bool p2.ok))], ⟨rfl, rfl, rfl, rfl, rfl, trivial⟩, p2.ok, rfl, rfl, rfl, H⟩
            · intro h404
              have h404 := nt_f (h404)
              have H := ift h404 H
              refine Ow_pass rfl rfl rfl rfl rfl rfl rfl ?_
              refine Ow_pass rfl rfl rfl rfl rfl rfl rfl ?_
              refine Ow_q rfl rfl rfl (Qt_pick_f rfl rfl) ?_
              refine Ow_q rfl rfl rfl (Qt_assign rfl) ?_
              refine Ow_nil ?_
              refine Shift.pull (.there (.there .here)) ?_
              refine Shift.pull (.there (.there .here)) ?_
              refine Shift.pull (.there (.there .here)) ?_
              refine Shift.done ?_
              exact ⟨[(0, (sv vp0)), (4, (.pointer (some ((⟨b141, 0, none⟩ : Addr).add 0)))), (5, (.pointer (some ((⟨b142, 0, none⟩ : Addr).add 0)))), (8, (.pointer (some ((⟨b156, 0, none⟩ : Addr).add 0)))), (70, (.bool false))], ⟨rfl, rfl, rfl, rfl, rfl, trivial⟩, false, rfl, rfl, rfl, H⟩
          · intro h403
            have h403 := dcd_f (h403)
            have H := iff_ h403 H
            refine Ow_pass rfl rfl rfl rfl rfl rfl rfl ?_
            refine Ow_pass rfl rfl rfl rfl rfl rfl rfl ?_
            refine Ow_pass rfl rfl rfl rfl rfl rfl rfl ?_
            refine Ow_q rfl rfl rfl (Qt_pick_f rfl rfl) ?_
            refine Ow_q rfl rfl rfl (Qt_move rfl) ?_
            refine Ow_pass rfl rfl rfl rfl rfl rfl rfl ?_
            refine Ow_pass rfl rfl rfl rfl rfl rfl rfl ?_
            refine Ow_q rfl rfl rfl (Qt_pick_f rfl rfl) ?_
            refine Ow_q rfl rfl rfl (Qt_assign rfl) ?_
            refine Ow_nil ?_
            refine Shift.pull (.there (.there .here)) ?_
            refine Shift.pull (.there (.there .here)) ?_
            refine Shift.pull (.there (.there .here)) ?_
            refine Shift.done ?_
            exact ⟨[(0, (sv vp0)), (4, (.pointer (some ((⟨b141, 0, none⟩ : Addr).add 0)))), (5, (.pointer (some ((⟨b142, 0, none⟩ : Addr).add 0)))), (8, (.pointer (some ((⟨b156, 0, none⟩ : Addr).add 0)))), (70, (.bool false))], ⟨rfl, rfl, rfl, rfl, rfl, trivial⟩, false, rfl, rfl, rfl, H⟩
        rintro _ _ _ - ⟨t402, rfl, rfl, rfl, H⟩
        unfold M_ref14_do_J5 at H
        refine Cw_cond rfl ?_ ?_
        · intro h405
          have H := ift h405 H
          refine Cw_seq ?_
          refine Cw_join (fun env' K' G' => ∃ (t432 : Bool), [(0, (sv vp0)), (4, (.pointer (some ((⟨b141, 0, none⟩ : Addr).add 0)))), (8, (.pointer (some ((⟨b156, 0, none⟩ : Addr).add 0)))), (100, (.bool t432))] = env' ∧ K = K' ∧ (.blk b156 83 (Chan.cells x149 v154)) :: (.blk b141 73 (Case.cells p1)) :: G = G' ∧ M_ref14_do_J6 p0 x149 p1 t432 = some (y0, y1)) ?_ ?_
          · skip
            obtain ⟨x433, hx434, H⟩ := bnd H
            rcases bool_ct (!(x433)) with hb_ | hb_ <;> revert hb_
            · intro h435
              have h435 := nt_t (h435)
              have H := iff_ (btf h435) H
              refine Cw_region_any [.blk b156 83 (Chan.cells x149 v154), .blk b142 25 (Result.cells p2), .blk b141 73 (Case.cells p1)] rfl (Inc.cons (.head _) (Inc.cons (.tail _ (.head _)) (Inc.cons (.tail _ (.tail _ (.head _))) Inc.nil))) ?_
              refine Aw_q 0 rfl (by kernel_rfl) (by kernel_rfl) (by kernel_rfl) rfl rfl rfl (Qt_loadA (m := 5) (cs := (Result.cells p2)) rfl rfl rfl rfl ⟨rfl, Rdc.blk (.tail _ (.head _)) rfl⟩) ?_
              refine Aw_one 1 (by kernel_rfl) (Ax_mk rfl rfl ?_)
              refine OpW_call rfl Try.call97 rfl rfl (c_M_ref14_only p2 true false x433 hx434 _ _ ) ?_
              rintro _ _ _ - ⟨rfl, rfl, rfl⟩
              refine ⟨(Inc.cons (.head _) (Inc.cons (.tail _ (.head _)) (Inc.cons (.tail _ (.tail _ (.head _))) Inc.nil))), ?_⟩
              refine Aw_q 2 rfl (by kernel_rfl) (by kernel_rfl) (by kernel_rfl) rfl rfl rfl (Qt_not rfl) ?_
              refine Aw_q 3 rfl (by kernel_rfl) (by kernel_rfl) (by kernel_rfl) rfl rfl rfl (Qt_move rfl) ?_
              refine Aw.known (d := 86) rfl (nt_mt (h435)) ?_
              refine Aw_pass 4 rfl (by kernel_rfl) (by kernel_rfl) (by kernel_rfl) rfl rfl rfl rfl rfl rfl rfl ?_
              refine Aw_pass 5 rfl (by kernel_rfl) (by kernel_rfl) (by kernel_rfl) rfl rfl rfl rfl rfl rfl rfl ?_
              refine Aw_pass 6 rfl (by kernel_rfl) (by kernel_rfl) (by kernel_rfl) rfl rfl rfl rfl rfl rfl rfl ?_
              refine Aw_pass 7 rfl (by kernel_rfl) (by kernel_rfl) (by kernel_rfl) rfl rfl rfl rfl rfl rfl rfl ?_
              refine Aw_q 8 rfl (by kernel_rfl) (by kernel_rfl) (by kernel_rfl) rfl rfl rfl (Qt_pick_t rfl rfl) ?_
              refine Aw_q 9 rfl (by kernel_rfl) (by kernel_rfl) (by kernel_rfl) rfl rfl rfl (Qt_move rfl) ?_
              refine Aw_pass 10 rfl (by kernel_rfl) (by kernel_rfl) (by kernel_rfl) rfl rfl rfl rfl rfl rfl rfl ?_
              refine Aw_pass 11 rfl (by kernel_rfl) (by kernel_rfl) (by kernel_rfl) rfl rfl rfl rfl rfl rfl rfl ?_
              refine Aw_pass 12 rfl (by kernel_rfl) (by kernel_rfl) (by kernel_rfl) rfl rfl rfl rfl rfl rfl rfl ?_
              refine Aw_pass 13 rfl (by kernel_rfl) (by kernel_rfl) (by kernel_rfl) rfl rfl rfl rfl rfl rfl rfl ?_
              refine Aw_pass 14 rfl (by kernel_rfl) (by kernel_rfl) (by kernel_rfl) rfl rfl rfl rfl rfl rfl rfl ?_
              refine Aw_pass 15 rfl (by kernel_rfl) (by kernel_rfl) (by kernel_rfl) rfl rfl rfl rfl rfl rfl rfl ?_
              refine Aw_pass 16 rfl (by kernel_rfl) (by kernel_rfl) (by kernel_rfl) rfl rfl rfl rfl rfl rfl rfl ?_
              refine Aw_q 17 rfl (by kernel_rfl) (by kernel_rfl) (by kernel_rfl) rfl rfl rfl (Qt_pick_t rfl rfl) ?_
              refine Aw_done (by kernel_rfl) ?_
              refine Shift.pull (.there (.there .here)) ?_
              refine Shift.pull (.there .here) ?_
              refine Shift.rem (.there (.there .here)) ?_
              refine Shift.done ?_
              exact ⟨[(0, (sv vp0)), (4, (.pointer (some ((⟨b141, 0, none⟩ : Addr).add 0)))), (8, (.pointer (some ((⟨b156, 0, none⟩ : Addr).add 0)))), (100, (.bool true))], ⟨rfl, rfl, rfl, rfl, trivial⟩, true, rfl, rfl, rfl, H⟩
            · intro h435
              have h435 := nt_f (h435)
              have H := ift h435 H
              rcases bool_ct (dcd ((x149.buffer.length : Int) = 0)) with hb_ | hb_ <;> revert hb_
              · intro h436
                have h436 := dcd_t (h436)
                have H := ift h436 H
                refine Cw_region_any [.blk b156 83 (Chan.cells x149 v154), .blk b142 25 (Result.cells p2), .blk b141 73 (Case.cells p1)] rfl (Inc.cons (.head _) (Inc.cons (.tail _ (.head _)) (Inc.cons (.tail _ (.tail _ (.head _))) Inc.nil))) ?_
                refine Aw_q 0 rfl (by kernel_rfl) (by kernel_rfl) (by kernel_rfl) rfl rfl rfl (Qt_loadA (m := 5) (cs := (Result.cells p2)) rfl rfl rfl rfl ⟨rfl, Rdc.blk (.tail _ (.head _)) rfl⟩) ?_
                refine Aw_one 1 (by kernel_rfl) (Ax_mk rfl rfl ?_)
                refine OpW_call rfl Try.call97 rfl rfl (c_M_ref14_only p2 true false x433 hx434 _ _ ) ?_
                rintro _ _ _ - ⟨rfl, rfl, rfl⟩
                refine ⟨(Inc.cons (.head _) (Inc.cons (.tail _ (.head _)) (Inc.cons (.tail _ (.tail _ (.head _))) Inc.nil))), ?_⟩
                refine Aw_q 2 rfl (by kernel_rfl) (by kernel_rfl) (by kernel_rfl) rfl rfl rfl (Qt_not rfl) ?_
                refine Aw_q 3 rfl (by kernel_rfl) (by kernel_rfl) (by kernel_rfl) rfl rfl rfl (Qt_move rfl) ?_
                refine Aw.known (d := 86) rfl (nt_mf (h435)) ?_
                refine Aw_qw 4 rfl (by kernel_rfl) (by kernel_rfl) (by kernel_rfl) rfl rfl rfl rfl rfl rfl (Qt_fieldAddr (m := 1) rfl rfl rfl rfl rfl) ?_
                refine Aw_qw 5 rfl (by kernel_rfl) (by kernel_rfl) (by kernel_rfl) rfl rfl rfl rfl rfl rfl (Qt_load1 (v := (sv v154)) rfl rfl rfl (Rdc.blk (.head _) rfl)) ?_
                refine Aw_qw 6 rfl (by kernel_rfl) (by kernel_rfl) (by kernel_rfl) rfl rfl rfl rfl rfl rfl (Q_len (T := Ty.u64) hs155 rfl rfl) ?_
                refine Aw_qw 7 rfl (by kernel_rfl) (by kernel_rfl) (by kernel_rfl) rfl rfl rfl rfl rfl rfl (Qt_cmp rfl rfl rfl) ?_
                refine Aw_q 8 rfl (by kernel_rfl) (by kernel_rfl) (by kernel_rfl) rfl rfl rfl (Qt_pick_f rfl rfl) ?_
                refine Aw_q 9 rfl (by kernel_rfl) (by kernel_rfl) (by kernel_rfl) rfl rfl rfl (Qt_move rfl) ?_
                refine Aw.known (d := 92) rfl (dcd_pos h436) ?_
                refine Aw_pass 10 rfl (by kernel_rfl) (by kernel_rfl) (by kernel_rfl) rfl rfl rfl rfl rfl rfl rfl ?_
                refine Aw_pass 11 rfl (by kernel_rfl) (by kernel_rfl) (by kernel_rfl) rfl rfl rfl rfl rfl rfl rfl ?_
                refine Aw_pass 12 rfl (by kernel_rfl) (by kernel_rfl) (by kernel_rfl) rfl rfl rfl rfl rfl rfl rfl ?_
                refine Aw_pass 13 rfl (by kernel_rfl) (by kernel_rfl) (by kernel_rfl) rfl rfl rfl rfl rfl rfl rfl ?_
                refine Aw_pass 14 rfl (by kernel_rfl) (by kernel_rfl) (by kernel_rfl) rfl rfl rfl rfl rfl rfl rfl ?_
                refine Aw_pass 15 rfl (by kernel_rfl) (by kernel_rfl) (by kernel_rfl) rfl rfl rfl rfl rfl rfl rfl ?_
                refine Aw_pass 16 rfl (by kernel_rfl) (by kernel_rfl) (by kernel_rfl) rfl rfl rfl rfl rfl rfl rfl ?_
                refine Aw_q 17 rfl (by kernel_rfl) (by kernel_rfl) (by kernel_rfl) rfl rfl rfl (Qt_pick_t rfl rfl) ?_
                refine Aw_done (by kernel_rfl) ?_
                refine Shift.pull (.there (.there .here)) ?_
                refine Shift.pull (.there .here) ?_
                refine Shift.rem (.there (.there .here)) ?_
                refine Shift.done ?_
                exact ⟨[(0, (sv vp0)), (4, (.pointer (some ((⟨b141, 0, none⟩ : Addr).add 0)))), (8, (.pointer (some ((⟨b156, 0, none⟩ : Addr).add 0)))), (100, (.bool true))], ⟨rfl, rfl, rfl, rfl, trivial⟩, true, rfl, rfl, rfl, H⟩
              · intro h436
                have h436 := dcd_f (h436)
                have H := iff_ h436 H
                obtain ⟨x437, hx438, H⟩ := bnd H
                refine Cw_region_any [.blk b156 83 (Chan.cells x149 v154), .blk b142 25 (Result.cells p2), .blk b141 73 (Case.cells p1)] rfl (Inc.cons (.head _) (Inc.cons (.tail _ (.head _)) (Inc.cons (.tail _ (.tail _ (.head _))) Inc.nil))) ?_
                refine Aw_q 0 rfl (by kernel_rfl) (by kernel_rfl) (by kernel_rfl) rfl rfl rfl (Qt_loadA (m := 5) (cs := (Result.cells p2)) rfl rfl rfl rfl ⟨rfl, Rdc.blk (.tail _ (.head _)) rfl⟩) ?_
                refine Aw_one 1 (by kernel_rfl) (Ax_mk rfl rfl ?_)
                refine OpW_call rfl Try.call97 rfl rfl (c_M_ref14_only p2 true false x433 hx434 _ _ ) ?_
                rintro _ _ _ - ⟨rfl, rfl, rfl⟩
                refine ⟨(Inc.cons (.head _) (Inc.cons (.tail _ (.head _)) (Inc.cons (.tail _ (.tail _ (.head _))) Inc.nil))), ?_⟩
                refine Aw_q 2 rfl (by kernel_rfl) (by kernel_rfl) (by kernel_rfl) rfl rfl rfl (Qt_not rfl) ?_
                refine Aw_q 3 rfl (by kernel_rfl) (by kernel_rfl) (by kernel_rfl) rfl rfl rfl (Qt_move rfl) ?_
                refine Aw.known (d := 86) rfl (nt_mf (h435)) ?_
                refine Aw_qw 4 rfl (by kernel_rfl) (by kernel_rfl) (by kernel_rfl) rfl rfl rfl rfl rfl rfl (Qt_fieldAddr (m := 1) rfl rfl rfl rfl rfl) ?_
                refine Aw_qw 5 rfl (by kernel_rfl) (by kernel_rfl) (by kernel_rfl) rfl rfl rfl rfl rfl rfl (Qt_load1 (v := (sv v154)) rfl rfl rfl (Rdc.blk (.head _) rfl)) ?_
                refine Aw_qw 6 rfl (by kernel_rfl) (by kernel_rfl) (by kernel_rfl) rfl rfl rfl rfl rfl rfl (Q_len (T := Ty.u64) hs155 rfl rfl) ?_
                refine Aw_qw 7 rfl (by kernel_rfl) (by kernel_rfl) (by kernel_rfl) rfl rfl rfl rfl rfl rfl (Qt_cmp rfl rfl rfl) ?_
                refine Aw_q 8 rfl (by kernel_rfl) (by kernel_rfl) (by kernel_rfl) rfl rfl rfl (Qt_pick_f rfl rfl) ?_
                refine Aw_q 9 rfl (by kernel_rfl) (by kernel_rfl) (by kernel_rfl) rfl rfl rfl (Qt_move rfl) ?_
                refine Aw.known (d := 92) rfl (dcd_neg h436) ?_
                refine Aw_qw 10 rfl (by kernel_rfl) (by kernel_rfl) (by kernel_rfl) rfl rfl rfl rfl rfl rfl (Qt_fieldAddr (m := 1) rfl rfl rfl rfl rfl) ?_
                refine Aw_qw 11 rfl (by kernel_rfl) (by kernel_rfl) (by kernel_rfl) rfl rfl rfl rfl rfl rfl (Qt_load1 (v := (sv v154)) rfl rfl rfl (Rdc.blk (.head _) rfl)) ?_
                obtain ⟨r442, hr443, hk444⟩ := Slr.at hs155 hx438
                obtain rfl := hr443
                refine Aw_qw 12 rfl (by kernel_rfl) (by kernel_rfl) (by kernel_rfl) rfl rfl rfl rfl rfl rfl (Q_ix (T := Ty.u64) hs155 hx438 rfl rfl rfl rfl rfl) ?_
                refine Aw_qw 13 rfl (by kernel_rfl) (by kernel_rfl) (by kernel_rfl) rfl rfl rfl rfl rfl rfl (Qt_load1 (v := (.int .u64 x437)) rfl rfl rfl (Rdc.k hk444 rfl)) ?_
                refine Aw_qw 14 rfl (by kernel_rfl) (by kernel_rfl) (by kernel_rfl) rfl rfl rfl rfl rfl rfl (Qt_fieldAddr (m := 2) rfl rfl rfl rfl rfl) ?_
                refine Aw_qw 15 rfl (by kernel_rfl) (by kernel_rfl) (by kernel_rfl) rfl rfl rfl rfl rfl rfl (Qt_load1 (v := (.int .u64 p2.value)) rfl rfl rfl (Rdc.blk (.tail _ (.head _)) rfl)) ?_
                refine Aw_qw 16 rfl (by kernel_rfl) (by kernel_rfl) (by kernel_rfl) rfl rfl rfl rfl rfl rfl (Qt_cmp rfl rfl rfl) ?_
                refine Aw_q 17 rfl (by kernel_rfl) (by kernel_rfl) (by kernel_rfl) rfl rfl rfl (Qt_pick_f rfl rfl) ?_
                refine Aw_done (by kernel_rfl) ?_
                refine Shift.pull (.there (.there .here)) ?_
                refine Shift.pull (.there .here) ?_
                refine Shift.rem (.there (.there .here)) ?_
                refine Shift.done ?_
                exact ⟨[(0, (sv vp0)), (4, (.pointer (some ((⟨b141, 0, none⟩ : Addr).add 0)))), (8, (.pointer (some ((⟨b156, 0, none⟩ : Addr).add 0)))), (100, (.bool (!(dcd (x437 = p2.value)))))], ⟨rfl, rfl, rfl, rfl, trivial⟩, (!(dcd (x437 = p2.value))), rfl, rfl, rfl, H⟩
          rintro _ _ _ - ⟨t432, rfl, rfl, rfl, H⟩
          unfold M_ref14_do_J6 at H
          refine Cw_cond rfl ?_ ?_
          · intro h445
            have H := ift h445 H
            refine Cw_seq ?_
            refine Cw_region ?_
            refine Ow_q rfl rfl rfl (Qt_assign rfl) ?_
            refine Ow_q rfl rfl rfl (Qt_assign rfl) ?_
            refine Ow_nil ?_
            refine Cw_ret ?_
            obtain ⟨ey0, ey1⟩ := inj2 H
            subst y0 y1
            refine ⟨(by first | exact .inl rfl | exact .inr rfl), [(sv nilS), (.bool false)], ⟨(sv nilS), _, rfl, rfl, ⟨(.bool false), _, rfl, rfl, rfl⟩⟩, ?_⟩
            refine Shift.rem .here ?_
            refine Shift.rem .here ?_
            refine Shift.done ?_
            exact ⟨nilS, rfl, rfl, (Slr.nil TyChan _)⟩
          · intro h445
            have H := iff_ (btf h445) H
            refine Cw_skip ?_
            refine Cw_seq ?_
            refine Cw_region ?_
            refine Ow_q rfl rfl rfl (Qt_fieldAddr (m := 1) rfl rfl rfl rfl rfl) ?_
            refine Ow_q rfl rfl rfl (Qt_load1 (v := (sv v154)) rfl rfl rfl (Rdc.blk (.head _) rfl)) ?_
            obtain ⟨x446, hx447, H⟩ := bnd H
            have hs448 := Slr.cutL hs155 hx447
            refine Ow_q rfl rfl rfl (Q_cutL (T := Ty.u64) hs155 hx447 rfl rfl rfl rfl rfl) ?_
            refine Ow_q rfl rfl rfl (Qt_fieldAddr (m := 1) rfl rfl rfl rfl rfl) ?_
            refine Ow_cons rfl (OpW_store (vs := [(sv (cutS v154 1 ((1 : Int).toNat) x149.buffer.length))]) (all' := (Chan.cells (Chan.mk x149.capacity x446 x149.closed) (cutS v154 1 ((1 : Int).toNat) x149.buffer.length))) rfl rfl rfl rfl rfl .here rfl rfl rfl ?_)
            refine Ow_nil ?_
            refine Cw_seq ?_
            refine Cw_region ?_
            refine Ow_q rfl rfl rfl (Qt_move rfl) ?_
            refine Ow_q rfl rfl rfl (Qt_fieldAddr (m := 1) rfl rfl rfl rfl rfl) ?_
            refine Ow_q rfl rfl rfl (Qt_load1 (v := (.int .i64 p1.channel)) rfl rfl rfl (Rdc.blk (.tail _ (.head _)) rfl)) ?_
            refine Ow_q rfl rfl rfl (Qt_loadA (m := 3) (cs := (Chan.cells (Chan.mk x149.capacity x446 x149.closed) (cutS v154 1 ((1 : Int).toNat) x149.buffer.length))) rfl rfl rfl rfl ⟨rfl, Rdc.blk (.head _) rfl⟩) ?_
            obtain ⟨x449, hx450, H⟩ := bnd H
            refine Ow_cons rfl (OpW_call rfl Try.call98 rfl rfl (c_M_ref14_set p0 vp0 p1.channel (Chan.mk x149.capacity x446 x149.closed) (cutS v154 1 ((1 : Int).toNat) x149.buffer.length) x449 hx450 _ _ hp0 hs448) ?_)
            rintro _ _ _ - ⟨v451, rs452, rfl, rfl, rfl, hs453⟩
            refine Ow_q rfl rfl rfl (Qt_assign rfl) ?_
            refine Ow_q rfl rfl rfl (Qt_assign rfl) ?_
            refine Ow_nil ?_
            refine Cw_ret ?_
            obtain ⟨ey0, ey1⟩ := inj2 H
            subst y0 y1
            refine ⟨(by first | exact .inl rfl | exact .inr rfl), [(sv v451), (.bool true)], ⟨(sv v451), _, rfl, rfl, ⟨(.bool true), _, rfl, rfl, rfl⟩⟩, ?_⟩
            refine Shift.settle (T := TyChan) .here hs453 rfl ?_
            intro K454 hK455 hs456
            refine Shift.rem .here ?_
            refine Shift.rem .here ?_
            refine Shift.rem .here ?_
            refine Shift.done ?_
            exact ⟨v451, rfl, rfl, hs456⟩
        · intro h405
          have H := iff_ (btf h405) H
          refine Cw_join (fun env' K' G' => ∃ (t458 : Bool), [(0, (sv vp0)), (5, (.pointer (some ((⟨b142, 0, none⟩ : Addr).add 0)))), (8, (.pointer (some ((⟨b156, 0, none⟩ : Addr).add 0)))), (110, (.bool t458))] = env' ∧ K = K' ∧ (.blk b156 83 (Chan.cells x149 v154)) :: (.blk b142 25 (Result.cells p2)) :: G = G' ∧ M_ref14_do_J7 p0 x149 p2 t458 = some (y0, y1)) ?_ ?_
          · skip
            refine Cw_region ?_
            refine Ow_q rfl rfl rfl (Qt_fieldAddr (m := 0) rfl rfl rfl rfl rfl) ?_
            refine Ow_q rfl rfl rfl (Qt_load1 (v := (.int .i64 p2.kind)) rfl rfl rfl (Rdc.blk (.tail _ (.head _)) rfl)) ?_
            refine Ow_q rfl rfl rfl (Qt_cmp rfl rfl rfl) ?_
            refine Ow_q rfl rfl rfl (Qt_move rfl) ?_
            refine Ow_caseG rfl rfl rfl ?_ ?_
            · intro h459
              have h459 := dcd_t (h459)
              have H := ift h459 H
              refine Ow_qw rfl rfl rfl rfl rfl rfl (Qt_fieldAddr (m := 0) rfl rfl rfl rfl rfl) ?_
              refine Ow_qw rfl rfl rfl rfl rfl rfl (Qt_load1 (v := (.bool p1.send)) rfl rfl rfl (Rdc.blk (.tail _ (.tail _ (.head _))) rfl)) ?_
              refine Ow_qw rfl rfl rfl rfl rfl rfl (Qt_not rfl) ?_
              refine Ow_q rfl rfl rfl (Qt_pick_t rfl rfl) ?_
              refine Ow_q rfl rfl rfl (Qt_assign rfl) ?_
              refine Ow_nil ?_
              refine Shift.pull (.there .here) ?_
              refine Shift.pull (.there .here) ?_
              refine Shift.rem (.there (.there .here)) ?_
              refine Shift.done ?_
              exact ⟨[(0, (sv vp0)), (5, (.pointer (some ((⟨b142, 0, none⟩ : Addr).add 0)))), (8, (.pointer (some ((⟨b156, 0, none⟩ : Addr).add 0)))), (110, (.bool (!(p1.send))))], ⟨rfl, rfl, rfl, rfl, trivial⟩, (!(p1.send)), rfl, rfl, rfl, H⟩
            · intro h459
              have h459 := dcd_f (h459)
              have H := iff_ h459 H
              refine Ow_pass rfl rfl rfl rfl rfl rfl rfl ?_
              refine Ow_pass rfl rfl rfl rfl rfl rfl rfl ?_
              refine Ow_pass rfl rfl rfl rfl rfl rfl rfl ?_
              refine Ow_q rfl rfl rfl (Qt_pick_f rfl rfl) ?_
              refine Ow_q rfl rfl rfl (Qt_assign rfl) ?_
              refine Ow_nil ?_
              refine Shift.pull (.there .here) ?_
              refine Shift.pull (.there .here) ?_
              refine Shift.rem (.there (.there .here)) ?_
              refine Shift.done ?_
              exact ⟨[(0, (sv vp0)), (5, (.pointer (some ((⟨b142, 0, none⟩ : Addr).add 0)))), (8, (.pointer (some ((⟨b156, 0, none⟩ : Addr).add 0)))), (110, (.bool false))], ⟨rfl, rfl, rfl, rfl, trivial⟩, false, rfl, rfl, rfl, H⟩
          rintro _ _ _ - ⟨t458, rfl, rfl, rfl, H⟩
          unfold M_ref14_do_J7 at H
          refine Cw_cond rfl ?_ ?_
          · intro h460
            have H := ift h460 H
            refine Cw_join (fun env' K' G' => ∃ (t466 : Bool), [(6, (sv vp0)), (7, (.bool t466))] = env' ∧ K = K' ∧ G = G' ∧ M_ref14_do_J8 p0 t466 = some (y0, y1)) ?_ ?_
            · skip
              obtain ⟨x467, hx468, H⟩ := bnd H
              rcases bool_ct x467 with hb_ | hb_ <;> revert hb_
              · intro h469
                have H := ift h469 H
                rcases bool_ct (dcd (p2.value = 0)) with hb_ | hb_ <;> revert hb_
                · intro h470
                  have h470 := dcd_t (h470)
                  have H := ift h470 H
                  rcases bool_ct x149.closed with hb_ | hb_ <;> revert hb_
                  · intro h471
                    have H := ift h471 H
                    refine Cw_region_any [.blk b156 83 (Chan.cells x149 v154), .blk b142 25 (Result.cells p2)] rfl (Inc.cons (.head _) (Inc.cons (.tail _ (.head _)) Inc.nil)) ?_
                    refine Aw_q 0 rfl (by kernel_rfl) (by kernel_rfl) (by kernel_rfl) rfl rfl rfl (Qt_move rfl) ?_
                    refine Aw_q 1 rfl (by kernel_rfl) (by kernel_rfl) (by kernel_rfl) rfl rfl rfl (Qt_loadA (m := 5) (cs := (Result.cells p2)) rfl rfl rfl rfl ⟨rfl, Rdc.blk (.tail _ (.head _)) rfl⟩) ?_
                    refine Aw_one 2 (by kernel_rfl) (Ax_mk rfl rfl ?_)
                    refine OpW_call rfl Try.call97 rfl rfl (c_M_ref14_only p2 true false x467 hx468 _ _ ) ?_
                    rintro _ _ _ - ⟨rfl, rfl, rfl⟩
                    refine ⟨(Inc.cons (.head _) (Inc.cons (.tail _ (.head _)) Inc.nil)), ?_⟩
                    refine Aw_q 3 rfl (by kernel_rfl) (by kernel_rfl) (by kernel_rfl) rfl rfl rfl (Qt_move rfl) ?_
                    refine Aw.known (d := 122) rfl (h469) ?_
                    refine Aw_qw 4 rfl (by kernel_rfl) (by kernel_rfl) (by kernel_rfl) rfl rfl rfl rfl rfl rfl (Qt_fieldAddr (m := 2) rfl rfl rfl rfl rfl) ?_
                    refine Aw_qw 5 rfl (by kernel_rfl) (by kernel_rfl) (by kernel_rfl) rfl rfl rfl rfl rfl rfl (Qt_load1 (v := (.int .u64 p2.value)) rfl rfl rfl (Rdc.blk (.tail _ (.head _)) rfl)) ?_
                    refine Aw_qw 6 rfl (by kernel_rfl) (by kernel_rfl) (by kernel_rfl) rfl rfl rfl rfl rfl rfl (Qt_cmp rfl rfl rfl) ?_
                    refine Aw_q 7 rfl (by kernel_rfl) (by kernel_rfl) (by kernel_rfl) rfl rfl rfl (Qt_pick_t rfl rfl) ?_
                    refine Aw_q 8 rfl (by kernel_rfl) (by kernel_rfl) (by kernel_rfl) rfl rfl rfl (Qt_move rfl) ?_
                    refine Aw.known (d := 127) rfl (dcd_pos h470) ?_
                    refine Aw_qw 9 rfl (by kernel_rfl) (by kernel_rfl) (by kernel_rfl) rfl rfl rfl rfl rfl rfl (Qt_fieldAddr (m := 2) rfl rfl rfl rfl rfl) ?_
                    refine Aw_qw 10 rfl (by kernel_rfl) (by kernel_rfl) (by kernel_rfl) rfl rfl rfl rfl rfl rfl (Qt_load1 (v := (.bool x149.closed)) rfl rfl rfl (Rdc.blk (.head _) rfl)) ?_
                    refine Aw_q 11 rfl (by kernel_rfl) (by kernel_rfl) (by kernel_rfl) rfl rfl rfl (Qt_pick_t rfl rfl) ?_
                    refine Aw_q 12 rfl (by kernel_rfl) (by kernel_rfl) (by kernel_rfl) rfl rfl rfl (Qt_move rfl) ?_
                    refine Aw.known (d := 131) rfl (h471) ?_
                    refine Aw_qw 13 rfl (by kernel_rfl) (by kernel_rfl) (by kernel_rfl) rfl rfl rfl rfl rfl rfl (Qt_fieldAddr (m := 1) rfl rfl rfl rfl rfl) ?_
                    refine Aw_qw 14 rfl (by kernel_rfl) (by kernel_rfl) (by kernel_rfl) rfl rfl rfl rfl rfl rfl (Qt_load1 (v := (sv v154)) rfl rfl rfl (Rdc.blk (.head _) rfl)) ?_
                    refine Aw_qw 15 rfl (by kernel_rfl) (by kernel_rfl) (by kernel_rfl) rfl rfl rfl rfl rfl rfl (Q_len (T := Ty.u64) hs155 rfl rfl) ?_
                    refine Aw_qw 16 rfl (by kernel_rfl) (by kernel_rfl) (by kernel_rfl) rfl rfl rfl rfl rfl rfl (Qt_cmp rfl rfl rfl) ?_
                    refine Aw_q 17 rfl (by kernel_rfl) (by kernel_rfl) (by kernel_rfl) rfl rfl rfl (Qt_pick_t rfl rfl) ?_
                    refine Aw_q 18 rfl (by kernel_rfl) (by kernel_rfl) (by kernel_rfl) rfl rfl rfl (Qt_assign rfl) ?_
                    refine Aw_q 19 rfl (by kernel_rfl) (by kernel_rfl) (by kernel_rfl) rfl rfl rfl (Qt_assign rfl) ?_
                    refine Aw_done (by kernel_rfl) ?_
                    refine Shift.rem .here ?_
                    refine Shift.rem .here ?_
                    refine Shift.done ?_
                    exact ⟨[(6, (sv vp0)), (7, (.bool (dcd ((x149.buffer.length : Int) = 0))))], ⟨rfl, rfl, trivial⟩, (dcd ((x149.buffer.length : Int) = 0)), rfl, rfl, rfl, H⟩
                  · intro h471
                    have H := iff_ (btf h471) H
                    refine Cw_region_any [.blk b156 83 (Chan.cells x149 v154), .blk b142 25 (Result.cells p2)] rfl (Inc.cons (.head _) (Inc.cons (.tail _ (.head _)) Inc.nil)) ?_
                    refine Aw_q 0 rfl (by kernel_rfl) (by kernel_rfl) (by kernel_rfl) rfl rfl rfl (Qt_move rfl) ?_
                    refine Aw_q 1 rfl (by kernel_rfl) (by kernel_rfl) (by kernel_rfl) rfl rfl rfl (Qt_loadA (m := 5) (cs := (Result.cells p2)) rfl rfl rfl rfl ⟨rfl, Rdc.blk (.tail _ (.head _)) rfl⟩) ?_
                    refine Aw_one 2 (by kernel_rfl) (Ax_mk rfl rfl ?_)
                    refine OpW_call rfl Try.call97 rfl rfl (c_M_ref14_only p2 true false x467 hx468 _ _ ) ?_
                    rintro _ _ _ - ⟨rfl, rfl, rfl⟩
                    refine ⟨(Inc.cons (.head _) (Inc.cons (.tail _ (.head _)) Inc.nil)), ?_⟩
                    refine Aw_q 3 rfl (by kernel_rfl) (by kernel_rfl) (by kernel_rfl) rfl rfl rfl (Qt_move rfl) ?_
                    refine Aw.known (d := 122) rfl (h469) ?_
                    refine Aw_qw 4 rfl (by kernel_rfl) (by kernel_rfl) (by kernel_rfl) rfl rfl rfl rfl rfl rfl (Qt_fieldAddr (m := 2) rfl rfl rfl rfl rfl) ?_
                    refine Aw_qw 5 rfl (by kernel_rfl) (by kernel_rfl) (by kernel_rfl) rfl rfl rfl rfl rfl rfl (Qt_load1 (v := (.int .u64 p2.value)) rfl rfl rfl (Rdc.blk (.tail _ (.head _)) rfl)) ?_
                    refine Aw_qw 6 rfl (by kernel_rfl) (by kernel_rfl) (by kernel_rfl) rfl rfl rfl rfl rfl rfl (Qt_cmp rfl rfl rfl) ?_
                    refine Aw_q 7 rfl (by kernel_rfl) (by kernel_rfl) (by kernel_rfl) rfl rfl rfl (Qt_pick_t rfl rfl) ?_
                    refine Aw_q 8 rfl (by kernel_rfl) (by kernel_rfl) (by kernel_rfl) rfl rfl rfl (Qt_move rfl) ?_
                    refine Aw.known (d := 127) rfl (dcd_pos h470) ?_
                    refine Aw_qw 9 rfl (by kernel_rfl) (by kernel_rfl) (by kernel_rfl) rfl rfl rfl rfl rfl rfl (Qt_fieldAddr (m := 2) rfl rfl rfl rfl rfl) ?_
                    refine Aw_qw 10 rfl (by kernel_rfl) (by kernel_rfl) (by kernel_rfl) rfl rfl rfl rfl rfl rfl (Qt_load1 (v := (.bool x149.closed)) rfl rfl rfl (Rdc.blk (.head _) rfl)) ?_
                    refine Aw_q 11 rfl (by kernel_rfl) (by kernel_rfl) (by kernel_rfl) rfl rfl rfl (Qt_pick_t rfl rfl) ?_
                    refine Aw_q 12 rfl (by kernel_rfl) (by kernel_rfl) (by kernel_rfl) rfl rfl rfl (Qt_move rfl) ?_
                    refine Aw.known (d := 131) rfl (h471) ?_
                    refine Aw_pass 13 rfl (by kernel_rfl) (by kernel_rfl) (by kernel_rfl) rfl rfl rfl rfl rfl rfl rfl ?_
                    refine Aw_pass 14 rfl (by kernel_rfl) (by kernel_rfl) (by kernel_rfl) rfl rfl rfl rfl rfl rfl rfl ?_
                    refine Aw_pass 15 rfl (by kernel_rfl) (by kernel_rfl) (by kernel_rfl) rfl rfl rfl rfl rfl rfl rfl ?_
                    refine Aw_pass 16 rfl (by kernel_rfl) (by kernel_rfl) (by kernel_rfl) rfl rfl rfl rfl rfl rfl rfl ?_
                    refine Aw_q 17 rfl (by kernel_rfl) (by kernel_rfl) (by kernel_rfl) rfl rfl rfl (Qt_pick_f rfl rfl) ?_
                    refine Aw_q 18 rfl (by kernel_rfl) (by kernel_rfl) (by kernel_rfl) rfl rfl rfl (Qt_assign rfl) ?_
                    refine Aw_q 19 rfl (by kernel_rfl) (by kernel_rfl) (by kernel_rfl) rfl rfl rfl (Qt_assign rfl) ?_
                    refine Aw_done (by kernel_rfl) ?_
                    refine Shift.rem .here ?_
                    refine Shift.rem .here ?_
                    refine Shift.done ?_
                    exact ⟨[(6, (sv vp0)), (7, (.bool false))], ⟨rfl, rfl, trivial⟩, false, rfl, rfl, rfl, H⟩
                · intro h470
                  have h470 := dcd_f (h470)
                  have H := iff_ h470 H
                  refine Cw_region_any [.blk b156 83 (Chan.cells x149 v154), .blk b142 25 (Result.cells p2)] rfl (Inc.cons (.head _) (Inc.cons (.tail _ (.head _)) Inc.nil)) ?_
                  refine Aw_q 0 rfl (by kernel_rfl) (by kernel_rfl) (by kernel_rfl) rfl rfl rfl (Qt_move rfl) ?_
                  refine Aw_q 1 rfl (by kernel_rfl) (by kernel_rfl) (by kernel_rfl) rfl rfl rfl (Qt_loadA (m := 5) (cs := (Result.cells p2)) rfl rfl rfl rfl ⟨rfl, Rdc.blk (.tail _ (.head _)) rfl⟩) ?_
                  refine Aw_one 2 (by kernel_rfl) (Ax_mk rfl rfl ?_)
                  refine OpW_call rfl Try.call97 rfl rfl (c_M_ref14_only p2 true false x467 hx468 _ _ ) ?_
                  rintro _ _ _ - ⟨rfl, rfl, rfl⟩
                  refine ⟨(Inc.cons (.head _) (Inc.cons (.tail _ (.head _)) Inc.nil)), ?_⟩
                  refine Aw_q 3 rfl (by kernel_rfl) (by kernel_rfl) (by kernel_rfl) rfl rfl rfl (Qt_move rfl) ?_
                  refine Aw.known (d := 122) rfl (h469) ?_
                  refine Aw_qw 4 rfl (by kernel_rfl) (by kernel_rfl) (by kernel_rfl) rfl rfl rfl rfl rfl rfl (Qt_fieldAddr (m := 2) rfl rfl rfl rfl rfl) ?_
                  refine Aw_qw 5 rfl (by kernel_rfl) (by kernel_rfl) (by kernel_rfl) rfl rfl rfl rfl rfl rfl (Qt_load1 (v := (.int .u64 p2.value)) rfl rfl rfl (Rdc.blk (.tail _ (.head _)) rfl)) ?_
                  refine Aw_qw 6 rfl (by kernel_rfl) (by kernel_rfl) (by kernel_rfl) rfl rfl rfl rfl rfl rfl (Qt_cmp rfl rfl rfl) ?_
                  refine Aw_q 7 rfl (by kernel_rfl) (by kernel_rfl) (by kernel_rfl) rfl rfl rfl (Qt_pick_t rfl rfl) ?_
                  refine Aw_q 8 rfl (by kernel_rfl) (by kernel_rfl) (by kernel_rfl) rfl rfl rfl (Qt_move rfl) ?_
                  refine Aw.known (d := 127) rfl (dcd_neg h470) ?_
                  refine Aw_pass 9 rfl (by kernel_rfl) (by kernel_rfl) (by kernel_rfl) rfl rfl rfl rfl rfl rfl rfl ?_
                  refine Aw_pass 10 rfl (by kernel_rfl) (by kernel_rfl) (by kernel_rfl) rfl rfl rfl rfl rfl rfl rfl ?_
                  refine Aw_q 11 rfl (by kernel_rfl) (by kernel_rfl) (by kernel_rfl) rfl rfl rfl (Qt_pick_f rfl rfl) ?_
                  refine Aw_q 12 rfl (by kernel_rfl) (by kernel_rfl) (by kernel_rfl) rfl rfl rfl (Qt_move rfl) ?_
                  refine Aw_pass 13 rfl (by kernel_rfl) (by kernel_rfl) (by kernel_rfl) rfl rfl rfl rfl rfl rfl rfl ?_
                  refine Aw_pass 14 rfl (by kernel_rfl) (by kernel_rfl) (by kernel_rfl) rfl rfl rfl rfl rfl rfl rfl ?_
                  refine Aw_pass 15 rfl (by kernel_rfl) (by kernel_rfl) (by kernel_rfl) rfl rfl rfl rfl rfl rfl rfl ?_
                  refine Aw_pass 16 rfl (by kernel_rfl) (by kernel_rfl) (by kernel_rfl) rfl rfl rfl rfl rfl rfl rfl ?_
                  refine Aw_q 17 rfl (by kernel_rfl) (by kernel_rfl) (by kernel_rfl) rfl rfl rfl (Qt_pick_f rfl rfl) ?_
                  refine Aw_q 18 rfl (by kernel_rfl) (by kernel_rfl) (by kernel_rfl) rfl rfl rfl (Qt_assign rfl) ?_
                  refine Aw_q 19 rfl (by kernel_rfl) (by kernel_rfl) (by kernel_rfl) rfl rfl rfl (Qt_assign rfl) ?_
                  refine Aw_done (by kernel_rfl) ?_
                  refine Shift.rem .here ?_
                  refine Shift.rem .here ?_
                  refine Shift.done ?_
                  exact ⟨[(6, (sv vp0)), (7, (.bool false))], ⟨rfl, rfl, trivial⟩, false, rfl, rfl, rfl, H⟩
              · intro h469
                have H := iff_ (btf h469) H
                refine Cw_region_any [.blk b156 83 (Chan.cells x149 v154), .blk b142 25 (Result.cells p2)] rfl (Inc.cons (.head _) (Inc.cons (.tail _ (.head _)) Inc.nil)) ?_
                refine Aw_q 0 rfl (by kernel_rfl) (by kernel_rfl) (by kernel_rfl) rfl rfl rfl (Qt_move rfl) ?_
                refine Aw_q 1 rfl (by kernel_rfl) (by kernel_rfl) (by kernel_rfl) rfl rfl rfl (Qt_loadA (m := 5) (cs := (Result.cells p2)) rfl rfl rfl rfl ⟨rfl, Rdc.blk (.tail _ (.head _)) rfl⟩) ?_
                refine Aw_one 2 (by kernel_rfl) (Ax_mk rfl rfl ?_)
                refine OpW_call rfl Try.call97 rfl rfl (c_M_ref14_only p2 true false x467 hx468 _ _ ) ?_
                rintro _ _ _ - ⟨rfl, rfl, rfl⟩
                refine ⟨(Inc.cons (.head _) (Inc.cons (.tail _ (.head _)) Inc.nil)), ?_⟩
                refine Aw_q 3 rfl (by kernel_rfl) (by kernel_rfl) (by kernel_rfl) rfl rfl rfl (Qt_move rfl) ?_
                refine Aw.known (d := 122) rfl (h469) ?_
                refine Aw_pass 4 rfl (by kernel_rfl) (by kernel_rfl) (by kernel_rfl) rfl rfl rfl rfl rfl rfl rfl ?_
                refine Aw_pass 5 rfl (by kernel_rfl) (by kernel_rfl) (by kernel_rfl) rfl rfl rfl rfl rfl rfl rfl ?_
                refine Aw_pass 6 rfl (by kernel_rfl) (by kernel_rfl) (by kernel_rfl) rfl rfl rfl rfl rfl rfl rfl ?_
                refine Aw_q 7 rfl (by kernel_rfl) (by kernel_rfl) (by kernel_rfl) rfl rfl rfl (Qt_pick_f rfl rfl) ?_
                refine Aw_q 8 rfl (by kernel_rfl) (by kernel_rfl) (by kernel_rfl) rfl rfl rfl (Qt_move rfl) ?_
                refine Aw_pass 9 rfl (by kernel_rfl) (by kernel_rfl) (by kernel_rfl) rfl rfl rfl rfl rfl rfl rfl ?_
                refine Aw_pass 10 rfl (by kernel_rfl) (by kernel_rfl) (by kernel_rfl) rfl rfl rfl rfl rfl rfl rfl ?_
                refine Aw_q 11 rfl (by kernel_rfl) (by kernel_rfl) (by kernel_rfl) rfl rfl rfl (Qt_pick_f rfl rfl) ?_
                refine Aw_q 12 rfl (by kernel_rfl) (by kernel_rfl) (by kernel_rfl) rfl rfl rfl (Qt_move rfl) ?_
                refine Aw_pass 13 rfl (by kernel_rfl) (by kernel_rfl) (by kernel_rfl) rfl rfl rfl rfl rfl rfl rfl ?_
                refine Aw_pass 14 rfl (by kernel_rfl) (by kernel_rfl) (by kernel_rfl) rfl rfl rfl rfl rfl rfl rfl ?_
                refine Aw_pass 15 rfl (by kernel_rfl) (by kernel_rfl) (by kernel_rfl) rfl rfl rfl rfl rfl rfl rfl ?_
                refine Aw_pass 16 rfl (by kernel_rfl) (by kernel_rfl) (by kernel_rfl) rfl rfl rfl rfl rfl rfl rfl ?_
                refine Aw_q 17 rfl (by kernel_rfl) (by kernel_rfl) (by kernel_rfl) rfl rfl rfl (Qt_pick_f rfl rfl) ?_
                refine Aw_q 18 rfl (by kernel_rfl) (by kernel_rfl) (by kernel_rfl) rfl rfl rfl (Qt_assign rfl) ?_
                refine Aw_q 19 rfl (by kernel_rfl) (by kernel_rfl) (by kernel_rfl) rfl rfl rfl (Qt_assign rfl) ?_
                refine Aw_done (by kernel_rfl) ?_
                refine Shift.rem .here ?_
                refine Shift.rem .here ?_
                refine Shift.done ?_
                exact ⟨[(6, (sv vp0)), (7, (.bool false))], ⟨rfl, rfl, trivial⟩, false, rfl, rfl, rfl, H⟩
            rintro _ _ _ - ⟨t466, rfl, rfl, rfl, H⟩
            unfold M_ref14_do_J8 at H
            refine Cw_ret ?_
            obtain ⟨ey0, ey1⟩ := inj2 H
            subst y0 y1
            refine ⟨(by first | exact .inl rfl | exact .inr rfl), [(sv vp0), (.bool t466)], ⟨(sv vp0), _, rfl, rfl, ⟨(.bool t466), _, rfl, rfl, rfl⟩⟩, ?_⟩
            refine Shift.done ?_
            exact ⟨vp0, rfl, rfl, hp0⟩
          · intro h460
            have H := iff_ (btf h460) H
            refine Cw_skip ?_
            refine Cw_seq ?_
            refine Cw_region ?_
            refine Ow_q rfl rfl rfl (Qt_assign rfl) ?_
            refine Ow_q rfl rfl rfl (Qt_assign rfl) ?_
            refine Ow_nil ?_
            refine Cw_ret ?_
            obtain ⟨ey0, ey1⟩ := inj2 H
            subst y0 y1
            refine ⟨(by first | exact .inl rfl | exact .inr rfl), [(sv nilS), (.bool false)], ⟨(sv nilS), _, rfl, rfl, ⟨(.bool false), _, rfl, rfl, rfl⟩⟩, ?_⟩
            refine Shift.rem .here ?_
            refine Shift.rem .here ?_
            refine Shift.done ?_
            exact ⟨nilS, rfl, rfl, (Slr.nil TyChan _)⟩

set_option maxHeartbeats 1000000 in
theorem c_M_ref14_blocked (p0 : List Chan) (vp0 : SV) (p1 : Op) (vp1_cases : SV) (vp1_draws : SV) (y0 : Bool) (H : M_ref14_blocked p0 p1 = some y0) (K : Kp) (G : List Ent) (hp0 : Slr TyChan K (sv vp0) p0) (hp1_cases : Slr TyCase K (sv vp1_cases) p1.cases) (hp1_draws : Slr Ty.i64 K (sv vp1_draws) p1.draws) :
    Fc Try.prog 99 #[(sv vp0), (.agg (Op.cells p1 vp1_cases vp1_draws).toArray)] K (G) (fun v K' G' => v = (.bool y0) ∧ G = G') := by
  refine Fc_body Try.func99 rfl Try.ntmps99 Try.results99 rfl ?_
  unfold M_ref14_blocked at H
  refine Cw_seq ?_
  refine Cw_region ?_
  refine Ow_cons rfl (OpW_box (cs := (Op.cells p1 vp1_cases vp1_draws)) rfl rfl rfl (fun b38 => ?_))
  refine Ow_q rfl rfl rfl (Qt_assign rfl) ?_
  refine Ow_nil ?_
  refine Cw_seq ?_
  refine Cw_region ?_
  refine Ow_q rfl rfl rfl (Qt_loadA (m := 7) (cs := (Op.cells p1 vp1_cases vp1_draws)) rfl rfl rfl rfl ⟨rfl, Rdc.blk (.head _) rfl⟩) ?_
  obtain ⟨x39, hx40, H⟩ := bnd H
  refine Ow_cons rfl (OpW_call rfl Try.call63 rfl rfl (c_M_ref3_Cases p1 vp1_cases vp1_draws x39 hx40 _ _ hp1_cases hp1_draws) ?_)
  rintro _ K42 _ hK43 ⟨v41, rfl, rfl, hs44⟩
  refine Ow_q rfl rfl rfl (Qt_assign rfl) ?_
  refine Ow_nil ?_
  refine Cw_join (fun env' K' G' => [] = env' ∧ G = G' ∧ M_ref14_blocked_J1 = some y0) ?_ ?_
  · skip
    refine Cw_seq ?_
    refine Cw_region ?_
    refine Ow_q rfl rfl rfl (Qt_assign rfl) ?_
    refine Ow_nil ?_
    refine Cw_block ?_
    refine Cw_loopM (fun n101 env' K' G' => ∃ (i100 : Int), [(0, (sv vp0)), (5, (sv v41)), (6, (.int .i64 i100))] = env' ∧ K42 = K' ∧ G = G' ∧ lp1 (M_ref14_blocked_L1 p0 x39) n101 i100 = some y0) BIG ?_ ?_
    · skip
      refine Shift.rem .here ?_
      refine Shift.done ?_
      exact ⟨[(0, (sv vp0)), (5, (sv v41)), (6, (.int .i64 0))], ⟨rfl, rfl, rfl, trivial⟩, 0, rfl, rfl, rfl, H⟩
    rintro n101 _ _ _ - ⟨i100, rfl, rfl, rfl, H⟩
    obtain ⟨m102, k103, rfl, hkk104, H⟩ := lps1 H
    unfold M_ref14_blocked_L1 at H
    refine Cw_seq ?_
    refine Cw_seq ?_
    refine Cw_region ?_
    refine Ow_q rfl rfl rfl (Qt_move rfl) ?_
    refine Ow_q rfl rfl rfl (Qt_move rfl) ?_
    refine Ow_q rfl rfl rfl (Q_len (T := TyCase) hs44 rfl rfl) ?_
    refine Ow_q rfl rfl rfl (Qt_cmp rfl rfl rfl) ?_
    refine Ow_nil ?_
    refine Cw_cond rfl ?_ ?_
    · intro h106
      have h106 := dcd_t (h106)
      have H := ift h106 H
      refine Cw_skip ?_
      refine Cw_seq ?_
      refine Cw_block ?_
      refine Cw_seq ?_
      refine Cw_region ?_
      refine Ow_q rfl rfl rfl (Qt_move rfl) ?_
      refine Ow_q rfl rfl rfl (Qt_move rfl) ?_
      refine Ow_q rfl rfl rfl (Qt_move rfl) ?_
      obtain ⟨x116, hx117, H⟩ := bnd H
      obtain ⟨r118, hr119, hk120⟩ := Slr.at hs44 hx117
      obtain rfl := hr119
      refine Ow_q rfl rfl rfl (Q_ix (T := TyCase) hs44 hx117 rfl rfl rfl rfl rfl) ?_
      refine Ow_q rfl rfl rfl (Qt_loadA (m := 3) (cs := (Case.cells x116)) rfl rfl rfl rfl ⟨rfl, Rdc.k hk120 rfl⟩) ?_
      obtain ⟨x121, hx122, H⟩ := bnd H
      have hs123 := (hp0).mono hK43
      refine Ow_cons rfl (OpW_call rfl Try.call43 rfl rfl (c_M_ref14_Ready p0 vp0 x116 x121 hx122 _ _ hs123) ?_)
      rintro _ _ _ - ⟨rfl, rfl, rfl⟩
      refine Ow_nil ?_
      refine Cw_cond rfl ?_ ?_
      · intro h124
        have H := ift h124 H
        refine Cw_seq ?_
        refine Cw_region ?_
        refine Ow_q rfl rfl rfl (Qt_assign rfl) ?_
        refine Ow_nil ?_
        refine Cw_ret ?_
        obtain ey0 := inj1 H
        subst y0
        refine ⟨(by first | exact .inl rfl | exact .inr rfl), [(.bool false)], ⟨(.bool false), _, rfl, rfl, rfl⟩, ?_⟩
        refine Shift.done ?_
        exact ⟨rfl, rfl⟩
      · intro h124
        have H := iff_ (btf h124) H
        refine Cw_skip ?_
        refine Cw_region ?_
        refine Ow_q rfl rfl rfl (Qt_move rfl) ?_
        refine Ow_q rfl rfl rfl (Qt_arith (e := wI (i100 + 1)) rfl rfl rfl rfl) ?_
        refine Ow_q rfl rfl rfl (Qt_assign rfl) ?_
        refine Ow_nil ?_
        refine Shift.done ?_
        exact ⟨[(0, (sv vp0)), (5, (sv v41)), (6, (.int .i64 (wI (i100 + 1))))], ⟨rfl, rfl, rfl, trivial⟩, _, Nat.lt_succ_self _, (wI (i100 + 1)), rfl, rfl, rfl, (hkk104 ▸ H)⟩
    · intro h106
      have h106 := dcd_f (h106)
      have H := iff_ h106 H
      refine Cw_exit ?_
      refine Shift.done ?_
      exact ⟨[], trivial, rfl, rfl, H⟩
  rintro _ K125 _ hK126 ⟨rfl, rfl, H⟩
  unfold M_ref14_blocked_J1 at H
  refine Cw_seq ?_
  refine Cw_region ?_
  refine Ow_q rfl rfl rfl (Qt_assign rfl) ?_
  refine Ow_nil ?_
  refine Cw_ret ?_
  obtain ey0 := inj1 H
  subst y0
  refine ⟨(by first | exact .inl rfl | exact .inr rfl), [(.bool true)], ⟨(.bool true), _, rfl, rfl, rfl⟩, ?_⟩
  refine Shift.done ?_
  exact ⟨rfl, rfl⟩



end Go.Hx
