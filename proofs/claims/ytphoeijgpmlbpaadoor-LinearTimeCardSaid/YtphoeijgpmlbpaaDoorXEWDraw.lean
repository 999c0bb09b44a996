/- Printed by program. -/
import Derived.Test.YtphoeijgpmlbpaaDoorXEM
import Derived.Test.YtphoeijgpmlbpaaDoorXEShelf
namespace Go.Hx
open Go Go.Proofs
set_option linter.unusedSimpArgs false
set_option linter.unusedVariables false
set_option maxRecDepth 10000
set_option maxHeartbeats 1000000 in
theorem c_M_draw_Mod (p0 : Int) (p1 : Int) (y0 : Int) (H : M_draw_Mod p0 p1 = some y0) (K : Kp) (G : List Ent)  :
    Fc Tryd.prog 8 #[(.int .i64 p0), (.int .i64 p1)] K (G) (fun v K' G' => v = (.int .i64 y0) ∧ K = K' ∧ G = G') := by
  refine Fc_body Tryd.func8 rfl Tryd.ntmps8 Tryd.results8 rfl ?_
  unfold M_draw_Mod at H
  refine Cw_seq ?_
  refine Cw_region ?_
  refine Ow_q rfl rfl rfl (Qt_assign rfl) ?_
  refine Ow_nil ?_
  refine Cw_seq ?_
  refine Cw_region ?_
  refine Ow_q rfl rfl rfl (Qt_move rfl) ?_
  refine Ow_q rfl rfl rfl (Qt_move rfl) ?_
  obtain ⟨x4, hx5, H⟩ := bnd H
  refine Ow_q rfl rfl rfl (Q_rem hx5 rfl rfl) ?_
  refine Ow_q rfl rfl rfl (Qt_assign rfl) ?_
  refine Ow_nil ?_
  refine Cw_seq ?_
  refine Cw_seq ?_
  refine Cw_region ?_
  refine Ow_q rfl rfl rfl (Qt_move rfl) ?_
  refine Ow_q rfl rfl rfl (Qt_cmp rfl rfl rfl) ?_
  refine Ow_nil ?_
  refine Cw_cond rfl ?_ ?_
  · intro h7
    have h7 := dcd_t (h7)
    have H := ift h7 H
    refine Cw_region ?_
    refine Ow_q rfl rfl rfl (Qt_move rfl) ?_
    refine Ow_q rfl rfl rfl (Qt_move rfl) ?_
    refine Ow_q rfl rfl rfl (Qt_arith (e := wI (x4 + p1)) rfl rfl rfl rfl) ?_
    refine Ow_q rfl rfl rfl (Qt_assign rfl) ?_
    refine Ow_nil ?_
    refine Cw_seq ?_
    refine Cw_region ?_
    refine Ow_q rfl rfl rfl (Qt_move rfl) ?_
    refine Ow_q rfl rfl rfl (Qt_assign rfl) ?_
    refine Ow_nil ?_
    refine Cw_ret ?_
    obtain ey0 := inj1 H
    subst y0
    refine ⟨(by first | exact .inl rfl | exact .inr rfl), [(.int .i64 (wI (x4 + p1)))], ⟨(.int .i64 (wI (x4 + p1))), _, rfl, rfl, rfl⟩, ?_⟩
    refine Shift.done ?_
    exact ⟨rfl, rfl, rfl⟩
  · intro h7
    have h7 := dcd_f (h7)
    have H := iff_ h7 H
    refine Cw_skip ?_
    refine Cw_seq ?_
    refine Cw_region ?_
    refine Ow_q rfl rfl rfl (Qt_move rfl) ?_
    refine Ow_q rfl rfl rfl (Qt_assign rfl) ?_
    refine Ow_nil ?_
    refine Cw_ret ?_
    obtain ey0 := inj1 H
    subst y0
    refine ⟨(by first | exact .inl rfl | exact .inr rfl), [(.int .i64 x4)], ⟨(.int .i64 x4), _, rfl, rfl, rfl⟩, ?_⟩
    refine Shift.done ?_
    exact ⟨rfl, rfl, rfl⟩


end Go.Hx

namespace Go.Hx
open Go Go.Proofs
set_option linter.unusedSimpArgs false
set_option linter.unusedVariables false
set_option maxRecDepth 10000
set_option maxHeartbeats 1000000 in
theorem c_M_history_find (p0 : List Event) (vp0 : SV) (p1 : Int) (p2 : Int) (p3 : Bool) (y0 : Int) (H : M_history_find p0 p1 p2 p3 = some y0) (K : Kp) (G : List Ent) (hp0 : Slr TyEvent K (sv vp0) p0) :
    Fc Tryd.prog 79 #[(sv vp0), (.int .i64 p1), (.int .i64 p2), (.bool p3)] K (G) (fun v K' G' => v = (.int .i64 y0) ∧ G = G') := by
  refine Fc_body Tryd.func79 rfl Tryd.ntmps79 Tryd.results79 rfl ?_
  unfold M_history_find at H
  refine Cw_seq ?_
  refine Cw_region ?_
  refine Ow_q rfl rfl rfl (Qt_assign rfl) ?_
  refine Ow_nil ?_
  refine Cw_join (fun env' K' G' => [] = env' ∧ G = G' ∧ M_history_find_J1 = some y0) ?_ ?_
  · skip
    refine Cw_seq ?_
    refine Cw_region ?_
    refine Ow_q rfl rfl rfl (Qt_move rfl) ?_
    refine Ow_q rfl rfl rfl (Q_len (T := TyEvent) hp0 rfl rfl) ?_
    refine Ow_q rfl rfl rfl (Qt_move rfl) ?_
    refine Ow_nil ?_
    refine Cw_block ?_
    refine Cw_loopM (fun n117 env' K' G' => ∃ (i116 : Int), [(1, (.int .i64 p1)), (2, (.int .i64 p2)), (3, (.bool p3)), (11, (sv vp0)), (12, (.int .i64 (p0.length : Int))), (13, (.int .i64 i116))] = env' ∧ K = K' ∧ G = G' ∧ lp1 (M_history_find_L1 p1 p2 p3 p0) n117 i116 = some y0) BIG ?_ ?_
    · skip
      refine Shift.done ?_
      exact ⟨[(1, (.int .i64 p1)), (2, (.int .i64 p2)), (3, (.bool p3)), (11, (sv vp0)), (12, (.int .i64 (p0.length : Int))), (13, (.int .i64 0))], ⟨rfl, rfl, rfl, rfl, rfl, rfl, trivial⟩, 0, rfl, rfl, rfl, H⟩
    rintro n117 _ _ _ - ⟨i116, rfl, rfl, rfl, H⟩
    obtain ⟨m118, k119, rfl, hkk120, H⟩ := lps1 H
    unfold M_history_find_L1 at H
    refine Cw_seq ?_
    refine Cw_region ?_
    refine Ow_q rfl rfl rfl (Qt_cmp rfl rfl rfl) ?_
    refine Ow_nil ?_
    refine Cw_seq ?_
    refine Cw_cond rfl ?_ ?_
    · intro h122
      have h122 := dcd_t (h122)
      have H := ift h122 H
      refine Cw_skip ?_
      refine Cw_seq ?_
      refine Cw_block ?_
      refine Cw_seq ?_
      refine Cw_region ?_
      refine Ow_q rfl rfl rfl (Qt_move rfl) ?_
      obtain ⟨x133, hx134, H⟩ := bnd H
      obtain ⟨r135, hr136, hk137⟩ := Slr.at hp0 hx134
      obtain rfl := hr136
      refine Ow_q rfl rfl rfl (Q_ix (T := TyEvent) hp0 hx134 rfl rfl rfl rfl rfl) ?_
      refine Ow_q rfl rfl rfl (Qt_loadA (m := 8) (cs := (Event.cells x133)) rfl rfl rfl rfl ⟨rfl, Rdc.k hk137 rfl⟩) ?_
      refine Ow_cons rfl (OpW_alloc (cs := (Event.cells (Event.mk 0 0 false (Result.mk 0 0 0 false 0)))) rfl rfl rfl rfl (fun b138 => ?_))
      refine Ow_q rfl rfl rfl (Qt_assign rfl) ?_
      refine Ow_cons rfl (OpW_store (vs := (Event.cells x133)) (all' := (Event.cells x133)) rfl rfl rfl rfl rfl .here rfl rfl rfl ?_)
      refine Ow_nil ?_
      refine Cw_join (fun env' K' G' => ∃ (t141 : Bool), [(1, (.int .i64 p1)), (2, (.int .i64 p2)), (3, (.bool p3)), (9, (.int .i64 i116)), (11, (sv vp0)), (12, (.int .i64 (p0.length : Int))), (13, (.int .i64 i116)), (33, (.bool t141))] = env' ∧ K = K' ∧ G = G' ∧ M_history_find_J2 p1 p2 p3 i116 p0 k119 t141 = some y0) ?_ ?_
      · skip
        refine Cw_region ?_
        refine Ow_q rfl rfl rfl (Qt_fieldAddr (m := 0) rfl rfl rfl rfl rfl) ?_
        refine Ow_q rfl rfl rfl (Qt_load1 (v := (.int .i64 x133.thread)) rfl rfl rfl (Rdc.blk (.head _) rfl)) ?_
        refine Ow_q rfl rfl rfl (Qt_move rfl) ?_
        refine Ow_q rfl rfl rfl (Qt_cmp rfl rfl rfl) ?_
        refine Ow_q rfl rfl rfl (Qt_move rfl) ?_
        refine Ow_caseG rfl rfl rfl ?_ ?_
        · intro h142
          have h142 := dcd_t (h142)
          have H := ift h142 H
          refine Ow_qw rfl rfl rfl rfl rfl rfl (Qt_fieldAddr (m := 1) rfl rfl rfl rfl rfl) ?_
          refine Ow_qw rfl rfl rfl rfl rfl rfl (Qt_load1 (v := (.int .i64 x133.op)) rfl rfl rfl (Rdc.blk (.head _) rfl)) ?_
          refine Ow_qw rfl rfl rfl rfl rfl rfl (Qt_move rfl) ?_
          refine Ow_qw rfl rfl rfl rfl rfl rfl (Qt_cmp rfl rfl rfl) ?_
          refine Ow_q rfl rfl rfl (Qt_pick_t rfl rfl) ?_
          refine Ow_q rfl rfl rfl (Qt_move rfl) ?_
          refine Ow_caseG rfl rfl rfl ?_ ?_
          · intro h143
            have h143 := dcd_t (h143)
            have H := ift h143 H
            refine Ow_qw rfl rfl rfl rfl rfl rfl (Qt_fieldAddr (m := 2) rfl rfl rfl rfl rfl) ?_
            refine Ow_qw rfl rfl rfl rfl rfl rfl (Qt_load1 (v := (.bool x133.ret)) rfl rfl rfl (Rdc.blk (.head _) rfl)) ?_
            refine Ow_qw rfl rfl rfl rfl rfl rfl (Qt_move rfl) ?_
            refine Ow_qw rfl rfl rfl rfl rfl rfl (Qt_eqB rfl rfl rfl) ?_
            refine Ow_q rfl rfl rfl (Qt_pick_t rfl rfl) ?_
            refine Ow_nil ?_
            refine Shift.rem .here ?_
            refine Shift.done ?_
            exact ⟨[(1, (.int .i64 p1)), (2, (.int .i64 p2)), (3, (.bool p3)), (9, (.int .i64 i116)), (11, (sv vp0)), (12, (.int .i64 (p0.length : Int))), (13, (.int .i64 i116)), (33, (.bool (x133.ret == p3)))], ⟨rfl, rfl, rfl, rfl, rfl, rfl, rfl, rfl, trivial⟩, (x133.ret == p3), rfl, rfl, rfl, H⟩
          · intro h143
            have h143 := dcd_f (h143)
            have H := iff_ h143 H
            refine Ow_pass rfl rfl rfl rfl rfl rfl rfl ?_
            refine Ow_pass rfl rfl rfl rfl rfl rfl rfl ?_
            refine Ow_pass rfl rfl rfl rfl rfl rfl rfl ?_
            refine Ow_pass rfl rfl rfl rfl rfl rfl rfl ?_
            refine Ow_q rfl rfl rfl (Qt_pick_f rfl rfl) ?_
            refine Ow_nil ?_
            refine Shift.rem .here ?_
            refine Shift.done ?_
            exact ⟨[(1, (.int .i64 p1)), (2, (.int .i64 p2)), (3, (.bool p3)), (9, (.int .i64 i116)), (11, (sv vp0)), (12, (.int .i64 (p0.length : Int))), (13, (.int .i64 i116)), (33, (.bool false))], ⟨rfl, rfl, rfl, rfl, rfl, rfl, rfl, rfl, trivial⟩, false, rfl, rfl, rfl, H⟩
        · intro h142
          have h142 := dcd_f (h142)
          have H := iff_ h142 H
          refine Ow_pass rfl rfl rfl rfl rfl rfl rfl ?_
          refine Ow_pass rfl rfl rfl rfl rfl rfl rfl ?_
          refine Ow_pass rfl rfl rfl rfl rfl rfl rfl ?_
          refine Ow_pass rfl rfl rfl rfl rfl rfl rfl ?_
          refine Ow_q rfl rfl rfl (Qt_pick_f rfl rfl) ?_
          refine Ow_q rfl rfl rfl (Qt_move rfl) ?_
          refine Ow_pass rfl rfl rfl rfl rfl rfl rfl ?_
          refine Ow_pass rfl rfl rfl rfl rfl rfl rfl ?_
          refine Ow_pass rfl rfl rfl rfl rfl rfl rfl ?_
          refine Ow_pass rfl rfl rfl rfl rfl rfl rfl ?_
          refine Ow_q rfl rfl rfl (Qt_pick_f rfl rfl) ?_
          refine Ow_nil ?_
          refine Shift.rem .here ?_
          refine Shift.done ?_
          exact ⟨[(1, (.int .i64 p1)), (2, (.int .i64 p2)), (3, (.bool p3)), (9, (.int .i64 i116)), (11, (sv vp0)), (12, (.int .i64 (p0.length : Int))), (13, (.int .i64 i116)), (33, (.bool false))], ⟨rfl, rfl, rfl, rfl, rfl, rfl, rfl, rfl, trivial⟩, false, rfl, rfl, rfl, H⟩
      rintro _ _ _ - ⟨t141, rfl, rfl, rfl, H⟩
      unfold M_history_find_J2 at H
      refine Cw_cond rfl ?_ ?_
      · intro h144
        have H := ift h144 H
        refine Cw_seq ?_
        refine Cw_region ?_
        refine Ow_q rfl rfl rfl (Qt_move rfl) ?_
        refine Ow_q rfl rfl rfl (Qt_assign rfl) ?_
        refine Ow_nil ?_
        refine Cw_ret ?_
        obtain ey0 := inj1 H
        subst y0
        refine ⟨(by first | exact .inl rfl | exact .inr rfl), [(.int .i64 i116)], ⟨(.int .i64 i116), _, rfl, rfl, rfl⟩, ?_⟩
        refine Shift.done ?_
        exact ⟨rfl, rfl⟩
      · intro h144
        have H := iff_ (btf h144) H
        refine Cw_skip ?_
        refine Cw_region ?_
        refine Ow_q rfl rfl rfl (Qt_arith (e := wI (i116 + 1)) rfl rfl rfl rfl) ?_
        refine Ow_q rfl rfl rfl (Qt_move rfl) ?_
        refine Ow_nil ?_
        refine Shift.done ?_
        exact ⟨[(1, (.int .i64 p1)), (2, (.int .i64 p2)), (3, (.bool p3)), (11, (sv vp0)), (12, (.int .i64 (p0.length : Int))), (13, (.int .i64 (wI (i116 + 1))))], ⟨rfl, rfl, rfl, rfl, rfl, rfl, trivial⟩, _, Nat.lt_succ_self _, (wI (i116 + 1)), rfl, rfl, rfl, (hkk120 ▸ H)⟩
    · intro h122
      have h122 := dcd_f (h122)
      have H := iff_ h122 H
      refine Cw_exit ?_
      refine Shift.done ?_
      exact ⟨[], trivial, rfl, rfl, H⟩
  rintro _ K145 _ hK146 ⟨rfl, rfl, H⟩
  unfold M_history_find_J1 at H
  refine Cw_seq ?_
  refine Cw_region ?_
  refine Ow_q rfl rfl rfl (Qt_assign rfl) ?_
  refine Ow_nil ?_
  refine Cw_ret ?_
  obtain ey0 := inj1 H
  subst y0
  refine ⟨(by first | exact .inl rfl | exact .inr rfl), [(.int .i64 (-1))], ⟨(.int .i64 (-1)), _, rfl, rfl, rfl⟩, ?_⟩
  refine Shift.done ?_
  exact ⟨rfl, rfl⟩

set_option maxHeartbeats 1000000 in
theorem c_M_history_Called (p0 : List Event) (vp0 : SV) (p1 : Int) (p2 : Int) (y0 : Int) (H : M_history_Called p0 p1 p2 = some y0) (K : Kp) (G : List Ent) (hp0 : Slr TyEvent K (sv vp0) p0) :
    Fc Tryd.prog 49 #[(sv vp0), (.int .i64 p1), (.int .i64 p2)] K (G) (fun v K' G' => v = (.int .i64 y0) ∧ G = G') := by
  refine Fc_body Tryd.func49 rfl Tryd.ntmps49 Tryd.results49 rfl ?_
  unfold M_history_Called at H
  refine Cw_seq ?_
  refine Cw_region ?_
  refine Ow_q rfl rfl rfl (Qt_assign rfl) ?_
  refine Ow_nil ?_
  refine Cw_seq ?_
  refine Cw_region ?_
  refine Ow_q rfl rfl rfl (Qt_move rfl) ?_
  refine Ow_q rfl rfl rfl (Qt_move rfl) ?_
  refine Ow_q rfl rfl rfl (Qt_move rfl) ?_
  obtain ⟨x5, hx6, H⟩ := bnd H
  refine Ow_cons rfl (OpW_call rfl Tryd.call79 rfl rfl (c_M_history_find p0 vp0 p1 p2 false x5 hx6 _ _ hp0) ?_)
  rintro _ K7 _ hK8 ⟨rfl, rfl⟩
  refine Ow_q rfl rfl rfl (Qt_assign rfl) ?_
  refine Ow_nil ?_
  refine Cw_ret ?_
  obtain ey0 := inj1 H
  subst y0
  refine ⟨(by first | exact .inl rfl | exact .inr rfl), [(.int .i64 x5)], ⟨(.int .i64 x5), _, rfl, rfl, rfl⟩, ?_⟩
  refine Shift.done ?_
  exact ⟨rfl, rfl⟩

set_option maxHeartbeats 1000000 in
theorem c_M_history_Returned (p0 : List Event) (vp0 : SV) (p1 : Int) (p2 : Int) (y0 : Result) (y1 : Int) (H : M_history_Returned p0 p1 p2 = some (y0, y1)) (K : Kp) (G : List Ent) (hp0 : Slr TyEvent K (sv vp0) p0) :
    Fc Tryd.prog 50 #[(sv vp0), (.int .i64 p1), (.int .i64 p2)] K (G) (fun v K' G' => v = (.tuple #[(.agg (Result.cells y0).toArray), (.int .i64 y1)]) ∧ G = G') := by
  refine Fc_body Tryd.func50 rfl Tryd.ntmps50 Tryd.results50 rfl ?_
  unfold M_history_Returned at H
  refine Cw_seq ?_
  refine Cw_region ?_
  refine Ow_cons rfl (OpW_alloc (cs := (Result.cells (Result.mk 0 0 0 false 0))) rfl rfl rfl rfl (fun b13 => ?_))
  refine Ow_q rfl rfl rfl (Qt_assign rfl) ?_
  refine Ow_nil ?_
  refine Cw_seq ?_
  refine Cw_region ?_
  refine Ow_q rfl rfl rfl (Qt_move rfl) ?_
  refine Ow_q rfl rfl rfl (Qt_move rfl) ?_
  refine Ow_q rfl rfl rfl (Qt_move rfl) ?_
  obtain ⟨x14, hx15, H⟩ := bnd H
  refine Ow_cons rfl (OpW_call rfl Tryd.call79 rfl rfl (c_M_history_find p0 vp0 p1 p2 true x14 hx15 _ _ hp0) ?_)
  rintro _ K16 _ hK17 ⟨rfl, rfl⟩
  refine Ow_q rfl rfl rfl (Qt_assign rfl) ?_
  refine Ow_nil ?_
  refine Cw_seq ?_
  refine Cw_seq ?_
  refine Cw_region ?_
  refine Ow_q rfl rfl rfl (Qt_move rfl) ?_
  refine Ow_q rfl rfl rfl (Qt_cmp rfl rfl rfl) ?_
  refine Ow_nil ?_
  refine Cw_cond rfl ?_ ?_
  · intro h19
    have h19 := dcd_t (h19)
    have H := ift h19 H
    refine Cw_seq ?_
    refine Cw_region ?_
    refine Ow_q rfl rfl rfl (Qt_build (cs := (Result.cells (Result.mk 0 0 0 false 0))) rfl rfl rfl rfl rfl rfl) ?_
    refine Ow_cons rfl (OpW_store (vs := (Result.cells (Result.mk 0 0 0 false 0))) (all' := (Result.cells (Result.mk 0 0 0 false 0))) rfl rfl rfl rfl rfl .here rfl rfl rfl ?_)
    refine Ow_q rfl rfl rfl (Qt_assign rfl) ?_
    refine Ow_nil ?_
    refine Cw_ret ?_
    obtain ⟨ey0, ey1⟩ := inj2 H
    subst y0 y1
    refine ⟨(by first | exact .inl rfl | exact .inr rfl), [(.agg (Result.cells (Result.mk 0 0 0 false 0)).toArray), (.int .i64 (-1))], ⟨(.agg (Result.cells (Result.mk 0 0 0 false 0)).toArray), _, rfl, ⟨_, 5, (Result.cells (Result.mk 0 0 0 false 0)), rfl, rfl, rfl, rfl, ⟨rfl, Rdc.blk (.head _) rfl⟩, rfl⟩, ⟨(.int .i64 (-1)), _, rfl, rfl, rfl⟩⟩, ?_⟩
    refine Shift.rem .here ?_
    refine Shift.done ?_
    exact ⟨rfl, rfl⟩
  · intro h19
    have h19 := dcd_f (h19)
    have H := iff_ h19 H
    refine Cw_skip ?_
    refine Cw_seq ?_
    refine Cw_region ?_
    refine Ow_q rfl rfl rfl (Qt_move rfl) ?_
    refine Ow_q rfl rfl rfl (Qt_move rfl) ?_
    obtain ⟨x20, hx21, H⟩ := bnd H
    have hs22 := (hp0).mono hK17
    obtain ⟨r23, hr24, hk25⟩ := Slr.at hs22 hx21
    obtain rfl := hr24
    refine Ow_q rfl rfl rfl (Q_ix (T := TyEvent) hs22 hx21 rfl rfl rfl rfl rfl) ?_
    refine Ow_q rfl rfl rfl (Qt_fieldAddr (m := 3) rfl rfl rfl rfl rfl) ?_
    refine Ow_q rfl rfl rfl (Qt_loadA (m := 5) (cs := (Result.cells x20.result)) rfl rfl rfl rfl ⟨rfl, Rdc.k hk25 rfl⟩) ?_
    refine Ow_q rfl rfl rfl (Qt_move rfl) ?_
    refine Ow_cons rfl (OpW_store (vs := (Result.cells x20.result)) (all' := (Result.cells x20.result)) rfl rfl rfl rfl rfl .here rfl rfl rfl ?_)
    refine Ow_q rfl rfl rfl (Qt_assign rfl) ?_
    refine Ow_nil ?_
    refine Cw_ret ?_
    obtain ⟨ey0, ey1⟩ := inj2 H
    subst y0 y1
    refine ⟨(by first | exact .inl rfl | exact .inr rfl), [(.agg (Result.cells x20.result).toArray), (.int .i64 x14)], ⟨(.agg (Result.cells x20.result).toArray), _, rfl, ⟨_, 5, (Result.cells x20.result), rfl, rfl, rfl, rfl, ⟨rfl, Rdc.blk (.head _) rfl⟩, rfl⟩, ⟨(.int .i64 x14), _, rfl, rfl, rfl⟩⟩, ?_⟩
    refine Shift.rem .here ?_
    refine Shift.done ?_
    exact ⟨rfl, rfl⟩



end Go.Hx

namespace Go.Hx
open Go Go.Proofs
set_option linter.unusedSimpArgs false
set_option linter.unusedVariables false
set_option maxRecDepth 10000
set_option maxHeartbeats 1000000 in
theorem c_M_linear_begin (p0 : List (List Op)) (vp0 : SV) (p1 : List Event) (vp1 : SV) (y0_0 : List (List Linear_call)) (y0_1 : Bool) (y0_3 : ByteArray → Option Bool) (H : M_linear_begin p0 p1 = some (y0_0, y0_1, y0_3)) (K : Kp) (G : List Ent) (hp0 : Slr (Ty.sl TyOp) K (sv vp0) p0) (hp1 : Slr TyEvent K (sv vp1) p1) :
    Fc Tryd.prog 28 #[(sv vp0), (sv vp1)] K (G) (fun v K' G' => ∃ (by0 : Nat) (wy0_0 : SV) (by0_3 : Nat) (esy0_3 : Array MapEntry) (cky0_3 : Nat), v = (.pointer (some ((⟨by0, 0, none⟩ : Addr).add 0))) ∧ (.obj by0_3 (.map esy0_3 cky0_3)) :: (.blk by0 82 [(sv wy0_0), (.bool y0_1), .nilFunc, (.map (some by0_3)), (sv nilS)]) :: G = G' ∧ Slr (Ty.sl TyLinear_call) K' (sv wy0_0) y0_0 ∧ MapR Ty.bool Value.string K' esy0_3 y0_3) := by
  refine Fc_body Tryd.func28 rfl Tryd.ntmps28 Tryd.results28 rfl ?_
  unfold M_linear_begin at H
  refine Cw_seq ?_
  refine Cw_region ?_
  refine Ow_q rfl rfl rfl (Qt_assign rfl) ?_
  refine Ow_nil ?_
  refine Cw_seq ?_
  refine Cw_region ?_
  refine Ow_q rfl rfl rfl (Qt_move rfl) ?_
  refine Ow_q rfl rfl rfl (Q_len (T := (Ty.sl TyOp)) hp0 rfl rfl) ?_
  obtain ⟨x615, hx616, H⟩ := bnd H
  refine Ow_cons rfl (O_make (T := (Ty.sl TyLinear_call)) (r := [(sv nilS)]) rfl rfl rfl hx616 rfl rfl rfl rfl rfl rfl rfl rfl rfl ⟨nilS, rfl, (Slr.nil TyLinear_call _)⟩ (fun v617 rs618 hR619 hz620 => ?_))
  obtain ⟨vs621, rss622, hv623, hr624, hN625⟩ := NestR.new TyLinear_call K hx616
  obtain rfl : rs618 = vs621.map one := by rw [hz620, hv623]; exact map_one_replicate.symm
  refine Ow.shift (Shift.nestNew hv623 hr624 109 14 (Shift.done ?_))
  refine Ow_cons rfl (O_makeMap Ty.bool Value.string rfl (fun b626 es627 ck628 hM629 => ?_))
  refine Ow_q rfl rfl rfl (Qt_build (cs := [(sv v617), (.bool false), .nilFunc, (.map (some b626)), (sv nilS)]) rfl rfl rfl rfl rfl rfl) ?_
  refine Ow_cons rfl (OpW_box (cs := [(sv v617), (.bool false), .nilFunc, (.map (some b626)), (sv nilS)]) rfl rfl rfl (fun b630 => ?_))
  refine Ow_q rfl rfl rfl (Qt_assign rfl) ?_
  refine Ow_nil ?_
  refine Cw_join (fun env' K' G' => ∃ (l1223 : List (List Linear_call)) (vs1224 : List Value) (rss1225 : List (List (List Value))), [(5, (.pointer (some ((⟨b630, 0, none⟩ : Addr).add 0))))] = env' ∧ (.blk b630 82 [(sv v617), (.bool false), .nilFunc, (.map (some b626)), (sv nilS)]) :: (.row (sv v617) 112 1 (vs1224.map one).flatten) :: (.rws 109 14 vs1224 (rss1225.map List.flatten)) :: (.obj b626 (.map es627 ck628)) :: G = G' ∧ M_linear_begin_J1 l1223 = some (y0_0, y0_1, y0_3) ∧ NestR TyLinear_call K' vs1224 rss1225 l1223) ?_ ?_
  · skip
    refine Cw_seq ?_
    refine Cw_region ?_
    refine Ow_q rfl rfl rfl (Qt_move rfl) ?_
    refine Ow_q rfl rfl rfl (Q_len (T := (Ty.sl TyOp)) hp0 rfl rfl) ?_
    refine Ow_q rfl rfl rfl (Qt_move rfl) ?_
    refine Ow_nil ?_
    refine Cw_block ?_
    refine Cw_loopM (fun n1819 env' K' G' => ∃ (i1814 : Int) (l1815 : List (List Linear_call)) (vs1816 : List Value) (rss1817 : List (List (List Value))), [(0, (sv vp0)), (1, (sv vp1)), (5, (.pointer (some ((⟨b630, 0, none⟩ : Addr).add 0)))), (17, (.int .i64 (p0.length : Int))), (18, (.int .i64 i1814))] = env' ∧ (.blk b630 82 [(sv v617), (.bool false), .nilFunc, (.map (some b626)), (sv nilS)]) :: (.row (sv v617) 112 1 (vs1816.map one).flatten) :: (.rws 109 14 vs1816 (rss1817.map List.flatten)) :: (.obj b626 (.map es627 ck628)) :: G = G' ∧ lp2 (M_linear_begin_L1 p0 p1) n1819 i1814 l1815 = some (y0_0, y0_1, y0_3) ∧ NestR TyLinear_call K' vs1816 rss1817 l1815) BIG ?_ ?_
    · skip
      refine Shift.pull (.there .here) ?_
      refine Shift.pull (.there (.there .here)) ?_
      refine Shift.pull (.there (.there (.there .here))) ?_
      refine Shift.pull (.there (.there (.there .here))) ?_
      refine Shift.done ?_
      exact ⟨[(0, (sv vp0)), (1, (sv vp1)), (5, (.pointer (some ((⟨b630, 0, none⟩ : Addr).add 0)))), (17, (.int .i64 (p0.length : Int))), (18, (.int .i64 0))], ⟨rfl, rfl, rfl, rfl, rfl, trivial⟩, 0, x615, vs621, rss622, rfl, rfl, H, hN625⟩
    rintro n1819 _ K1820 _ hK1821 ⟨i1814, l1815, vs1816, rss1817, rfl, rfl, H, hN1818⟩
    obtain ⟨m1822, k1823, rfl, hkk1824, H⟩ := lps2 H
    unfold M_linear_begin_L1 at H
    refine Cw_seq ?_
    refine Cw_region ?_
    refine Ow_q rfl rfl rfl (Qt_cmp rfl rfl rfl) ?_
    refine Ow_nil ?_
    refine Cw_seq ?_
    refine Cw_cond rfl ?_ ?_
    · intro h1826
      have h1826 := dcd_t (h1826)
      have H := ift h1826 H
      refine Cw_skip ?_
      refine Cw_join (fun env' K' G' => ∃ (l2109 : List (List Linear_call)) (vs2110 : List Value) (rss2111 : List (List (List Value))), [(0, (sv vp0)), (1, (sv vp1)), (5, (.pointer (some ((⟨b630, 0, none⟩ : Addr).add 0)))), (17, (.int .i64 (p0.length : Int))), (18, (.int .i64 i1814))] = env' ∧ (.blk b630 82 [(sv v617), (.bool false), .nilFunc, (.map (some b626)), (sv nilS)]) :: (.row (sv v617) 112 1 (vs2110.map one).flatten) :: (.rws 109 14 vs2110 (rss2111.map List.flatten)) :: (.obj b626 (.map es627 ck628)) :: G = G' ∧ M_linear_begin_J2 p0 p1 i1814 k1823 l2109 = some (y0_0, y0_1, y0_3) ∧ NestR TyLinear_call K' vs2110 rss2111 l2109) ?_ ?_
      · skip
        refine Cw_block ?_
        refine Cw_seq ?_
        refine Cw_region ?_
        refine Ow_q rfl rfl rfl (Qt_move rfl) ?_
        refine Ow_q rfl rfl rfl (Qt_assign rfl) ?_
        refine Ow_nil ?_
        refine Cw_seq ?_
        refine Cw_region ?_
        refine Ow_q rfl rfl rfl (Qt_move rfl) ?_
        refine Ow_q rfl rfl rfl (Qt_move rfl) ?_
        obtain ⟨x2113, hx2114, H⟩ := bnd H
        have hs2115 := (hp0).mono hK1821
        obtain ⟨r2116, hr2117, hk2118⟩ := Slr.at hs2115 hx2114
        obtain ⟨v2119, rfl, hs2120⟩ := hr2117
        refine Ow_q rfl rfl rfl (Q_ix (T := (Ty.sl TyOp)) hs2115 hx2114 rfl rfl rfl rfl rfl) ?_
        refine Ow_q rfl rfl rfl (Qt_load1 (v := (sv v2119)) rfl rfl rfl (Rdc.k hk2118 rfl)) ?_
        refine Ow_q rfl rfl rfl (Q_len (T := TyOp) hs2120 rfl rfl) ?_
        refine Ow_q rfl rfl rfl (Qt_move rfl) ?_
        refine Ow_nil ?_
        refine Cw_block ?_
        refine Cw_loopM (fun n2395 env' K' G' => ∃ (i2390 : Int) (l2391 : List (List Linear_call)) (vs2392 : List Value) (rss2393 : List (List (List Value))), [(0, (sv vp0)), (1, (sv vp1)), (5, (.pointer (some ((⟨b630, 0, none⟩ : Addr).add 0)))), (6, (.int .i64 i1814)), (17, (.int .i64 (p0.length : Int))), (18, (.int .i64 i1814)), (24, (sv v2119)), (25, (.int .i64 (x2113.length : Int))), (26, (.int .i64 i2390))] = env' ∧ (.blk b630 82 [(sv v617), (.bool false), .nilFunc, (.map (some b626)), (sv nilS)]) :: (.row (sv v617) 112 1 (vs2392.map one).flatten) :: (.rws 109 14 vs2392 (rss2393.map List.flatten)) :: (.obj b626 (.map es627 ck628)) :: G = G' ∧ lp2 (M_linear_begin_L2 p0 p1 i1814 x2113 k1823) n2395 i2390 l2391 = some (y0_0, y0_1, y0_3) ∧ NestR TyLinear_call K' vs2392 rss2393 l2391) BIG ?_ ?_
        · skip
          refine Shift.pull (.there (.there (.there .here))) ?_
          refine Shift.pull (.there (.there (.there .here))) ?_
          refine Shift.pull (.there (.there (.there .here))) ?_
          refine Shift.pull (.there (.there (.there .here))) ?_
          refine Shift.done ?_
          exact ⟨[(0, (sv vp0)), (1, (sv vp1)), (5, (.pointer (some ((⟨b630, 0, none⟩ : Addr).add 0)))), (6, (.int .i64 i1814)), (17, (.int .i64 (p0.length : Int))), (18, (.int .i64 i1814)), (24, (sv v2119)), (25, (.int .i64 (x2113.length : Int))), (26, (.int .i64 0))], ⟨rfl, rfl, rfl, rfl, rfl, rfl, rfl, rfl, rfl, trivial⟩, 0, l1815, vs1816, rss1817, rfl, rfl, H, hN1818⟩
        rintro n2395 _ K2396 _ hK2397 ⟨i2390, l2391, vs2392, rss2393, rfl, rfl, H, hN2394⟩
        obtain ⟨m2398, k2399, rfl, hkk2400, H⟩ := lps2 H
        unfold M_linear_begin_L2 at H
        refine Cw_seq ?_
        refine Cw_region ?_
        refine Ow_q rfl rfl rfl (Qt_cmp rfl rfl rfl) ?_
        refine Ow_nil ?_
        refine Cw_seq ?_
        refine Cw_cond rfl ?_ ?_
        · intro h2402
          have h2402 := dcd_t (h2402)
          have H := ift h2402 H
          refine Cw_skip ?_
          refine Cw_join (fun env' K' G' => ∃ (l2526 : List (List Linear_call)) (vs2527 : List Value) (rss2528 : List (List (List Value))), [(0, (sv vp0)), (1, (sv vp1)), (5, (.pointer (some ((⟨b630, 0, none⟩ : Addr).add 0)))), (6, (.int .i64 i1814)), (17, (.int .i64 (p0.length : Int))), (18, (.int .i64 i1814)), (24, (sv v2119)), (25, (.int .i64 (x2113.length : Int))), (26, (.int .i64 i2390))] = env' ∧ (.blk b630 82 [(sv v617), (.bool false), .nilFunc, (.map (some b626)), (sv nilS)]) :: (.row (sv v617) 112 1 (vs2527.map one).flatten) :: (.rws 109 14 vs2527 (rss2528.map List.flatten)) :: (.obj b626 (.map es627 ck628)) :: G = G' ∧ M_linear_begin_J3 p0 p1 i1814 x2113 i2390 k1823 k2399 l2526 = some (y0_0, y0_1, y0_3) ∧ NestR TyLinear_call K' vs2527 rss2528 l2526) ?_ ?_
          · skip
            refine Cw_block ?_
            refine Cw_seq ?_
            refine Cw_region ?_
            refine Ow_q rfl rfl rfl (Qt_move rfl) ?_
            obtain ⟨x2530, hx2531, H⟩ := bnd H
            have hs2532 := (hs2120).mono hK2397
            obtain ⟨r2533, hr2534, hk2535⟩ := Slr.at hs2532 hx2531
            obtain ⟨v2536, v2537, rfl, hs2538, hs2539⟩ := hr2534
            refine Ow_q rfl rfl rfl (Q_ix (T := TyOp) hs2532 hx2531 rfl rfl rfl rfl rfl) ?_
            refine Ow_q rfl rfl rfl (Qt_loadA (m := 7) (cs := (Op.cells x2530 v2536 v2537)) rfl rfl rfl rfl ⟨rfl, Rdc.k hk2535 rfl⟩) ?_
            refine Ow_cons rfl (OpW_alloc (cs := (Op.cells (Op.mk 0 0 0 0 0 [] []) nilS nilS)) rfl rfl rfl rfl (fun b2540 => ?_))
            refine Ow_q rfl rfl rfl (Qt_assign rfl) ?_
            refine Ow_cons rfl (OpW_store (vs := (Op.cells x2530 v2536 v2537)) (all' := (Op.cells x2530 v2536 v2537)) rfl rfl rfl rfl rfl .here rfl rfl rfl ?_)
            refine Ow_nil ?_
            refine Cw_join (fun env' K' G' => ∃ (b2555 : Nat) (i2556 : Int), [(0, (sv vp0)), (1, (sv vp1)), (5, (.pointer (some ((⟨b630, 0, none⟩ : Addr).add 0)))), (6, (.int .i64 i1814)), (7, (.int .i64 i2390)), (9, (.pointer (some ((⟨b2555, 0, none⟩ : Addr).add 0)))), (17, (.int .i64 (p0.length : Int))), (18, (.int .i64 i1814)), (24, (sv v2119)), (25, (.int .i64 (x2113.length : Int))), (26, (.int .i64 i2390))] = env' ∧ (.blk b2555 109 (Linear_call.cells (Linear_call.mk x2530 (Result.mk 0 0 0 false 0) i2556 0) v2536 v2537)) :: (.blk b630 82 [(sv v617), (.bool false), .nilFunc, (.map (some b626)), (sv nilS)]) :: (.row (sv v617) 112 1 (vs2392.map one).flatten) :: (.rws 109 14 vs2392 (rss2393.map List.flatten)) :: (.obj b626 (.map es627 ck628)) :: G = G' ∧ M_linear_begin_J4 p0 p1 i1814 i2390 x2113 x2530 l2391 k1823 k2399 i2556 = some (y0_0, y0_1, y0_3)) ?_ ?_
            · skip
              obtain ⟨x2557, hx2558, H⟩ := bnd H
              refine Cw_region_any [.blk b2540 43 (Op.cells x2530 v2536 v2537), .blk b630 82 [(sv v617), (.bool false), .nilFunc, (.map (some b626)), (sv nilS)], .row (sv v617) 112 1 (vs2392.map one).flatten, .rws 109 14 vs2392 (rss2393.map List.flatten), .obj b626 (.map es627 ck628)] rfl (Inc.cons (.head _) (Inc.cons (.tail _ (.head _)) (Inc.cons (.tail _ (.tail _ (.head _))) (Inc.cons (.tail _ (.tail _ (.tail _ (.head _)))) (Inc.cons (.tail _ (.tail _ (.tail _ (.tail _ (.head _))))) Inc.nil))))) ?_
              refine Aw_q 0 rfl (by kernel_rfl) (by kernel_rfl) (by kernel_rfl) rfl rfl rfl (Qt_loadA (m := 7) (cs := (Op.cells x2530 v2536 v2537)) rfl rfl rfl rfl ⟨rfl, Rdc.blk (.head _) rfl⟩) ?_
              refine Aw_q 1 rfl (by kernel_rfl) (by kernel_rfl) (by kernel_rfl) rfl rfl rfl (Qt_move rfl) ?_
              refine Aw_q 2 rfl (by kernel_rfl) (by kernel_rfl) (by kernel_rfl) rfl rfl rfl (Qt_move rfl) ?_
              refine Aw_q 3 rfl (by kernel_rfl) (by kernel_rfl) (by kernel_rfl) rfl rfl rfl (Qt_move rfl) ?_
              refine Aw_two 4 6 (by kernel_rfl) ?_ ?_
              · skip
                refine id (Ax_mk rfl rfl ?_)
                have hs2563 := ((hp1).mono hK1821).mono hK2397
                refine OpW_call rfl Tryd.call49 rfl rfl (c_M_history_Called p1 vp1 i1814 i2390 x2557 hx2558 _ _ hs2563) ?_
                rintro _ K2564 _ hK2565 ⟨rfl, rfl⟩
                refine ⟨(Inc.cons (.head _) (Inc.cons (.tail _ (.head _)) (Inc.cons (.tail _ (.tail _ (.head _))) (Inc.cons (.tail _ (.tail _ (.tail _ (.head _)))) (Inc.cons (.tail _ (.tail _ (.tail _ (.tail _ (.head _))))) Inc.nil))))), ?_⟩
                refine Aw_q 5 rfl (by kernel_rfl) (by kernel_rfl) (by kernel_rfl) rfl rfl rfl (Qt_build (cs := (Linear_call.cells (Linear_call.mk x2530 (Result.mk 0 0 0 false 0) x2557 0) v2536 v2537)) rfl rfl rfl rfl rfl rfl) ?_
                refine Aw_one 6 (by kernel_rfl) (Ax_mk rfl rfl ?_)
                refine OpW_alloc (cs := (Linear_call.cells (Linear_call.mk (Op.mk 0 0 0 0 0 [] []) (Result.mk 0 0 0 false 0) 0 0) nilS nilS)) rfl rfl rfl rfl (fun b2566 => ⟨(Inc.cons (.tail _ (.head _)) (Inc.cons (.tail _ (.tail _ (.head _))) (Inc.cons (.tail _ (.tail _ (.tail _ (.head _)))) (Inc.cons (.tail _ (.tail _ (.tail _ (.tail _ (.head _))))) (Inc.cons (.tail _ (.tail _ (.tail _ (.tail _ (.tail _ (.head _)))))) Inc.nil))))), ?_⟩)
                refine Aw_one 7 (by kernel_rfl) (Ax_mk rfl rfl ?_)
                refine OpW_store (vs := (Linear_call.cells (Linear_call.mk x2530 (Result.mk 0 0 0 false 0) x2557 0) v2536 v2537)) (all' := (Linear_call.cells (Linear_call.mk x2530 (Result.mk 0 0 0 false 0) x2557 0) v2536 v2537)) rfl rfl rfl rfl rfl .here rfl rfl rfl ⟨(Inc.cons (.tail _ (.head _)) (Inc.cons (.tail _ (.tail _ (.head _))) (Inc.cons (.tail _ (.tail _ (.tail _ (.head _)))) (Inc.cons (.tail _ (.tail _ (.tail _ (.tail _ (.head _))))) (Inc.cons (.tail _ (.tail _ (.tail _ (.tail _ (.tail _ (.head _)))))) Inc.nil))))), ?_⟩
                refine Aw_done (by kernel_rfl) ?_
                refine Shift.pull (.there (.there (.there (.there (.there .here))))) ?_
                refine Shift.pull (.there (.there (.there (.there (.there .here))))) ?_
                refine Shift.pull (.there (.there (.there (.there (.there .here))))) ?_
                refine Shift.pull (.there (.there (.there (.there (.there .here))))) ?_
                refine Shift.pull (.there (.there (.there (.there .here)))) ?_
                refine Shift.rem (.there (.there (.there (.there (.there .here))))) ?_
                refine Shift.done ?_
                exact ⟨[(0, (sv vp0)), (1, (sv vp1)), (5, (.pointer (some ((⟨b630, 0, none⟩ : Addr).add 0)))), (6, (.int .i64 i1814)), (7, (.int .i64 i2390)), (9, (.pointer (some ((⟨b2566, 0, none⟩ : Addr).add 0)))), (17, (.int .i64 (p0.length : Int))), (18, (.int .i64 i1814)), (24, (sv v2119)), (25, (.int .i64 (x2113.length : Int))), (26, (.int .i64 i2390))], ⟨rfl, rfl, rfl, rfl, rfl, rfl, rfl, rfl, rfl, rfl, rfl, trivial⟩, b2566, x2557, rfl, rfl, H⟩
              · skip
                refine id (Ax_mk rfl rfl ?_)
                refine OpW_alloc (cs := (Linear_call.cells (Linear_call.mk (Op.mk 0 0 0 0 0 [] []) (Result.mk 0 0 0 false 0) 0 0) nilS nilS)) rfl rfl rfl rfl (fun b2567 => ⟨(Inc.cons (.tail _ (.head _)) (Inc.cons (.tail _ (.tail _ (.head _))) (Inc.cons (.tail _ (.tail _ (.tail _ (.head _)))) (Inc.cons (.tail _ (.tail _ (.tail _ (.tail _ (.head _))))) (Inc.cons (.tail _ (.tail _ (.tail _ (.tail _ (.tail _ (.head _)))))) Inc.nil))))), ?_⟩)
                refine Aw_one 4 (by kernel_rfl) (Ax_mk rfl rfl ?_)
                have hs2568 := ((hp1).mono hK1821).mono hK2397
                refine OpW_call rfl Tryd.call49 rfl rfl (c_M_history_Called p1 vp1 i1814 i2390 x2557 hx2558 _ _ hs2568) ?_
                rintro _ K2569 _ hK2570 ⟨rfl, rfl⟩
                refine ⟨(Inc.cons (.tail _ (.head _)) (Inc.cons (.tail _ (.tail _ (.head _))) (Inc.cons (.tail _ (.tail _ (.tail _ (.head _)))) (Inc.cons (.tail _ (.tail _ (.tail _ (.tail _ (.head _))))) (Inc.cons (.tail _ (.tail _ (.tail _ (.tail _ (.tail _ (.head _)))))) Inc.nil))))), ?_⟩
                refine Aw_q 5 rfl (by kernel_rfl) (by kernel_rfl) (by kernel_rfl) rfl rfl rfl (Qt_build (cs := (Linear_call.cells (Linear_call.mk x2530 (Result.mk 0 0 0 false 0) x2557 0) v2536 v2537)) rfl rfl rfl rfl rfl rfl) ?_
                refine Aw_one 7 (by kernel_rfl) (Ax_mk rfl rfl ?_)
                refine OpW_store (vs := (Linear_call.cells (Linear_call.mk x2530 (Result.mk 0 0 0 false 0) x2557 0) v2536 v2537)) (all' := (Linear_call.cells (Linear_call.mk x2530 (Result.mk 0 0 0 false 0) x2557 0) v2536 v2537)) rfl rfl rfl rfl rfl .here rfl rfl rfl ⟨(Inc.cons (.tail _ (.head _)) (Inc.cons (.tail _ (.tail _ (.head _))) (Inc.cons (.tail _ (.tail _ (.tail _ (.head _)))) (Inc.cons (.tail _ (.tail _ (.tail _ (.tail _ (.head _))))) (Inc.cons (.tail _ (.tail _ (.tail _ (.tail _ (.tail _ (.head _)))))) Inc.nil))))), ?_⟩
                refine Aw_done (by kernel_rfl) ?_
                refine Shift.pull (.there (.there (.there (.there (.there .here))))) ?_
                refine Shift.pull (.there (.there (.there (.there (.there .here))))) ?_
                refine Shift.pull (.there (.there (.there (.there (.there .here))))) ?_
                refine Shift.pull (.there (.there (.there (.there (.there .here))))) ?_
                refine Shift.pull (.there (.there (.there (.there .here)))) ?_
                refine Shift.rem (.there (.there (.there (.there (.there .here))))) ?_
                refine Shift.done ?_
                exact ⟨[(0, (sv vp0)), (1, (sv vp1)), (5, (.pointer (some ((⟨b630, 0, none⟩ : Addr).add 0)))), (6, (.int .i64 i1814)), (7, (.int .i64 i2390)), (9, (.pointer (some ((⟨b2567, 0, none⟩ : Addr).add 0)))), (17, (.int .i64 (p0.length : Int))), (18, (.int .i64 i1814)), (24, (sv v2119)), (25, (.int .i64 (x2113.length : Int))), (26, (.int .i64 i2390))], ⟨rfl, rfl, rfl, rfl, rfl, rfl, rfl, rfl, rfl, rfl, rfl, trivial⟩, b2567, x2557, rfl, rfl, H⟩
            rintro _ K2571 _ hK2572 ⟨b2555, i2556, rfl, rfl, H⟩
            unfold M_linear_begin_J4 at H
            refine Cw_seq ?_
            refine Cw_seq ?_
            refine Cw_region ?_
            refine Ow_q rfl rfl rfl (Qt_fieldAddr (m := 12) rfl rfl rfl rfl rfl) ?_
            refine Ow_q rfl rfl rfl (Qt_load1 (v := (.int .i64 i2556)) rfl rfl rfl (Rdc.blk (.head _) rfl)) ?_
            refine Ow_q rfl rfl rfl (Qt_cmp rfl rfl rfl) ?_
            refine Ow_nil ?_
            refine Cw_cond rfl ?_ ?_
            · intro h2574
              have h2574 := dcd_t (h2574)
              have H := ift h2574 H
              refine Cw_exit ?_
              refine Shift.pull (.there (.there (.there (.there .here)))) ?_
              refine Shift.pull (.there (.there (.there (.there .here)))) ?_
              refine Shift.pull (.there (.there (.there (.there .here)))) ?_
              refine Shift.pull (.there (.there (.there (.there .here)))) ?_
              refine Shift.rem (.there (.there (.there (.there .here)))) ?_
              have hs2575 := (hN2394).mono hK2572
              refine Shift.done ?_
              exact ⟨[(0, (sv vp0)), (1, (sv vp1)), (5, (.pointer (some ((⟨b630, 0, none⟩ : Addr).add 0)))), (17, (.int .i64 (p0.length : Int))), (18, (.int .i64 i1814))], ⟨rfl, rfl, rfl, rfl, rfl, trivial⟩, l2391, vs2392, rss2393, rfl, rfl, H, hs2575⟩
            · intro h2574
              have h2574 := dcd_f (h2574)
              have H := iff_ h2574 H
              refine Cw_skip ?_
              refine Cw_seq ?_
              refine Cw_region ?_
              refine Ow_q rfl rfl rfl (Qt_move rfl) ?_
              refine Ow_q rfl rfl rfl (Qt_move rfl) ?_
              refine Ow_q rfl rfl rfl (Qt_move rfl) ?_
              obtain ⟨x2576, x2577, hx2578, H⟩ := bnd2 H
              have hs2579 := (((hp1).mono hK1821).mono hK2397).mono hK2572
              refine Ow_cons rfl (OpW_call rfl Tryd.call50 rfl rfl (c_M_history_Returned p1 vp1 i1814 i2390 x2576 x2577 hx2578 _ _ hs2579) ?_)
              rintro _ K2580 _ hK2581 ⟨rfl, rfl⟩
              refine Ow_q rfl rfl rfl (Qt_move rfl) ?_
              refine Ow_q rfl rfl rfl (Qt_extract rfl rfl) ?_
              refine Ow_q rfl rfl rfl (Qt_extract rfl rfl) ?_
              refine Ow_q rfl rfl rfl (Qt_fieldAddr (m := 7) rfl rfl rfl rfl rfl) ?_
              refine Ow_cons rfl (OpW_store (vs := (Result.cells x2576)) (all' := (Linear_call.cells (Linear_call.mk x2530 x2576 i2556 0) v2536 v2537)) rfl rfl rfl rfl rfl .here rfl rfl rfl ?_)
              refine Ow_q rfl rfl rfl (Qt_fieldAddr (m := 13) rfl rfl rfl rfl rfl) ?_
              refine Ow_cons rfl (OpW_store (vs := [(.int .i64 x2577)]) (all' := (Linear_call.cells (Linear_call.mk x2530 x2576 i2556 x2577) v2536 v2537)) rfl rfl rfl rfl rfl .here rfl rfl rfl ?_)
              refine Ow_nil ?_
              obtain ⟨x2582, hx2583, H⟩ := bnd H
              obtain ⟨x2595, hx2596, H⟩ := bnd H
              obtain ⟨x2600, hx2601, H⟩ := bnd H
              refine Cw_region_any [.blk b2555 109 (Linear_call.cells (Linear_call.mk x2530 x2576 i2556 x2577) v2536 v2537), .blk b630 82 [(sv v617), (.bool false), .nilFunc, (.map (some b626)), (sv nilS)], .obj b626 (.map es627 ck628)] rfl (Inc.cons (.head _) (Inc.cons (.tail _ (.head _)) (Inc.cons (.tail _ (.tail _ (.tail _ (.tail _ (.head _))))) Inc.nil))) ?_
              refine Aw_q 0 rfl (by kernel_rfl) (by kernel_rfl) (by kernel_rfl) rfl rfl rfl (Qt_move rfl) ?_
              refine Aw_q 1 rfl (by kernel_rfl) (by kernel_rfl) (by kernel_rfl) rfl rfl rfl (Qt_nilCheck rfl) ?_
              refine Aw_q 2 rfl (by kernel_rfl) (by kernel_rfl) (by kernel_rfl) rfl rfl rfl (Qt_fieldAddr (m := 0) rfl rfl rfl rfl rfl) ?_
              refine Aw_q 3 rfl (by kernel_rfl) (by kernel_rfl) (by kernel_rfl) rfl rfl rfl (Qt_load1 (v := (sv v617)) rfl rfl rfl (Rdc.blk (.tail _ (.head _)) rfl)) ?_
              refine Aw_q 4 rfl (by kernel_rfl) (by kernel_rfl) (by kernel_rfl) rfl rfl rfl (Qt_move rfl) ?_
              refine Aw_q 5 rfl (by kernel_rfl) (by kernel_rfl) (by kernel_rfl) rfl rfl rfl (Qt_move rfl) ?_
              refine Aw_q 6 rfl (by kernel_rfl) (by kernel_rfl) (by kernel_rfl) rfl rfl rfl (Qt_nilCheck rfl) ?_
              refine Aw_q 7 rfl (by kernel_rfl) (by kernel_rfl) (by kernel_rfl) rfl rfl rfl (Qt_fieldAddr (m := 0) rfl rfl rfl rfl rfl) ?_
              refine Aw_q 8 rfl (by kernel_rfl) (by kernel_rfl) (by kernel_rfl) rfl rfl rfl (Qt_load1 (v := (sv v617)) rfl rfl rfl (Rdc.blk (.tail _ (.head _)) rfl)) ?_
              refine Aw_q 9 rfl (by kernel_rfl) (by kernel_rfl) (by kernel_rfl) rfl rfl rfl (Qt_move rfl) ?_
              refine Aw_q 12 rfl (by kernel_rfl) (by kernel_rfl) (by kernel_rfl) rfl rfl rfl (Qt_loadA (m := 14) (cs := (Linear_call.cells (Linear_call.mk x2530 x2576 i2556 x2577) v2536 v2537)) rfl rfl rfl rfl ⟨rfl, Rdc.blk (.head _) rfl⟩) ?_
              refine Aw_two 10 13 (by kernel_rfl) ?_ ?_
              · skip
                have hs2610 := ((hN2394).mono hK2572).mono hK2581
                obtain ⟨s2611, rs2612, hq12613, hq2614, hr2615, hR2616⟩ := NestR.at hs2610 hx2583
                refine id (Ax_mk rfl rfl (OpW_of_Qt rfl rfl (Q_ixR (T := rawT) (.tail _ (.tail _ (.head _))) hs2610.heads hq12613 (getI_ix hx2583).1 rfl rfl rfl rfl rfl) ⟨(Inc.cons (.head _) (Inc.cons (.tail _ (.head _)) (Inc.cons (.tail _ (.tail _ (.tail _ (.tail _ (.head _))))) Inc.nil))), ?_⟩))
                refine Aw_two 11 13 (by kernel_rfl) ?_ ?_
                · skip
                  refine Ax_mk rfl rfl ?_
                  refine OpW.shift (Shift.nestTake (.there (.there (.there .here))) hq2614 hr2615 (Shift.done ?_))
                  refine OpW_of_Qt rfl rfl (Qt_load1 (v := (sv s2611)) rfl rfl rfl (Rd_row (T := rawT) (.tail _ (.tail _ (.tail _ (.tail _ (.head _))))) hs2610.heads hq12613 rfl rfl)) ⟨(Inc.cons (.tail _ (.tail _ (.head _))) (Inc.cons (.tail _ (.tail _ (.tail _ (.head _)))) (Inc.cons (.tail _ (.tail _ (.tail _ (.tail _ (.tail _ (.head _)))))) Inc.nil))), ?_⟩
                  refine Aw_one 13 (by kernel_rfl) (Ax_mk rfl rfl ?_)
                  have hs2619 := ((hs2538).mono hK2572).mono hK2581
                  have hs2620 := ((hs2539).mono hK2572).mono hK2581
                  have hR2618 : RowR TyLinear_call K2580 [(Linear_call.cells (Linear_call.mk x2530 x2576 i2556 x2577) v2536 v2537)] [(Linear_call.mk x2530 x2576 i2556 x2577)] := RowR.cons ⟨v2536, v2537, rfl, hs2619, hs2620⟩ (RowR.nil)
                  refine O_lit (T := TyLinear_call) (rows := [(Linear_call.cells (Linear_call.mk x2530 x2576 i2556 x2577) v2536 v2537)]) (l := [(Linear_call.mk x2530 x2576 i2556 x2577)]) rfl rfl rfl hR2618 rfl rfl rfl rfl rfl rfl rfl rfl (fun v2617 => ⟨(Inc.cons (.tail _ (.tail _ (.tail _ (.head _)))) (Inc.cons (.tail _ (.tail _ (.tail _ (.tail _ (.head _))))) (Inc.cons (.tail _ (.tail _ (.tail _ (.tail _ (.tail _ (.tail _ (.head _))))))) Inc.nil))), ?_⟩)
                  refine Aw_one 14 (by kernel_rfl) (Ax_mk rfl rfl ?_)
                  refine O_appRow (T := TyLinear_call) (bytes := 144) rfl rfl rfl (.tail _ (.head _)) hR2616 (SrcT.row (.head _) hR2618 rfl) hx2596 rfl rfl rfl rfl rfl rfl rfl rfl (fun v2621 rs2622 hR2623 => ⟨_, (.there .here), ⟨(Inc.cons (.tail _ (.tail _ (.tail _ (.head _)))) (Inc.cons (.tail _ (.tail _ (.tail _ (.tail _ (.head _))))) (Inc.cons (.tail _ (.tail _ (.tail _ (.tail _ (.tail _ (.tail _ (.head _))))))) Inc.nil))), ?_⟩⟩)
                  refine Aw.shift (Shift.rem .here (Shift.done ⟨(Inc.cons (.tail _ (.tail _ (.head _))) (Inc.cons (.tail _ (.tail _ (.tail _ (.head _)))) (Inc.cons (.tail _ (.tail _ (.tail _ (.tail _ (.tail _ (.head _)))))) Inc.nil))), ?_⟩))
                  obtain ⟨s2624, rs2625, hq12626, hq2627, hr2628, hR2629⟩ := NestR.at hs2610 hx2601
                  refine Aw_one 15 (by kernel_rfl) (Ax_mk rfl rfl (OpW_of_Qt rfl rfl (Q_ixR (T := rawT) (.tail _ (.tail _ (.tail _ (.tail _ (.head _))))) hs2610.heads hq12626 (getI_ix hx2601).1 rfl rfl rfl rfl rfl) ⟨(Inc.cons (.tail _ (.tail _ (.head _))) (Inc.cons (.tail _ (.tail _ (.tail _ (.head _)))) (Inc.cons (.tail _ (.tail _ (.tail _ (.tail _ (.tail _ (.head _)))))) Inc.nil))), ?_⟩))
                  refine Aw_one 16 (by kernel_rfl) (Ax_mk rfl rfl ?_)
                  refine O_storeR (T := rawT) (vs := [(sv v2621)]) (r' := [(sv v2621)]) (l' := setI vs2392 i1814 (sv v2621)) rfl rfl rfl rfl rfl (.there (.there (.there (.there .here)))) hs2610.heads hq12626 rfl rfl rfl (RowR.set i1814 hs2610.heads ⟨rfl, _, rfl⟩) (fun _ => ⟨(Inc.cons (.tail _ (.tail _ (.head _))) (Inc.cons (.tail _ (.tail _ (.tail _ (.head _)))) (Inc.cons (.tail _ (.tail _ (.tail _ (.tail _ (.tail _ (.head _)))))) Inc.nil))), ?_⟩)
                  have hse := set_map_one vs2392 i1814.toNat (sv v2621)
                  rw [hse]
                  clear hse
                  have hN2631 := NestR.set (s := v2621) i1814 hs2610 hR2623
                  refine Aw.shift (Shift.nestOver .here .here (List.getElem?_eq_some_iff.1 hq2627).1 (Shift.done ⟨(Inc.cons (.tail _ (.head _)) (Inc.cons (.tail _ (.tail _ (.head _))) (Inc.cons (.tail _ (.tail _ (.tail _ (.tail _ (.head _))))) Inc.nil))), ?_⟩))
                  refine Aw_done (by kernel_rfl) ?_
                  refine Shift.pull (.there (.there (.there (.there .here)))) ?_
                  refine Shift.pull (.there .here) ?_
                  refine Shift.pull (.there (.there (.there (.there .here)))) ?_
                  refine Shift.pull (.there (.there (.there (.there .here)))) ?_
                  refine Shift.rem (.there (.there (.there (.there .here)))) ?_
                  refine Shift.done ?_
                  exact ⟨[(0, (sv vp0)), (1, (sv vp1)), (5, (.pointer (some ((⟨b630, 0, none⟩ : Addr).add 0)))), (6, (.int .i64 i1814)), (17, (.int .i64 (p0.length : Int))), (18, (.int .i64 i1814)), (24, (sv v2119)), (25, (.int .i64 (x2113.length : Int))), (26, (.int .i64 i2390))], ⟨rfl, rfl, rfl, rfl, rfl, rfl, rfl, rfl, rfl, trivial⟩, (setI l2391 i1814 x2595), (vs2392.set i1814.toNat (sv v2621)), (rss2393.set i1814.toNat rs2622), rfl, rfl, H, hN2631⟩
                · skip
                  refine id (Ax_mk rfl rfl ?_)
                  have hs2634 := ((hs2538).mono hK2572).mono hK2581
                  have hs2635 := ((hs2539).mono hK2572).mono hK2581
                  have hR2633 : RowR TyLinear_call K2580 [(Linear_call.cells (Linear_call.mk x2530 x2576 i2556 x2577) v2536 v2537)] [(Linear_call.mk x2530 x2576 i2556 x2577)] := RowR.cons ⟨v2536, v2537, rfl, hs2634, hs2635⟩ (RowR.nil)
                  refine O_lit (T := TyLinear_call) (rows := [(Linear_call.cells (Linear_call.mk x2530 x2576 i2556 x2577) v2536 v2537)]) (l := [(Linear_call.mk x2530 x2576 i2556 x2577)]) rfl rfl rfl hR2633 rfl rfl rfl rfl rfl rfl rfl rfl (fun v2632 => ⟨(Inc.cons (.tail _ (.head _)) (Inc.cons (.tail _ (.tail _ (.head _))) (Inc.cons (.tail _ (.tail _ (.tail _ (.tail _ (.tail _ (.head _)))))) Inc.nil))), ?_⟩)
                  refine Aw.shift (Shift.nestTake (.there (.there (.there (.there .here)))) hq2614 hr2615 (Shift.done ⟨(Inc.cons (.tail _ (.tail _ (.tail _ (.head _)))) (Inc.cons (.tail _ (.tail _ (.tail _ (.tail _ (.head _))))) (Inc.cons (.tail _ (.tail _ (.tail _ (.tail _ (.tail _ (.tail _ (.head _))))))) Inc.nil))), ?_⟩))
                  refine Aw_one 11 (by kernel_rfl) (Ax_mk rfl rfl (OpW_of_Qt rfl rfl (Qt_load1 (v := (sv s2611)) rfl rfl rfl (Rd_row (T := rawT) (.tail _ (.tail _ (.tail _ (.tail _ (.tail _ (.head _)))))) hs2610.heads hq12613 rfl rfl)) ⟨(Inc.cons (.tail _ (.tail _ (.tail _ (.head _)))) (Inc.cons (.tail _ (.tail _ (.tail _ (.tail _ (.head _))))) (Inc.cons (.tail _ (.tail _ (.tail _ (.tail _ (.tail _ (.tail _ (.head _))))))) Inc.nil))), ?_⟩))
                  refine Aw_one 14 (by kernel_rfl) (Ax_mk rfl rfl ?_)
                  refine O_appRow (T := TyLinear_call) (bytes := 144) rfl rfl rfl (.head _) hR2616 (SrcT.row (.tail _ (.tail _ (.head _))) hR2633 rfl) hx2596 rfl rfl rfl rfl rfl rfl rfl rfl (fun v2636 rs2637 hR2638 => ⟨_, .here, ⟨(Inc.cons (.tail _ (.tail _ (.tail _ (.head _)))) (Inc.cons (.tail _ (.tail _ (.tail _ (.tail _ (.head _))))) (Inc.cons (.tail _ (.tail _ (.tail _ (.tail _ (.tail _ (.tail _ (.head _))))))) Inc.nil))), ?_⟩⟩)
                  refine Aw.shift (Shift.rem (.there (.there .here)) (Shift.done ⟨(Inc.cons (.tail _ (.tail _ (.head _))) (Inc.cons (.tail _ (.tail _ (.tail _ (.head _)))) (Inc.cons (.tail _ (.tail _ (.tail _ (.tail _ (.tail _ (.head _)))))) Inc.nil))), ?_⟩))
                  obtain ⟨s2639, rs2640, hq12641, hq2642, hr2643, hR2644⟩ := NestR.at hs2610 hx2601
                  refine Aw_one 15 (by kernel_rfl) (Ax_mk rfl rfl (OpW_of_Qt rfl rfl (Q_ixR (T := rawT) (.tail _ (.tail _ (.tail _ (.tail _ (.head _))))) hs2610.heads hq12641 (getI_ix hx2601).1 rfl rfl rfl rfl rfl) ⟨(Inc.cons (.tail _ (.tail _ (.head _))) (Inc.cons (.tail _ (.tail _ (.tail _ (.head _)))) (Inc.cons (.tail _ (.tail _ (.tail _ (.tail _ (.tail _ (.head _)))))) Inc.nil))), ?_⟩))
                  refine Aw_one 16 (by kernel_rfl) (Ax_mk rfl rfl ?_)
                  refine O_storeR (T := rawT) (vs := [(sv v2636)]) (r' := [(sv v2636)]) (l' := setI vs2392 i1814 (sv v2636)) rfl rfl rfl rfl rfl (.there (.there (.there (.there .here)))) hs2610.heads hq12641 rfl rfl rfl (RowR.set i1814 hs2610.heads ⟨rfl, _, rfl⟩) (fun _ => ⟨(Inc.cons (.tail _ (.tail _ (.head _))) (Inc.cons (.tail _ (.tail _ (.tail _ (.head _)))) (Inc.cons (.tail _ (.tail _ (.tail _ (.tail _ (.tail _ (.head _)))))) Inc.nil))), ?_⟩)
                  have hse := set_map_one vs2392 i1814.toNat (sv v2636)
                  rw [hse]
                  clear hse
                  have hN2646 := NestR.set (s := v2636) i1814 hs2610 hR2638
                  refine Aw.shift (Shift.nestOver .here .here (List.getElem?_eq_some_iff.1 hq2642).1 (Shift.done ⟨(Inc.cons (.tail _ (.head _)) (Inc.cons (.tail _ (.tail _ (.head _))) (Inc.cons (.tail _ (.tail _ (.tail _ (.tail _ (.head _))))) Inc.nil))), ?_⟩))
                  refine Aw_done (by kernel_rfl) ?_
                  refine Shift.pull (.there (.there (.there (.there .here)))) ?_
                  refine Shift.pull (.there .here) ?_
                  refine Shift.pull (.there (.there (.there (.there .here)))) ?_
                  refine Shift.pull (.there (.there (.there (.there .here)))) ?_
                  refine Shift.rem (.there (.there (.there (.there .here)))) ?_
                  refine Shift.done ?_
                  exact ⟨[(0, (sv vp0)), (1, (sv vp1)), (5, (.pointer (some ((⟨b630, 0, none⟩ : Addr).add 0)))), (6, (.int .i64 i1814)), (17, (.int .i64 (p0.length : Int))), (18, (.int .i64 i1814)), (24, (sv v2119)), (25, (.int .i64 (x2113.length : Int))), (26, (.int .i64 i2390))], ⟨rfl, rfl, rfl, rfl, rfl, rfl, rfl, rfl, rfl, trivial⟩, (setI l2391 i1814 x2595), (vs2392.set i1814.toNat (sv v2636)), (rss2393.set i1814.toNat rs2637), rfl, rfl, H, hN2646⟩
              · skip
                refine id (Ax_mk rfl rfl ?_)
                have hs2649 := ((hs2538).mono hK2572).mono hK2581
                have hs2650 := ((hs2539).mono hK2572).mono hK2581
                have hR2648 : RowR TyLinear_call K2580 [(Linear_call.cells (Linear_call.mk x2530 x2576 i2556 x2577) v2536 v2537)] [(Linear_call.mk x2530 x2576 i2556 x2577)] := RowR.cons ⟨v2536, v2537, rfl, hs2649, hs2650⟩ (RowR.nil)
                refine O_lit (T := TyLinear_call) (rows := [(Linear_call.cells (Linear_call.mk x2530 x2576 i2556 x2577) v2536 v2537)]) (l := [(Linear_call.mk x2530 x2576 i2556 x2577)]) rfl rfl rfl hR2648 rfl rfl rfl rfl rfl rfl rfl rfl (fun v2647 => ⟨(Inc.cons (.tail _ (.head _)) (Inc.cons (.tail _ (.tail _ (.head _))) (Inc.cons (.tail _ (.tail _ (.tail _ (.tail _ (.tail _ (.head _)))))) Inc.nil))), ?_⟩)
                have hs2651 := ((hN2394).mono hK2572).mono hK2581
                obtain ⟨s2652, rs2653, hq12654, hq2655, hr2656, hR2657⟩ := NestR.at hs2651 hx2583
                refine Aw_one 10 (by kernel_rfl) (Ax_mk rfl rfl (OpW_of_Qt rfl rfl (Q_ixR (T := rawT) (.tail _ (.tail _ (.tail _ (.head _)))) hs2651.heads hq12654 (getI_ix hx2583).1 rfl rfl rfl rfl rfl) ⟨(Inc.cons (.tail _ (.head _)) (Inc.cons (.tail _ (.tail _ (.head _))) (Inc.cons (.tail _ (.tail _ (.tail _ (.tail _ (.tail _ (.head _)))))) Inc.nil))), ?_⟩))
                refine Aw.shift (Shift.nestTake (.there (.there (.there (.there .here)))) hq2655 hr2656 (Shift.done ⟨(Inc.cons (.tail _ (.tail _ (.tail _ (.head _)))) (Inc.cons (.tail _ (.tail _ (.tail _ (.tail _ (.head _))))) (Inc.cons (.tail _ (.tail _ (.tail _ (.tail _ (.tail _ (.tail _ (.head _))))))) Inc.nil))), ?_⟩))
                refine Aw_one 11 (by kernel_rfl) (Ax_mk rfl rfl (OpW_of_Qt rfl rfl (Qt_load1 (v := (sv s2652)) rfl rfl rfl (Rd_row (T := rawT) (.tail _ (.tail _ (.tail _ (.tail _ (.tail _ (.head _)))))) hs2651.heads hq12654 rfl rfl)) ⟨(Inc.cons (.tail _ (.tail _ (.tail _ (.head _)))) (Inc.cons (.tail _ (.tail _ (.tail _ (.tail _ (.head _))))) (Inc.cons (.tail _ (.tail _ (.tail _ (.tail _ (.tail _ (.tail _ (.head _))))))) Inc.nil))), ?_⟩))
                refine Aw_one 14 (by kernel_rfl) (Ax_mk rfl rfl ?_)
                refine O_appRow (T := TyLinear_call) (bytes := 144) rfl rfl rfl (.head _) hR2657 (SrcT.row (.tail _ (.tail _ (.head _))) hR2648 rfl) hx2596 rfl rfl rfl rfl rfl rfl rfl rfl (fun v2658 rs2659 hR2660 => ⟨_, .here, ⟨(Inc.cons (.tail _ (.tail _ (.tail _ (.head _)))) (Inc.cons (.tail _ (.tail _ (.tail _ (.tail _ (.head _))))) (Inc.cons (.tail _ (.tail _ (.tail _ (.tail _ (.tail _ (.tail _ (.head _))))))) Inc.nil))), ?_⟩⟩)
                refine Aw.shift (Shift.rem (.there (.there .here)) (Shift.done ⟨(Inc.cons (.tail _ (.tail _ (.head _))) (Inc.cons (.tail _ (.tail _ (.tail _ (.head _)))) (Inc.cons (.tail _ (.tail _ (.tail _ (.tail _ (.tail _ (.head _)))))) Inc.nil))), ?_⟩))
                obtain ⟨s2661, rs2662, hq12663, hq2664, hr2665, hR2666⟩ := NestR.at hs2651 hx2601
                refine Aw_one 15 (by kernel_rfl) (Ax_mk rfl rfl (OpW_of_Qt rfl rfl (Q_ixR (T := rawT) (.tail _ (.tail _ (.tail _ (.tail _ (.head _))))) hs2651.heads hq12663 (getI_ix hx2601).1 rfl rfl rfl rfl rfl) ⟨(Inc.cons (.tail _ (.tail _ (.head _))) (Inc.cons (.tail _ (.tail _ (.tail _ (.head _)))) (Inc.cons (.tail _ (.tail _ (.tail _ (.tail _ (.tail _ (.head _)))))) Inc.nil))), ?_⟩))
                refine Aw_one 16 (by kernel_rfl) (Ax_mk rfl rfl ?_)
                refine O_storeR (T := rawT) (vs := [(sv v2658)]) (r' := [(sv v2658)]) (l' := setI vs2392 i1814 (sv v2658)) rfl rfl rfl rfl rfl (.there (.there (.there (.there .here)))) hs2651.heads hq12663 rfl rfl rfl (RowR.set i1814 hs2651.heads ⟨rfl, _, rfl⟩) (fun _ => ⟨(Inc.cons (.tail _ (.tail _ (.head _))) (Inc.cons (.tail _ (.tail _ (.tail _ (.head _)))) (Inc.cons (.tail _ (.tail _ (.tail _ (.tail _ (.tail _ (.head _)))))) Inc.nil))), ?_⟩)
                have hse := set_map_one vs2392 i1814.toNat (sv v2658)
                rw [hse]
                clear hse
                have hN2668 := NestR.set (s := v2658) i1814 hs2651 hR2660
                refine Aw.shift (Shift.nestOver .here .here (List.getElem?_eq_some_iff.1 hq2664).1 (Shift.done ⟨(Inc.cons (.tail _ (.head _)) (Inc.cons (.tail _ (.tail _ (.head _))) (Inc.cons (.tail _ (.tail _ (.tail _ (.tail _ (.head _))))) Inc.nil))), ?_⟩))
                refine Aw_done (by kernel_rfl) ?_
                refine Shift.pull (.there (.there (.there (.there .here)))) ?_
                refine Shift.pull (.there .here) ?_
                refine Shift.pull (.there (.there (.there (.there .here)))) ?_
                refine Shift.pull (.there (.there (.there (.there .here)))) ?_
                refine Shift.rem (.there (.there (.there (.there .here)))) ?_
                refine Shift.done ?_
                exact ⟨[(0, (sv vp0)), (1, (sv vp1)), (5, (.pointer (some ((⟨b630, 0, none⟩ : Addr).add 0)))), (6, (.int .i64 i1814)), (17, (.int .i64 (p0.length : Int))), (18, (.int .i64 i1814)), (24, (sv v2119)), (25, (.int .i64 (x2113.length : Int))), (26, (.int .i64 i2390))], ⟨rfl, rfl, rfl, rfl, rfl, rfl, rfl, rfl, rfl, trivial⟩, (setI l2391 i1814 x2595), (vs2392.set i1814.toNat (sv v2658)), (rss2393.set i1814.toNat rs2659), rfl, rfl, H, hN2668⟩
          rintro _ K2669 _ hK2670 ⟨l2526, vs2527, rss2528, rfl, rfl, H, hN2529⟩
          unfold M_linear_begin_J3 at H
          refine Cw_region ?_
          refine Ow_q rfl rfl rfl (Qt_arith (e := wI (i2390 + 1)) rfl rfl rfl rfl) ?_
          refine Ow_q rfl rfl rfl (Qt_move rfl) ?_
          refine Ow_nil ?_
          refine Shift.pull (.there (.there (.there .here))) ?_
          refine Shift.pull (.there (.there (.there .here))) ?_
          refine Shift.pull (.there (.there (.there .here))) ?_
          refine Shift.pull (.there (.there (.there .here))) ?_
          refine Shift.done ?_
          exact ⟨[(0, (sv vp0)), (1, (sv vp1)), (5, (.pointer (some ((⟨b630, 0, none⟩ : Addr).add 0)))), (6, (.int .i64 i1814)), (17, (.int .i64 (p0.length : Int))), (18, (.int .i64 i1814)), (24, (sv v2119)), (25, (.int .i64 (x2113.length : Int))), (26, (.int .i64 (wI (i2390 + 1))))], ⟨rfl, rfl, rfl, rfl, rfl, rfl, rfl, rfl, rfl, trivial⟩, _, Nat.lt_succ_self _, (wI (i2390 + 1)), l2526, vs2527, rss2528, rfl, rfl, (hkk2400 ▸ H), hN2529⟩
        · intro h2402
          have h2402 := dcd_f (h2402)
          have H := iff_ h2402 H
          refine Cw_exit ?_
          refine Shift.pull (.there (.there (.there .here))) ?_
          refine Shift.pull (.there (.there (.there .here))) ?_
          refine Shift.pull (.there (.there (.there .here))) ?_
          refine Shift.pull (.there (.there (.there .here))) ?_
          refine Shift.done ?_
          exact ⟨[(0, (sv vp0)), (1, (sv vp1)), (5, (.pointer (some ((⟨b630, 0, none⟩ : Addr).add 0)))), (17, (.int .i64 (p0.length : Int))), (18, (.int .i64 i1814))], ⟨rfl, rfl, rfl, rfl, rfl, trivial⟩, l2391, vs2392, rss2393, rfl, rfl, H, hN2394⟩
      rintro _ K2671 _ hK2672 ⟨l2109, vs2110, rss2111, rfl, rfl, H, hN2112⟩
      unfold M_linear_begin_J2 at H
      refine Cw_region ?_
      refine Ow_q rfl rfl rfl (Qt_arith (e := wI (i1814 + 1)) rfl rfl rfl rfl) ?_
      refine Ow_q rfl rfl rfl (Qt_move rfl) ?_
      refine Ow_nil ?_
      refine Shift.pull (.there (.there (.there .here))) ?_
      refine Shift.pull (.there (.there (.there .here))) ?_
      refine Shift.pull (.there (.there (.there .here))) ?_
      refine Shift.pull (.there (.there (.there .here))) ?_
      refine Shift.done ?_
      exact ⟨[(0, (sv vp0)), (1, (sv vp1)), (5, (.pointer (some ((⟨b630, 0, none⟩ : Addr).add 0)))), (17, (.int .i64 (p0.length : Int))), (18, (.int .i64 (wI (i1814 + 1))))], ⟨rfl, rfl, rfl, rfl, rfl, trivial⟩, _, Nat.lt_succ_self _, (wI (i1814 + 1)), l2109, vs2110, rss2111, rfl, rfl, (hkk1824 ▸ H), hN2112⟩
    · intro h1826
      have h1826 := dcd_f (h1826)
      have H := iff_ h1826 H
      refine Cw_exit ?_
      refine Shift.pull (.there (.there (.there .here))) ?_
      refine Shift.pull (.there (.there (.there .here))) ?_
      refine Shift.pull (.there (.there (.there .here))) ?_
      refine Shift.pull (.there (.there (.there .here))) ?_
      refine Shift.done ?_
      exact ⟨[(5, (.pointer (some ((⟨b630, 0, none⟩ : Addr).add 0))))], ⟨rfl, trivial⟩, l1815, vs1816, rss1817, rfl, rfl, H, hN1818⟩
  rintro _ K2673 _ hK2674 ⟨l1223, vs1224, rss1225, rfl, rfl, H, hN1226⟩
  unfold M_linear_begin_J1 at H
  refine Cw_seq ?_
  refine Cw_region ?_
  refine Ow_q rfl rfl rfl (Qt_move rfl) ?_
  refine Ow_q rfl rfl rfl (Qt_assign rfl) ?_
  refine Ow_nil ?_
  refine Cw_ret ?_
  obtain ⟨ey0_0, ey0_1, ey0_3⟩ := inj3 H
  subst y0_0 y0_1 y0_3
  refine ⟨(by first | exact .inl rfl | exact .inr rfl), [(.pointer (some ((⟨b630, 0, none⟩ : Addr).add 0)))], ⟨(.pointer (some ((⟨b630, 0, none⟩ : Addr).add 0))), _, rfl, rfl, rfl⟩, ?_⟩
  refine Shift.nestSettle (T := TyLinear_call) rfl (.there (.there .here)) hN1226 ?_
  intro K2675 hK2676 hR2677
  refine Shift.settle (T := (Ty.sl TyLinear_call)) (.there .here) hR2677 rfl ?_
  intro K2678 hK2679 hs2680
  refine Shift.pull (.there (.there .here)) ?_
  refine Shift.rem (.there (.there .here)) ?_
  have hs2681 := (((hM629).mono hK2674).mono hK2676).mono hK2679
  refine Shift.done ?_
  exact ⟨b630, v617, b626, es627, ck628, rfl, rfl, hs2680, hs2681⟩

set_option maxHeartbeats 1000000 in
theorem c_M_linear_search_limit (bp0 : Nat) (p0_threads : List (List Linear_call)) (vp0_threads : SV) (p0_open_ : Bool) (p0_failed : ByteArray → Option Bool) (bp0_failed : Nat) (esp0_failed : Array MapEntry) (ckp0_failed : Nat) (p0_order : List Done) (vp0_order : SV) (rsp0_order : List (List Value)) (p1 : List Int) (vp1 : SV) (y0 : Int) (y1 : Bool) (H : M_linear_search_limit p0_threads p0_open_ p0_failed p0_order p1 = some (y0, y1)) (K : Kp) (G : List Ent) (hp0_threads : Slr (Ty.sl TyLinear_call) K (sv vp0_threads) p0_threads) (hp0_failed : MapR Ty.bool Value.string K esp0_failed p0_failed) (hp0_order : RowR TyDone K rsp0_order p0_order) (hp1 : Slr Ty.i64 K (sv vp1) p1) :
    Fc Tryd.prog 51 #[(.pointer (some ((⟨bp0, 0, none⟩ : Addr).add 0))), (sv vp1)] K ((.blk bp0 82 [(sv vp0_threads), (.bool p0_open_), .nilFunc, (.map (some bp0_failed)), (sv vp0_order)]) :: (.obj bp0_failed (.map esp0_failed ckp0_failed)) :: (.row (sv vp0_order) 47 6 rsp0_order.flatten) :: G) (fun v K' G' => v = (.tuple #[(.int .i64 y0), (.bool y1)]) ∧ (.blk bp0 82 [(sv vp0_threads), (.bool p0_open_), .nilFunc, (.map (some bp0_failed)), (sv vp0_order)]) :: (.obj bp0_failed (.map esp0_failed ckp0_failed)) :: (.row (sv vp0_order) 47 6 rsp0_order.flatten) :: G = G') := by
  refine Fc_body Tryd.func51 rfl Tryd.ntmps51 Tryd.results51 rfl ?_
  unfold M_linear_search_limit at H
  refine Cw_seq ?_
  refine Cw_region ?_
  refine Ow_q rfl rfl rfl (Qt_assign rfl) ?_
  refine Ow_q rfl rfl rfl (Qt_assign rfl) ?_
  refine Ow_nil ?_
  refine Cw_seq ?_
  refine Cw_region ?_
  refine Ow_q rfl rfl rfl (Qt_assign rfl) ?_
  refine Ow_q rfl rfl rfl (Qt_assign rfl) ?_
  refine Ow_nil ?_
  refine Cw_join (fun env' K' G' => ∃ (i279 : Int) (t280 : Bool), [(6, (.int .i64 i279)), (7, (.bool t280))] = env' ∧ (.blk bp0 82 [(sv vp0_threads), (.bool p0_open_), .nilFunc, (.map (some bp0_failed)), (sv vp0_order)]) :: (.obj bp0_failed (.map esp0_failed ckp0_failed)) :: (.row (sv vp0_order) 47 6 rsp0_order.flatten) :: G = G' ∧ M_linear_search_limit_J1 p0_threads p0_open_ p0_order p0_failed i279 t280 = some (y0, y1)) ?_ ?_
  · skip
    refine Cw_seq ?_
    refine Cw_region ?_
    refine Ow_q rfl rfl rfl (Qt_move rfl) ?_
    refine Ow_q rfl rfl rfl (Qt_nilCheck rfl) ?_
    refine Ow_q rfl rfl rfl (Qt_fieldAddr (m := 0) rfl rfl rfl rfl rfl) ?_
    refine Ow_q rfl rfl rfl (Qt_load1 (v := (sv vp0_threads)) rfl rfl rfl (Rdc.blk (.head _) rfl)) ?_
    refine Ow_q rfl rfl rfl (Q_len (T := (Ty.sl TyLinear_call)) hp0_threads rfl rfl) ?_
    refine Ow_q rfl rfl rfl (Qt_move rfl) ?_
    refine Ow_nil ?_
    refine Cw_block ?_
    refine Cw_loopM (fun n418 env' K' G' => ∃ (i415 : Int) (t416 : Bool) (i417 : Int), [(1, (sv vp1)), (6, (.int .i64 i415)), (7, (.bool t416)), (15, (sv vp0_threads)), (16, (.int .i64 (p0_threads.length : Int))), (17, (.int .i64 i417))] = env' ∧ (.blk bp0 82 [(sv vp0_threads), (.bool p0_open_), .nilFunc, (.map (some bp0_failed)), (sv vp0_order)]) :: (.obj bp0_failed (.map esp0_failed ckp0_failed)) :: (.row (sv vp0_order) 47 6 rsp0_order.flatten) :: G = G' ∧ lp3 (M_linear_search_limit_L1 p1 p0_threads p0_open_ p0_order p0_failed) n418 i415 t416 i417 = some (y0, y1)) BIG ?_ ?_
    · skip
      refine Shift.pull (.there (.there .here)) ?_
      refine Shift.pull (.there (.there .here)) ?_
      refine Shift.pull (.there (.there .here)) ?_
      refine Shift.done ?_
      exact ⟨[(1, (sv vp1)), (6, (.int .i64 0)), (7, (.bool false)), (15, (sv vp0_threads)), (16, (.int .i64 (p0_threads.length : Int))), (17, (.int .i64 0))], ⟨rfl, rfl, rfl, rfl, rfl, rfl, trivial⟩, 0, false, 0, rfl, rfl, H⟩
    rintro n418 _ K419 _ hK420 ⟨i415, t416, i417, rfl, rfl, H⟩
    obtain ⟨m421, k422, rfl, hkk423, H⟩ := lps3 H
    unfold M_linear_search_limit_L1 at H
    refine Cw_seq ?_
    refine Cw_region ?_
    refine Ow_q rfl rfl rfl (Qt_cmp rfl rfl rfl) ?_
    refine Ow_nil ?_
    refine Cw_seq ?_
    refine Cw_cond rfl ?_ ?_
    · intro h425
      have h425 := dcd_t (h425)
      have H := ift h425 H
      refine Cw_skip ?_
      refine Cw_join (fun env' K' G' => ∃ (i485 : Int) (t486 : Bool), [(1, (sv vp1)), (6, (.int .i64 i485)), (7, (.bool t486)), (15, (sv vp0_threads)), (16, (.int .i64 (p0_threads.length : Int))), (17, (.int .i64 i417))] = env' ∧ (.blk bp0 82 [(sv vp0_threads), (.bool p0_open_), .nilFunc, (.map (some bp0_failed)), (sv vp0_order)]) :: (.obj bp0_failed (.map esp0_failed ckp0_failed)) :: (.row (sv vp0_order) 47 6 rsp0_order.flatten) :: G = G' ∧ M_linear_search_limit_J2 p1 p0_threads i417 p0_open_ p0_order p0_failed k422 i485 t486 = some (y0, y1)) ?_ ?_
      · skip
        refine Cw_block ?_
        refine Cw_seq ?_
        refine Cw_region ?_
        refine Ow_q rfl rfl rfl (Qt_move rfl) ?_
        obtain ⟨x487, hx488, H⟩ := bnd H
        have hs489 := (hp0_threads).mono hK420
        obtain ⟨r490, hr491, hk492⟩ := Slr.at hs489 hx488
        obtain ⟨v493, rfl, hs494⟩ := hr491
        refine Ow_q rfl rfl rfl (Q_ix (T := (Ty.sl TyLinear_call)) hs489 hx488 rfl rfl rfl rfl rfl) ?_
        refine Ow_q rfl rfl rfl (Qt_load1 (v := (sv v493)) rfl rfl rfl (Rdc.k hk492 rfl)) ?_
        refine Ow_q rfl rfl rfl (Qt_assign rfl) ?_
        refine Ow_q rfl rfl rfl (Qt_assign rfl) ?_
        refine Ow_nil ?_
        refine Cw_seq ?_
        refine Cw_region ?_
        refine Ow_q rfl rfl rfl (Qt_move rfl) ?_
        refine Ow_q rfl rfl rfl (Qt_move rfl) ?_
        refine Ow_q rfl rfl rfl (Qt_move rfl) ?_
        obtain ⟨x495, hx496, H⟩ := bnd H
        have hs497 := (hp1).mono hK420
        obtain ⟨r498, hr499, hk500⟩ := Slr.at hs497 hx496
        obtain rfl := hr499
        refine Ow_q rfl rfl rfl (Q_ix (T := Ty.i64) hs497 hx496 rfl rfl rfl rfl rfl) ?_
        refine Ow_q rfl rfl rfl (Qt_load1 (v := (.int .i64 x495)) rfl rfl rfl (Rdc.k hk500 rfl)) ?_
        obtain ⟨x501, hx502, H⟩ := bnd H
        have hs503 := Slr.cutL hs494 hx502
        refine Ow_q rfl rfl rfl (Q_cutL (T := TyLinear_call) hs494 hx502 rfl rfl rfl rfl rfl) ?_
        refine Ow_q rfl rfl rfl (Q_len (T := TyLinear_call) hs503 rfl rfl) ?_
        refine Ow_q rfl rfl rfl (Qt_move rfl) ?_
        refine Ow_nil ?_
        refine Cw_block ?_
        refine Cw_loopM (fun n546 env' K' G' => ∃ (i543 : Int) (t544 : Bool) (i545 : Int), [(1, (sv vp1)), (6, (.int .i64 i543)), (7, (.bool t544)), (15, (sv vp0_threads)), (16, (.int .i64 (p0_threads.length : Int))), (17, (.int .i64 i417)), (27, (sv (cutS v493 14 x495.toNat x487.length))), (28, (.int .i64 (x501.length : Int))), (29, (.int .i64 i545))] = env' ∧ K419 = K' ∧ (.blk bp0 82 [(sv vp0_threads), (.bool p0_open_), .nilFunc, (.map (some bp0_failed)), (sv vp0_order)]) :: (.obj bp0_failed (.map esp0_failed ckp0_failed)) :: (.row (sv vp0_order) 47 6 rsp0_order.flatten) :: G = G' ∧ lp3 (M_linear_search_limit_L2 p1 p0_threads i417 x501 p0_open_ p0_order p0_failed k422) n546 i543 t544 i545 = some (y0, y1)) BIG ?_ ?_
        · skip
          refine Shift.pull (.there (.there .here)) ?_
          refine Shift.pull (.there (.there .here)) ?_
          refine Shift.pull (.there (.there .here)) ?_
          refine Shift.done ?_
          exact ⟨[(1, (sv vp1)), (6, (.int .i64 i415)), (7, (.bool t416)), (15, (sv vp0_threads)), (16, (.int .i64 (p0_threads.length : Int))), (17, (.int .i64 i417)), (27, (sv (cutS v493 14 x495.toNat x487.length))), (28, (.int .i64 (x501.length : Int))), (29, (.int .i64 0))], ⟨rfl, rfl, rfl, rfl, rfl, rfl, rfl, rfl, rfl, trivial⟩, i415, t416, 0, rfl, rfl, rfl, H⟩
        rintro n546 _ _ _ - ⟨i543, t544, i545, rfl, rfl, rfl, H⟩
        obtain ⟨m547, k548, rfl, hkk549, H⟩ := lps3 H
        unfold M_linear_search_limit_L2 at H
        refine Cw_seq ?_
        refine Cw_region ?_
        refine Ow_q rfl rfl rfl (Qt_cmp rfl rfl rfl) ?_
        refine Ow_nil ?_
        refine Cw_seq ?_
        refine Cw_cond rfl ?_ ?_
        · intro h551
          have h551 := dcd_t (h551)
          have H := ift h551 H
          refine Cw_skip ?_
          refine Cw_seq ?_
          refine Cw_block ?_
          refine Cw_seq ?_
          refine Cw_region ?_
          obtain ⟨x566, hx567, H⟩ := bnd H
          obtain ⟨r568, hr569, hk570⟩ := Slr.at hs503 hx567
          obtain ⟨v571, v572, rfl, hs573, hs574⟩ := hr569
          refine Ow_q rfl rfl rfl (Q_ix (T := TyLinear_call) hs503 hx567 rfl rfl rfl rfl rfl) ?_
          refine Ow_q rfl rfl rfl (Qt_loadA (m := 14) (cs := (Linear_call.cells x566 v571 v572)) rfl rfl rfl rfl ⟨rfl, Rdc.k hk570 rfl⟩) ?_
          refine Ow_cons rfl (OpW_alloc (cs := (Linear_call.cells (Linear_call.mk (Op.mk 0 0 0 0 0 [] []) (Result.mk 0 0 0 false 0) 0 0) nilS nilS)) rfl rfl rfl rfl (fun b575 => ?_))
          refine Ow_cons rfl (OpW_store (vs := (Linear_call.cells x566 v571 v572)) (all' := (Linear_call.cells x566 v571 v572)) rfl rfl rfl rfl rfl .here rfl rfl rfl ?_)
          refine Ow_nil ?_
          refine Cw_join (fun env' K' G' => ∃ (t578 : Bool), [(1, (sv vp1)), (6, (.int .i64 i543)), (7, (.bool t544)), (11, (.pointer (some ((⟨b575, 0, none⟩ : Addr).add 0)))), (15, (sv vp0_threads)), (16, (.int .i64 (p0_threads.length : Int))), (17, (.int .i64 i417)), (27, (sv (cutS v493 14 x495.toNat x487.length))), (28, (.int .i64 (x501.length : Int))), (29, (.int .i64 i545)), (45, (.bool t578))] = env' ∧ K419 = K' ∧ (.blk bp0 82 [(sv vp0_threads), (.bool p0_open_), .nilFunc, (.map (some bp0_failed)), (sv vp0_order)]) :: (.blk b575 109 (Linear_call.cells x566 v571 v572)) :: (.obj bp0_failed (.map esp0_failed ckp0_failed)) :: (.row (sv vp0_order) 47 6 rsp0_order.flatten) :: G = G' ∧ M_linear_search_limit_J3 p1 i543 t544 p0_threads i417 x501 i545 p0_open_ p0_order x566 p0_failed k422 k548 t578 = some (y0, y1)) ?_ ?_
          · skip
            refine Cw_region ?_
            refine Ow_q rfl rfl rfl (Qt_fieldAddr (m := 13) rfl rfl rfl rfl rfl) ?_
            refine Ow_q rfl rfl rfl (Qt_load1 (v := (.int .i64 x566.coming)) rfl rfl rfl (Rdc.blk (.head _) rfl)) ?_
            refine Ow_q rfl rfl rfl (Qt_cmp rfl rfl rfl) ?_
            refine Ow_q rfl rfl rfl (Qt_move rfl) ?_
            refine Ow_caseG rfl rfl rfl ?_ ?_
            · intro h579
              have h579 := dcd_t (h579)
              have H := ift h579 H
              refine Ow_qw rfl rfl rfl rfl rfl rfl (Qt_move rfl) ?_
              refine Ow_qw rfl rfl rfl rfl rfl rfl (Qt_not rfl) ?_
              refine Ow_qw rfl rfl rfl rfl rfl rfl (Qt_move rfl) ?_
              refine Ow_caseG rfl rfl rfl ?_ ?_
              · intro h580
                have h580 := nt_t (h580)
                have H := iff_ (btf h580) H
                refine Ow_pass rfl rfl rfl rfl rfl rfl rfl ?_
                refine Ow_pass rfl rfl rfl rfl rfl rfl rfl ?_
                refine Ow_pass rfl rfl rfl rfl rfl rfl rfl ?_
                refine Ow_pass rfl rfl rfl rfl rfl rfl rfl ?_
                refine Ow_qw rfl rfl rfl rfl rfl rfl (Qt_pick_t rfl rfl) ?_
                refine Ow_q rfl rfl rfl (Qt_pick_t rfl rfl) ?_
                refine Ow_nil ?_
                refine Shift.pull (.there (.there (.there .here))) ?_
                refine Shift.pull (.there (.there (.there .here))) ?_
                refine Shift.pull (.there (.there .here)) ?_
                refine Shift.pull (.there (.there (.there .here))) ?_
                refine Shift.done ?_
                exact ⟨[(1, (sv vp1)), (6, (.int .i64 i543)), (7, (.bool t544)), (11, (.pointer (some ((⟨b575, 0, none⟩ : Addr).add 0)))), (15, (sv vp0_threads)), (16, (.int .i64 (p0_threads.length : Int))), (17, (.int .i64 i417)), (27, (sv (cutS v493 14 x495.toNat x487.length))), (28, (.int .i64 (x501.length : Int))), (29, (.int .i64 i545)), (45, (.bool true))], ⟨rfl, rfl, rfl, rfl, rfl, rfl, rfl, rfl, rfl, rfl, rfl, trivial⟩, true, rfl, rfl, rfl, H⟩
              · intro h580
                have h580 := nt_f (h580)
                have H := ift h580 H
                refine Ow_qw rfl rfl rfl rfl rfl rfl (Qt_fieldAddr (m := 13) rfl rfl rfl rfl rfl) ?_
                refine Ow_qw rfl rfl rfl rfl rfl rfl (Qt_load1 (v := (.int .i64 x566.coming)) rfl rfl rfl (Rdc.blk (.head _) rfl)) ?_
                refine Ow_qw rfl rfl rfl rfl rfl rfl (Qt_move rfl) ?_
                refine Ow_qw rfl rfl rfl rfl rfl rfl (Qt_cmp rfl rfl rfl) ?_
                refine Ow_qw rfl rfl rfl rfl rfl rfl (Qt_pick_f rfl rfl) ?_
                refine Ow_q rfl rfl rfl (Qt_pick_t rfl rfl) ?_
                refine Ow_nil ?_
                refine Shift.pull (.there (.there (.there .here))) ?_
                refine Shift.pull (.there (.there (.there .here))) ?_
                refine Shift.pull (.there (.there .here)) ?_
                refine Shift.pull (.there (.there (.there .here))) ?_
                refine Shift.done ?_
                exact ⟨[(1, (sv vp1)), (6, (.int .i64 i543)), (7, (.bool t544)), (11, (.pointer (some ((⟨b575, 0, none⟩ : Addr).add 0)))), (15, (sv vp0_threads)), (16, (.int .i64 (p0_threads.length : Int))), (17, (.int .i64 i417)), (27, (sv (cutS v493 14 x495.toNat x487.length))), (28, (.int .i64 (x501.length : Int))), (29, (.int .i64 i545)), (45, (.bool (dcd (x566.coming < i543))))], ⟨rfl, rfl, rfl, rfl, rfl, rfl, rfl, rfl, rfl, rfl, rfl, trivial⟩, (dcd (x566.coming < i543)), rfl, rfl, rfl, H⟩
            · intro h579
              have h579 := dcd_f (h579)
              have H := iff_ h579 H
              refine Ow_pass rfl rfl rfl rfl rfl rfl rfl ?_
              refine Ow_pass rfl rfl rfl rfl rfl rfl rfl ?_
              refine Ow_pass rfl rfl rfl rfl rfl rfl rfl ?_
              refine Ow_passU rfl rfl rfl rfl rfl ?_
              refine Ow_passU rfl rfl rfl rfl rfl ?_
              refine Ow_passU rfl rfl rfl rfl rfl ?_
              refine Ow_passU rfl rfl rfl rfl rfl ?_
              refine Ow_pass rfl rfl rfl rfl rfl rfl rfl ?_
              refine Ow_q rfl rfl rfl (Qt_pick_f rfl rfl) ?_
              refine Ow_nil ?_
              refine Shift.pull (.there (.there (.there .here))) ?_
              refine Shift.pull (.there (.there (.there .here))) ?_
              refine Shift.pull (.there (.there .here)) ?_
              refine Shift.pull (.there (.there (.there .here))) ?_
              refine Shift.done ?_
              exact ⟨[(1, (sv vp1)), (6, (.int .i64 i543)), (7, (.bool t544)), (11, (.pointer (some ((⟨b575, 0, none⟩ : Addr).add 0)))), (15, (sv vp0_threads)), (16, (.int .i64 (p0_threads.length : Int))), (17, (.int .i64 i417)), (27, (sv (cutS v493 14 x495.toNat x487.length))), (28, (.int .i64 (x501.length : Int))), (29, (.int .i64 i545)), (45, (.bool false))], ⟨rfl, rfl, rfl, rfl, rfl, rfl, rfl, rfl, rfl, rfl, rfl, trivial⟩, false, rfl, rfl, rfl, H⟩
          rintro _ _ _ - ⟨t578, rfl, rfl, rfl, H⟩
          unfold M_linear_search_limit_J3 at H
          refine Cw_cond rfl ?_ ?_
          · intro h581
            have H := ift h581 H
            refine Cw_region ?_
            refine Ow_q rfl rfl rfl (Qt_fieldAddr (m := 13) rfl rfl rfl rfl rfl) ?_
            refine Ow_q rfl rfl rfl (Qt_load1 (v := (.int .i64 x566.coming)) rfl rfl rfl (Rdc.blk (.tail _ (.head _)) rfl)) ?_
            refine Ow_q rfl rfl rfl (Qt_assign rfl) ?_
            refine Ow_q rfl rfl rfl (Qt_assign rfl) ?_
            refine Ow_nil ?_
            refine Cw_region ?_
            refine Ow_q rfl rfl rfl (Qt_arith (e := wI (i545 + 1)) rfl rfl rfl rfl) ?_
            refine Ow_q rfl rfl rfl (Qt_move rfl) ?_
            refine Ow_nil ?_
            refine Shift.pull (.there (.there (.there .here))) ?_
            refine Shift.pull (.there (.there (.there .here))) ?_
            refine Shift.pull (.there (.there .here)) ?_
            refine Shift.rem (.there (.there (.there .here))) ?_
            refine Shift.done ?_
            exact ⟨[(1, (sv vp1)), (6, (.int .i64 x566.coming)), (7, (.bool true)), (15, (sv vp0_threads)), (16, (.int .i64 (p0_threads.length : Int))), (17, (.int .i64 i417)), (27, (sv (cutS v493 14 x495.toNat x487.length))), (28, (.int .i64 (x501.length : Int))), (29, (.int .i64 (wI (i545 + 1))))], ⟨rfl, rfl, rfl, rfl, rfl, rfl, rfl, rfl, rfl, trivial⟩, _, Nat.lt_succ_self _, x566.coming, true, (wI (i545 + 1)), rfl, rfl, rfl, (hkk549 ▸ H)⟩
          · intro h581
            have H := iff_ (btf h581) H
            refine Cw_skip ?_
            refine Cw_region ?_
            refine Ow_q rfl rfl rfl (Qt_arith (e := wI (i545 + 1)) rfl rfl rfl rfl) ?_
            refine Ow_q rfl rfl rfl (Qt_move rfl) ?_
            refine Ow_nil ?_
            refine Shift.pull (.there (.there (.there .here))) ?_
            refine Shift.pull (.there (.there (.there .here))) ?_
            refine Shift.pull (.there (.there .here)) ?_
            refine Shift.rem (.there (.there (.there .here))) ?_
            refine Shift.done ?_
            exact ⟨[(1, (sv vp1)), (6, (.int .i64 i543)), (7, (.bool t544)), (15, (sv vp0_threads)), (16, (.int .i64 (p0_threads.length : Int))), (17, (.int .i64 i417)), (27, (sv (cutS v493 14 x495.toNat x487.length))), (28, (.int .i64 (x501.length : Int))), (29, (.int .i64 (wI (i545 + 1))))], ⟨rfl, rfl, rfl, rfl, rfl, rfl, rfl, rfl, rfl, trivial⟩, _, Nat.lt_succ_self _, i543, t544, (wI (i545 + 1)), rfl, rfl, rfl, (hkk549 ▸ H)⟩
        · intro h551
          have h551 := dcd_f (h551)
          have H := iff_ h551 H
          refine Cw_exit ?_
          refine Shift.pull (.there (.there .here)) ?_
          refine Shift.pull (.there (.there .here)) ?_
          refine Shift.pull (.there (.there .here)) ?_
          refine Shift.done ?_
          exact ⟨[(1, (sv vp1)), (6, (.int .i64 i543)), (7, (.bool t544)), (15, (sv vp0_threads)), (16, (.int .i64 (p0_threads.length : Int))), (17, (.int .i64 i417))], ⟨rfl, rfl, rfl, rfl, rfl, rfl, trivial⟩, i543, t544, rfl, rfl, H⟩
      rintro _ K582 _ hK583 ⟨i485, t486, rfl, rfl, H⟩
      unfold M_linear_search_limit_J2 at H
      refine Cw_region ?_
      refine Ow_q rfl rfl rfl (Qt_arith (e := wI (i417 + 1)) rfl rfl rfl rfl) ?_
      refine Ow_q rfl rfl rfl (Qt_move rfl) ?_
      refine Ow_nil ?_
      refine Shift.pull (.there (.there .here)) ?_
      refine Shift.pull (.there (.there .here)) ?_
      refine Shift.pull (.there (.there .here)) ?_
      refine Shift.done ?_
      exact ⟨[(1, (sv vp1)), (6, (.int .i64 i485)), (7, (.bool t486)), (15, (sv vp0_threads)), (16, (.int .i64 (p0_threads.length : Int))), (17, (.int .i64 (wI (i417 + 1))))], ⟨rfl, rfl, rfl, rfl, rfl, rfl, trivial⟩, _, Nat.lt_succ_self _, i485, t486, (wI (i417 + 1)), rfl, rfl, (hkk423 ▸ H)⟩
    · intro h425
      have h425 := dcd_f (h425)
      have H := iff_ h425 H
      refine Cw_exit ?_
      refine Shift.pull (.there (.there .here)) ?_
      refine Shift.pull (.there (.there .here)) ?_
      refine Shift.pull (.there (.there .here)) ?_
      refine Shift.done ?_
      exact ⟨[(6, (.int .i64 i415)), (7, (.bool t416))], ⟨rfl, rfl, trivial⟩, i415, t416, rfl, rfl, H⟩
  rintro _ K584 _ hK585 ⟨i279, t280, rfl, rfl, H⟩
  unfold M_linear_search_limit_J1 at H
  refine Cw_seq ?_
  refine Cw_region ?_
  refine Ow_q rfl rfl rfl (Qt_move rfl) ?_
  refine Ow_q rfl rfl rfl (Qt_move rfl) ?_
  refine Ow_q rfl rfl rfl (Qt_assign rfl) ?_
  refine Ow_q rfl rfl rfl (Qt_assign rfl) ?_
  refine Ow_nil ?_
  refine Cw_ret ?_
  obtain ⟨ey0, ey1⟩ := inj2 H
  subst y0 y1
  refine ⟨(by first | exact .inl rfl | exact .inr rfl), [(.int .i64 i279), (.bool t280)], ⟨(.int .i64 i279), _, rfl, rfl, ⟨(.bool t280), _, rfl, rfl, rfl⟩⟩, ?_⟩
  refine Shift.pull (.there (.there .here)) ?_
  refine Shift.pull (.there (.there .here)) ?_
  refine Shift.pull (.there (.there .here)) ?_
  refine Shift.done ?_
  exact ⟨rfl, rfl⟩



end Go.Hx

namespace Go.Hx
open Go Go.Proofs
set_option linter.unusedSimpArgs false
set_option linter.unusedVariables false
set_option maxRecDepth 10000
set_option maxHeartbeats 1000000 in
theorem c_M_internal_strconv_AppendUint (p0 : List Int) (vp0 : SV) (rsp0 : List (List Value)) (p1 : Int) (p2 : Int) (y0 : List Int) (H : M_internal_strconv_AppendUint p0 p1 p2 = some y0) (K : Kp) (G : List Ent) (hp0 : RowR Ty.u8 K rsp0 p0) (hT : TabK K) :
    Fc Tryd.prog 90 #[(sv vp0), (.int .u64 p1), (.int .i64 p2)] K ((.row (sv vp0) 5 1 rsp0.flatten) :: G) (fun v K' G' => ∃ (wy0 : SV) (rswy0 : List (List Value)), v = (sv wy0) ∧ K = K' ∧ (.row (sv wy0) 5 1 rswy0.flatten) :: G = G' ∧ RowR Ty.u8 K' rswy0 y0) :=
  Fc_appUint H hp0 hT

set_option maxHeartbeats 1000000 in
theorem c_M_internal_strconv_AppendInt_m0row (p0 : List Int) (vp0 : SV) (rsp0 : List (List Value)) (p1 : Int) (p2 : Int) (y0 : List Int) (H : M_internal_strconv_AppendInt_m0row p0 p1 p2 = some y0) (K : Kp) (G : List Ent) (hp0 : RowR Ty.u8 K rsp0 p0) (hT : TabK K) :
    Fc Tryd.prog 88 #[(sv vp0), (.int .i64 p1), (.int .i64 p2)] K ((.row (sv vp0) 5 1 rsp0.flatten) :: G) (fun v K' G' => ∃ (wy0 : SV) (rswy0 : List (List Value)), v = (sv wy0) ∧ K = K' ∧ (.row (sv wy0) 5 1 rswy0.flatten) :: G = G' ∧ RowR Ty.u8 K' rswy0 y0) := by
  refine Fc_body Tryd.func88 rfl Tryd.ntmps88 Tryd.results88 rfl ?_
  unfold M_internal_strconv_AppendInt_m0row at H
  refine Cw_seq ?_
  refine Cw_region ?_
  refine Ow_q rfl rfl rfl (Qt_assign rfl) ?_
  refine Ow_nil ?_
  refine Cw_seq ?_
  refine Cw_region ?_
  refine Ow_q rfl rfl rfl (Qt_move rfl) ?_
  refine Ow_q rfl rfl rfl (Qt_conv (c := wU p1) rfl rfl rfl rfl) ?_
  refine Ow_q rfl rfl rfl (Qt_assign rfl) ?_
  refine Ow_nil ?_
  refine Cw_join (fun env' K' G' => ∃ (v28 : SV) (l29 : List Int) (rs31 : List (List Value)) (i32 : Int) (i33 : Int), [(0, (sv v28)), (2, (.int .i64 i32)), (7, (.int .u64 i33))] = env' ∧ K = K' ∧ (.row (sv v28) 5 1 rs31.flatten) :: G = G' ∧ M_internal_strconv_AppendInt_m0row_J1 l29 i32 i33 = some y0 ∧ RowR Ty.u8 K' rs31 l29) ?_ ?_
  · skip
    refine Cw_seq ?_
    refine Cw_region ?_
    refine Ow_q rfl rfl rfl (Qt_move rfl) ?_
    refine Ow_q rfl rfl rfl (Qt_cmp rfl rfl rfl) ?_
    refine Ow_nil ?_
    refine Cw_cond rfl ?_ ?_
    · intro h34
      have h34 := dcd_t (h34)
      have H := ift h34 H
      refine Cw_seq ?_
      refine Cw_region ?_
      refine Ow_q rfl rfl rfl (Qt_move rfl) ?_
      have hR36 : RowR Ty.u8 K [[(.int .u8 45)]] [45] := RowR.cons rfl (RowR.nil)
      refine Ow_cons rfl (O_lit (T := Ty.u8) (rows := [[(.int .u8 45)]]) (l := [45]) rfl rfl rfl hR36 rfl rfl rfl rfl rfl rfl rfl rfl (fun v35 => ?_))
      obtain ⟨x37, hx38, H⟩ := bnd H
      refine Ow_cons rfl (O_appRow (T := Ty.u8) (bytes := 1) rfl rfl rfl (.tail _ (.head _)) hp0 (SrcT.row (.head _) hR36 rfl) hx38 rfl rfl rfl rfl rfl rfl rfl rfl (fun v39 rs40 hR41 => ⟨_, (.there .here), ?_⟩))
      refine Ow.shift (Shift.rem .here (Shift.done ?_))
      refine Ow_q rfl rfl rfl (Qt_assign rfl) ?_
      refine Ow_nil ?_
      refine Cw_region ?_
      refine Ow_q rfl rfl rfl (Qt_move rfl) ?_
      refine Ow_q rfl rfl rfl (Qt_neg (c := wU (0 - (wU p1))) rfl rfl) ?_
      refine Ow_q rfl rfl rfl (Qt_assign rfl) ?_
      refine Ow_nil ?_
      refine Shift.done ?_
      exact ⟨[(0, (sv v39)), (2, (.int .i64 p2)), (7, (.int .u64 (wU (0 - (wU p1)))))], ⟨rfl, rfl, rfl, trivial⟩, v39, x37, rs40, p2, (wU (0 - (wU p1))), rfl, rfl, rfl, H, hR41⟩
    · intro h34
      have h34 := dcd_f (h34)
      have H := iff_ h34 H
      refine Cw_skip ?_
      refine Shift.done ?_
      exact ⟨[(0, (sv vp0)), (2, (.int .i64 p2)), (7, (.int .u64 (wU p1)))], ⟨rfl, rfl, rfl, trivial⟩, vp0, p0, rsp0, p2, (wU p1), rfl, rfl, rfl, H, hp0⟩
  rintro _ _ _ - ⟨v28, l29, rs31, i32, i33, rfl, rfl, rfl, H, hR30⟩
  unfold M_internal_strconv_AppendInt_m0row_J1 at H
  refine Cw_seq ?_
  refine Cw_region ?_
  refine Ow_q rfl rfl rfl (Qt_move rfl) ?_
  refine Ow_q rfl rfl rfl (Qt_move rfl) ?_
  refine Ow_q rfl rfl rfl (Qt_move rfl) ?_
  obtain ⟨x42, hx43, H⟩ := bnd H
  refine Ow_cons rfl (OpW_call rfl Tryd.call90 rfl rfl (c_M_internal_strconv_AppendUint l29 v28 rs31 i33 i32 x42 hx43 _ _ hR30 hT) ?_)
  rintro _ _ _ - ⟨v44, rs45, rfl, rfl, rfl, hs46⟩
  refine Ow_q rfl rfl rfl (Qt_assign rfl) ?_
  refine Ow_nil ?_
  refine Cw_ret ?_
  obtain ey0 := inj1 H
  subst y0
  refine ⟨(by first | exact .inl rfl | exact .inr rfl), [(sv v44)], ⟨(sv v44), _, rfl, rfl, rfl⟩, ?_⟩
  refine Shift.done ?_
  exact ⟨v44, rs45, rfl, rfl, rfl, hs46⟩

set_option maxHeartbeats 1000000 in
theorem c_M_internal_strconv_AppendBool_m0row (p0 : List Int) (vp0 : SV) (rsp0 : List (List Value)) (p1 : Bool) (y0 : List Int) (H : M_internal_strconv_AppendBool_m0row p0 p1 = some y0) (K : Kp) (G : List Ent) (hp0 : RowR Ty.u8 K rsp0 p0) :
    Fc Tryd.prog 89 #[(sv vp0), (.bool p1)] K ((.row (sv vp0) 5 1 rsp0.flatten) :: G) (fun v K' G' => ∃ (wy0 : SV) (rswy0 : List (List Value)), v = (sv wy0) ∧ K = K' ∧ (.row (sv wy0) 5 1 rswy0.flatten) :: G = G' ∧ RowR Ty.u8 K' rswy0 y0) :=
  Fc_appBool H hp0

set_option maxHeartbeats 1000000 in
theorem c_M_internal_strconv_AppendUint_m0row (p0 : List Int) (vp0 : SV) (rsp0 : List (List Value)) (p1 : Int) (p2 : Int) (y0 : List Int) (H : M_internal_strconv_AppendUint_m0row p0 p1 p2 = some y0) (K : Kp) (G : List Ent) (hp0 : RowR Ty.u8 K rsp0 p0) (hT : TabK K) :
    Fc Tryd.prog 90 #[(sv vp0), (.int .u64 p1), (.int .i64 p2)] K ((.row (sv vp0) 5 1 rsp0.flatten) :: G) (fun v K' G' => ∃ (wy0 : SV) (rswy0 : List (List Value)), v = (sv wy0) ∧ K = K' ∧ (.row (sv wy0) 5 1 rswy0.flatten) :: G = G' ∧ RowR Ty.u8 K' rswy0 y0) :=
  Fc_appUint H hp0 hT



end Go.Hx

namespace Go.Hx
open Go Go.Proofs
set_option linter.unusedSimpArgs false
set_option linter.unusedVariables false
set_option maxRecDepth 10000
set_option maxHeartbeats 1000000 in
theorem c_M_strconv_AppendInt (p0 : List Int) (vp0 : SV) (rsp0 : List (List Value)) (p1 : Int) (p2 : Int) (y0 : List Int) (H : M_strconv_AppendInt p0 p1 p2 = some y0) (K : Kp) (G : List Ent) (hp0 : RowR Ty.u8 K rsp0 p0) (hT : TabK K) :
    Fc Tryd.prog 80 #[(sv vp0), (.int .i64 p1), (.int .i64 p2)] K ((.row (sv vp0) 5 1 rsp0.flatten) :: G) (fun v K' G' => ∃ (wy0 : SV) (rswy0 : List (List Value)), v = (sv wy0) ∧ K = K' ∧ (.row (sv wy0) 5 1 rswy0.flatten) :: G = G' ∧ RowR Ty.u8 K' rswy0 y0) := by
  refine Fc_body Tryd.func80 rfl Tryd.ntmps80 Tryd.results80 rfl ?_
  unfold M_strconv_AppendInt at H
  refine Cw_seq ?_
  refine Cw_region ?_
  refine Ow_q rfl rfl rfl (Qt_assign rfl) ?_
  refine Ow_nil ?_
  refine Cw_seq ?_
  refine Cw_region ?_
  refine Ow_q rfl rfl rfl (Qt_move rfl) ?_
  refine Ow_q rfl rfl rfl (Qt_move rfl) ?_
  refine Ow_q rfl rfl rfl (Qt_move rfl) ?_
  obtain ⟨x6, hx7, H⟩ := bnd H
  refine Ow_cons rfl (OpW_call rfl Tryd.call88 rfl rfl (c_M_internal_strconv_AppendInt_m0row p0 vp0 rsp0 p1 p2 x6 hx7 _ _ hp0 hT) ?_)
  rintro _ _ _ - ⟨v8, rs9, rfl, rfl, rfl, hs10⟩
  refine Ow_q rfl rfl rfl (Qt_assign rfl) ?_
  refine Ow_nil ?_
  refine Cw_ret ?_
  obtain ey0 := inj1 H
  subst y0
  refine ⟨(by first | exact .inl rfl | exact .inr rfl), [(sv v8)], ⟨(sv v8), _, rfl, rfl, rfl⟩, ?_⟩
  refine Shift.done ?_
  exact ⟨v8, rs9, rfl, rfl, rfl, hs10⟩

set_option maxHeartbeats 1000000 in
theorem c_M_strconv_AppendBool (p0 : List Int) (vp0 : SV) (rsp0 : List (List Value)) (p1 : Bool) (y0 : List Int) (H : M_strconv_AppendBool p0 p1 = some y0) (K : Kp) (G : List Ent) (hp0 : RowR Ty.u8 K rsp0 p0) :
    Fc Tryd.prog 81 #[(sv vp0), (.bool p1)] K ((.row (sv vp0) 5 1 rsp0.flatten) :: G) (fun v K' G' => ∃ (wy0 : SV) (rswy0 : List (List Value)), v = (sv wy0) ∧ K = K' ∧ (.row (sv wy0) 5 1 rswy0.flatten) :: G = G' ∧ RowR Ty.u8 K' rswy0 y0) := by
  refine Fc_body Tryd.func81 rfl Tryd.ntmps81 Tryd.results81 rfl ?_
  unfold M_strconv_AppendBool at H
  refine Cw_seq ?_
  refine Cw_region ?_
  refine Ow_q rfl rfl rfl (Qt_assign rfl) ?_
  refine Ow_nil ?_
  refine Cw_seq ?_
  refine Cw_region ?_
  refine Ow_q rfl rfl rfl (Qt_move rfl) ?_
  refine Ow_q rfl rfl rfl (Qt_move rfl) ?_
  obtain ⟨x6, hx7, H⟩ := bnd H
  refine Ow_cons rfl (OpW_call rfl Tryd.call89 rfl rfl (c_M_internal_strconv_AppendBool_m0row p0 vp0 rsp0 p1 x6 hx7 _ _ hp0) ?_)
  rintro _ _ _ - ⟨v8, rs9, rfl, rfl, rfl, hs10⟩
  refine Ow_q rfl rfl rfl (Qt_assign rfl) ?_
  refine Ow_nil ?_
  refine Cw_ret ?_
  obtain ey0 := inj1 H
  subst y0
  refine ⟨(by first | exact .inl rfl | exact .inr rfl), [(sv v8)], ⟨(sv v8), _, rfl, rfl, rfl⟩, ?_⟩
  refine Shift.done ?_
  exact ⟨v8, rs9, rfl, rfl, rfl, hs10⟩

set_option maxHeartbeats 1000000 in
theorem c_M_strconv_AppendUint (p0 : List Int) (vp0 : SV) (rsp0 : List (List Value)) (p1 : Int) (p2 : Int) (y0 : List Int) (H : M_strconv_AppendUint p0 p1 p2 = some y0) (K : Kp) (G : List Ent) (hp0 : RowR Ty.u8 K rsp0 p0) (hT : TabK K) :
    Fc Tryd.prog 82 #[(sv vp0), (.int .u64 p1), (.int .i64 p2)] K ((.row (sv vp0) 5 1 rsp0.flatten) :: G) (fun v K' G' => ∃ (wy0 : SV) (rswy0 : List (List Value)), v = (sv wy0) ∧ K = K' ∧ (.row (sv wy0) 5 1 rswy0.flatten) :: G = G' ∧ RowR Ty.u8 K' rswy0 y0) := by
  refine Fc_body Tryd.func82 rfl Tryd.ntmps82 Tryd.results82 rfl ?_
  unfold M_strconv_AppendUint at H
  refine Cw_seq ?_
  refine Cw_region ?_
  refine Ow_q rfl rfl rfl (Qt_assign rfl) ?_
  refine Ow_nil ?_
  refine Cw_seq ?_
  refine Cw_region ?_
  refine Ow_q rfl rfl rfl (Qt_move rfl) ?_
  refine Ow_q rfl rfl rfl (Qt_move rfl) ?_
  refine Ow_q rfl rfl rfl (Qt_move rfl) ?_
  obtain ⟨x6, hx7, H⟩ := bnd H
  refine Ow_cons rfl (OpW_call rfl Tryd.call90 rfl rfl (c_M_internal_strconv_AppendUint_m0row p0 vp0 rsp0 p1 p2 x6 hx7 _ _ hp0 hT) ?_)
  rintro _ _ _ - ⟨v8, rs9, rfl, rfl, rfl, hs10⟩
  refine Ow_q rfl rfl rfl (Qt_assign rfl) ?_
  refine Ow_nil ?_
  refine Cw_ret ?_
  obtain ey0 := inj1 H
  subst y0
  refine ⟨(by first | exact .inl rfl | exact .inr rfl), [(sv v8)], ⟨(sv v8), _, rfl, rfl, rfl⟩, ?_⟩
  refine Shift.done ?_
  exact ⟨v8, rs9, rfl, rfl, rfl, hs10⟩



end Go.Hx

namespace Go.Hx
open Go Go.Proofs
set_option linter.unusedSimpArgs false
set_option linter.unusedVariables false
set_option maxRecDepth 10000
set_option maxHeartbeats 1000000 in
theorem c_M_linear_describe (p0 : List Int) (vp0 : SV) (p1 : List Chan) (vp1 : SV) (y0 : ByteArray) (H : M_linear_describe p0 p1 = some y0) (K : Kp) (G : List Ent) (hp0 : Slr Ty.i64 K (sv vp0) p0) (hp1 : Slr TyChan K (sv vp1) p1) (hT : TabK K) :
    Fc Tryd.prog 52 #[(sv vp0), (sv vp1)] K (G) (fun v K' G' => v = (.string y0) ∧ G = G') := by
  refine Fc_body Tryd.func52 rfl Tryd.ntmps52 Tryd.results52 rfl ?_
  unfold M_linear_describe at H
  refine Cw_seq ?_
  refine Cw_region ?_
  refine Ow_q rfl rfl rfl (Qt_assign rfl) ?_
  refine Ow_nil ?_
  refine Cw_seq ?_
  refine Cw_region ?_
  refine Ow_q rfl rfl rfl (Qt_assign rfl) ?_
  refine Ow_nil ?_
  refine Cw_join (fun env' K' G' => ∃ (v324 : SV) (l325 : List Int) (rs327 : List (List Value)), [(1, (sv vp1)), (5, (sv v324))] = env' ∧ (.row (sv v324) 5 1 rs327.flatten) :: G = G' ∧ M_linear_describe_J1 p1 l325 = some y0 ∧ RowR Ty.u8 K' rs327 l325) ?_ ?_
  · skip
    refine Cw_seq ?_
    refine Cw_region ?_
    refine Ow_q rfl rfl rfl (Qt_move rfl) ?_
    refine Ow_q rfl rfl rfl (Q_len (T := Ty.i64) hp0 rfl rfl) ?_
    refine Ow_q rfl rfl rfl (Qt_move rfl) ?_
    refine Ow_nil ?_
    refine Cw_block ?_
    refine Cw_loopM (fun n383 env' K' G' => ∃ (v378 : SV) (l379 : List Int) (rs381 : List (List Value)) (i382 : Int), [(1, (sv vp1)), (5, (sv v378)), (12, (sv vp0)), (13, (.int .i64 (p0.length : Int))), (14, (.int .i64 i382))] = env' ∧ K = K' ∧ (.row (sv v378) 5 1 rs381.flatten) :: G = G' ∧ lp2 (M_linear_describe_L1 p1 p0) n383 l379 i382 = some y0 ∧ RowR Ty.u8 K' rs381 l379) BIG ?_ ?_
    · skip
      have hR384 : RowR Ty.u8 K [] [] := RowR.nil
      refine Shift.nilRow 5 1 ?_
      refine Shift.done ?_
      exact ⟨[(1, (sv vp1)), (5, (sv nilS)), (12, (sv vp0)), (13, (.int .i64 (p0.length : Int))), (14, (.int .i64 0))], ⟨rfl, rfl, rfl, rfl, rfl, trivial⟩, nilS, ([] : List Int), ([] : List (List Value)), 0, rfl, rfl, rfl, H, hR384⟩
    rintro n383 _ _ _ - ⟨v378, l379, rs381, i382, rfl, rfl, rfl, H, hR380⟩
    obtain ⟨m385, k386, rfl, hkk387, H⟩ := lps2 H
    unfold M_linear_describe_L1 at H
    refine Cw_seq ?_
    refine Cw_region ?_
    refine Ow_q rfl rfl rfl (Qt_cmp rfl rfl rfl) ?_
    refine Ow_nil ?_
    refine Cw_seq ?_
    refine Cw_cond rfl ?_ ?_
    · intro h389
      have h389 := dcd_t (h389)
      have H := ift h389 H
      refine Cw_skip ?_
      refine Cw_seq ?_
      refine Cw_block ?_
      refine Cw_seq ?_
      refine Cw_region ?_
      obtain ⟨x407, hx408, H⟩ := bnd H
      obtain ⟨r409, hr410, hk411⟩ := Slr.at hp0 hx408
      obtain rfl := hr410
      refine Ow_q rfl rfl rfl (Q_ix (T := Ty.i64) hp0 hx408 rfl rfl rfl rfl rfl) ?_
      refine Ow_q rfl rfl rfl (Qt_load1 (v := (.int .i64 x407)) rfl rfl rfl (Rdc.k hk411 rfl)) ?_
      refine Ow_q rfl rfl rfl (Qt_assign rfl) ?_
      refine Ow_nil ?_
      refine Cw_region ?_
      refine Ow_q rfl rfl rfl (Qt_move rfl) ?_
      refine Ow_q rfl rfl rfl (Qt_move rfl) ?_
      obtain ⟨x412, hx413, H⟩ := bnd H
      refine Ow_cons rfl (OpW_call rfl Tryd.call80 rfl rfl (c_M_strconv_AppendInt l379 v378 rs381 x407 10 x412 hx413 _ _ hR380 hT) ?_)
      rintro _ _ _ - ⟨v414, rs415, rfl, rfl, rfl, hs416⟩
      have hR418 : RowR Ty.u8 K [[(.int .u8 32)]] [32] := RowR.cons rfl (RowR.nil)
      refine Ow_cons rfl (O_lit (T := Ty.u8) (rows := [[(.int .u8 32)]]) (l := [32]) rfl rfl rfl hR418 rfl rfl rfl rfl rfl rfl rfl rfl (fun v417 => ?_))
      obtain ⟨x419, hx420, H⟩ := bnd H
      refine Ow_cons rfl (O_appRow (T := Ty.u8) (bytes := 1) rfl rfl rfl (.tail _ (.head _)) hs416 (SrcT.row (.head _) hR418 rfl) hx420 rfl rfl rfl rfl rfl rfl rfl rfl (fun v421 rs422 hR423 => ⟨_, (.there .here), ?_⟩))
      refine Ow.shift (Shift.rem .here (Shift.done ?_))
      refine Ow_q rfl rfl rfl (Qt_assign rfl) ?_
      refine Ow_nil ?_
      refine Cw_region ?_
      refine Ow_q rfl rfl rfl (Qt_arith (e := wI (i382 + 1)) rfl rfl rfl rfl) ?_
      refine Ow_q rfl rfl rfl (Qt_move rfl) ?_
      refine Ow_nil ?_
      refine Shift.done ?_
      exact ⟨[(1, (sv vp1)), (5, (sv v421)), (12, (sv vp0)), (13, (.int .i64 (p0.length : Int))), (14, (.int .i64 (wI (i382 + 1))))], ⟨rfl, rfl, rfl, rfl, rfl, trivial⟩, _, Nat.lt_succ_self _, v421, x419, rs422, (wI (i382 + 1)), rfl, rfl, rfl, (hkk387 ▸ H), hR423⟩
    · intro h389
      have h389 := dcd_f (h389)
      have H := iff_ h389 H
      refine Cw_exit ?_
      refine Shift.done ?_
      exact ⟨[(1, (sv vp1)), (5, (sv v378))], ⟨rfl, rfl, trivial⟩, v378, l379, rs381, rfl, rfl, H, hR380⟩
  rintro _ K424 _ hK425 ⟨v324, l325, rs327, rfl, rfl, H, hR326⟩
  unfold M_linear_describe_J1 at H
  refine Cw_join (fun env' K' G' => ∃ (v625 : SV) (l626 : List Int) (rs628 : List (List Value)), [(5, (sv v625))] = env' ∧ (.row (sv v625) 5 1 rs628.flatten) :: G = G' ∧ M_linear_describe_J2 l626 = some y0 ∧ RowR Ty.u8 K' rs628 l626) ?_ ?_
  · skip
    refine Cw_seq ?_
    refine Cw_region ?_
    refine Ow_q rfl rfl rfl (Qt_move rfl) ?_
    have hs629 := (hp1).mono hK425
    refine Ow_q rfl rfl rfl (Q_len (T := TyChan) hs629 rfl rfl) ?_
    refine Ow_q rfl rfl rfl (Qt_move rfl) ?_
    refine Ow_nil ?_
    refine Cw_block ?_
    refine Cw_loopM (fun n828 env' K' G' => ∃ (v823 : SV) (l824 : List Int) (rs826 : List (List Value)) (i827 : Int), [(5, (sv v823)), (24, (sv vp1)), (25, (.int .i64 (p1.length : Int))), (26, (.int .i64 i827))] = env' ∧ (.row (sv v823) 5 1 rs826.flatten) :: G = G' ∧ lp2 (M_linear_describe_L2 p1) n828 l824 i827 = some y0 ∧ RowR Ty.u8 K' rs826 l824) BIG ?_ ?_
    · skip
      refine Shift.done ?_
      exact ⟨[(5, (sv v324)), (24, (sv vp1)), (25, (.int .i64 (p1.length : Int))), (26, (.int .i64 0))], ⟨rfl, rfl, rfl, rfl, trivial⟩, v324, l325, rs327, 0, rfl, rfl, H, hR326⟩
    rintro n828 _ K829 _ hK830 ⟨v823, l824, rs826, i827, rfl, rfl, H, hR825⟩
    obtain ⟨m831, k832, rfl, hkk833, H⟩ := lps2 H
    unfold M_linear_describe_L2 at H
    refine Cw_seq ?_
    refine Cw_region ?_
    refine Ow_q rfl rfl rfl (Qt_cmp rfl rfl rfl) ?_
    refine Ow_nil ?_
    refine Cw_seq ?_
    refine Cw_cond rfl ?_ ?_
    · intro h835
      have h835 := dcd_t (h835)
      have H := ift h835 H
      refine Cw_skip ?_
      refine Cw_join (fun env' K' G' => ∃ (v920 : SV) (l921 : List Int) (rs923 : List (List Value)), [(5, (sv v920)), (24, (sv vp1)), (25, (.int .i64 (p1.length : Int))), (26, (.int .i64 i827))] = env' ∧ (.row (sv v920) 5 1 rs923.flatten) :: G = G' ∧ M_linear_describe_J3 p1 i827 k832 l921 = some y0 ∧ RowR Ty.u8 K' rs923 l921) ?_ ?_
      · skip
        refine Cw_block ?_
        refine Cw_seq ?_
        refine Cw_region ?_
        obtain ⟨x924, hx925, H⟩ := bnd H
        have hs926 := (hs629).mono hK830
        obtain ⟨r927, hr928, hk929⟩ := Slr.at hs926 hx925
        obtain ⟨v930, rfl, hs931⟩ := hr928
        refine Ow_q rfl rfl rfl (Q_ix (T := TyChan) hs926 hx925 rfl rfl rfl rfl rfl) ?_
        refine Ow_q rfl rfl rfl (Qt_loadA (m := 3) (cs := (Chan.cells x924 v930)) rfl rfl rfl rfl ⟨rfl, Rdc.k hk929 rfl⟩) ?_
        refine Ow_cons rfl (OpW_alloc (cs := (Chan.cells (Chan.mk 0 [] false) nilS)) rfl rfl rfl rfl (fun b932 => ?_))
        refine Ow_cons rfl (OpW_store (vs := (Chan.cells x924 v930)) (all' := (Chan.cells x924 v930)) rfl rfl rfl rfl rfl .here rfl rfl rfl ?_)
        refine Ow_nil ?_
        refine Cw_seq ?_
        obtain ⟨x955, hx956, H⟩ := bnd H
        obtain ⟨x960, hx961, H⟩ := bnd H
        refine Cw_region_any [.blk b932 74 (Chan.cells x924 v930)] rfl (Inc.cons (.head _) Inc.nil) ?_
        refine Aw_q 0 rfl (by kernel_rfl) (by kernel_rfl) (by kernel_rfl) rfl rfl rfl (Qt_move rfl) ?_
        refine Aw_q 3 rfl (by kernel_rfl) (by kernel_rfl) (by kernel_rfl) rfl rfl rfl (Qt_fieldAddr (m := 2) rfl rfl rfl rfl rfl) ?_
        refine Aw_q 4 rfl (by kernel_rfl) (by kernel_rfl) (by kernel_rfl) rfl rfl rfl (Qt_load1 (v := (.bool x924.closed)) rfl rfl rfl (Rdc.blk (.head _) rfl)) ?_
        refine Aw_one 1 (by kernel_rfl) (Ax_mk rfl rfl ?_)
        have hR966 : RowR Ty.u8 K829 [[(.int .u8 47)]] [47] := RowR.cons rfl (RowR.nil)
        refine O_lit (T := Ty.u8) (rows := [[(.int .u8 47)]]) (l := [47]) rfl rfl rfl hR966 rfl rfl rfl rfl rfl rfl rfl rfl (fun v965 => ⟨(Inc.cons (.tail _ (.head _)) Inc.nil), ?_⟩)
        refine Aw_one 2 (by kernel_rfl) (Ax_mk rfl rfl ?_)
        refine O_appRow (T := Ty.u8) (bytes := 1) rfl rfl rfl (.tail _ (.tail _ (.head _))) hR825 (SrcT.row (.head _) hR966 rfl) hx956 rfl rfl rfl rfl rfl rfl rfl rfl (fun v967 rs968 hR969 => ⟨_, (.there (.there .here)), ⟨(Inc.cons (.tail _ (.head _)) Inc.nil), ?_⟩⟩)
        refine Aw.shift (Shift.rem .here (Shift.done ⟨(Inc.cons (.head _) Inc.nil), ?_⟩))
        refine Aw_one 5 (by kernel_rfl) (Ax_mk rfl rfl ?_)
        refine OpW.shift (Shift.pull (.there .here) (Shift.done ?_))
        refine OpW_call rfl Tryd.call81 rfl rfl (c_M_strconv_AppendBool x955 v967 rs968 x924.closed x960 hx961 _ _ hR969) ?_
        rintro _ _ _ - ⟨v970, rs971, rfl, rfl, rfl, hs972⟩
        refine ⟨(Inc.cons (.tail _ (.head _)) Inc.nil), ?_⟩
        refine Aw_q 6 rfl (by kernel_rfl) (by kernel_rfl) (by kernel_rfl) rfl rfl rfl (Qt_assign rfl) ?_
        refine Aw_done (by kernel_rfl) ?_
        refine Cw_seq ?_
        refine Cw_region ?_
        refine Ow_q rfl rfl rfl (Qt_fieldAddr (m := 1) rfl rfl rfl rfl rfl) ?_
        refine Ow_q rfl rfl rfl (Qt_load1 (v := (sv v930)) rfl rfl rfl (Rdc.blk (.tail _ (.head _)) rfl)) ?_
        refine Ow_q rfl rfl rfl (Q_len (T := Ty.u64) hs931 rfl rfl) ?_
        refine Ow_q rfl rfl rfl (Qt_move rfl) ?_
        refine Ow_nil ?_
        refine Cw_block ?_
        refine Cw_loopM (fun n1028 env' K' G' => ∃ (v1023 : SV) (l1024 : List Int) (rs1026 : List (List Value)) (i1027 : Int), [(5, (sv v1023)), (24, (sv vp1)), (25, (.int .i64 (p1.length : Int))), (26, (.int .i64 i827)), (37, (sv v930)), (38, (.int .i64 (x924.buffer.length : Int))), (39, (.int .i64 i1027))] = env' ∧ K829 = K' ∧ (.row (sv v1023) 5 1 rs1026.flatten) :: G = G' ∧ lp2 (M_linear_describe_L3 p1 i827 x924 k832) n1028 l1024 i1027 = some y0 ∧ RowR Ty.u8 K' rs1026 l1024) BIG ?_ ?_
        · skip
          refine Shift.rem (.there .here) ?_
          refine Shift.done ?_
          exact ⟨[(5, (sv v970)), (24, (sv vp1)), (25, (.int .i64 (p1.length : Int))), (26, (.int .i64 i827)), (37, (sv v930)), (38, (.int .i64 (x924.buffer.length : Int))), (39, (.int .i64 0))], ⟨rfl, rfl, rfl, rfl, rfl, rfl, rfl, trivial⟩, v970, x960, rs971, 0, rfl, rfl, rfl, H, hs972⟩
        rintro n1028 _ _ _ - ⟨v1023, l1024, rs1026, i1027, rfl, rfl, rfl, H, hR1025⟩
        obtain ⟨m1029, k1030, rfl, hkk1031, H⟩ := lps2 H
        unfold M_linear_describe_L3 at H
        refine Cw_seq ?_
        refine Cw_region ?_
        refine Ow_q rfl rfl rfl (Qt_cmp rfl rfl rfl) ?_
        refine Ow_nil ?_
        refine Cw_seq ?_
        refine Cw_cond rfl ?_ ?_
        · intro h1033
          have h1033 := dcd_t (h1033)
          have H := ift h1033 H
          refine Cw_skip ?_
          refine Cw_seq ?_
          refine Cw_block ?_
          refine Cw_seq ?_
          refine Cw_region ?_
          obtain ⟨x1052, hx1053, H⟩ := bnd H
          obtain ⟨r1054, hr1055, hk1056⟩ := Slr.at hs931 hx1053
          obtain rfl := hr1055
          refine Ow_q rfl rfl rfl (Q_ix (T := Ty.u64) hs931 hx1053 rfl rfl rfl rfl rfl) ?_
          refine Ow_q rfl rfl rfl (Qt_load1 (v := (.int .u64 x1052)) rfl rfl rfl (Rdc.k hk1056 rfl)) ?_
          refine Ow_q rfl rfl rfl (Qt_assign rfl) ?_
          refine Ow_nil ?_
          refine Cw_region ?_
          refine Ow_q rfl rfl rfl (Qt_move rfl) ?_
          have hR1058 : RowR Ty.u8 K829 [[(.int .u8 32)]] [32] := RowR.cons rfl (RowR.nil)
          refine Ow_cons rfl (O_lit (T := Ty.u8) (rows := [[(.int .u8 32)]]) (l := [32]) rfl rfl rfl hR1058 rfl rfl rfl rfl rfl rfl rfl rfl (fun v1057 => ?_))
          obtain ⟨x1059, hx1060, H⟩ := bnd H
          refine Ow_cons rfl (O_appRow (T := Ty.u8) (bytes := 1) rfl rfl rfl (.tail _ (.head _)) hR1025 (SrcT.row (.head _) hR1058 rfl) hx1060 rfl rfl rfl rfl rfl rfl rfl rfl (fun v1061 rs1062 hR1063 => ⟨_, (.there .here), ?_⟩))
          refine Ow.shift (Shift.rem .here (Shift.done ?_))
          refine Ow_q rfl rfl rfl (Qt_move rfl) ?_
          obtain ⟨x1064, hx1065, H⟩ := bnd H
          have hs1066 := ((hT).mono hK425).mono hK830
          refine Ow_cons rfl (OpW_call rfl Tryd.call82 rfl rfl (c_M_strconv_AppendUint x1059 v1061 rs1062 x1052 10 x1064 hx1065 _ _ hR1063 hs1066) ?_)
          rintro _ _ _ - ⟨v1067, rs1068, rfl, rfl, rfl, hs1069⟩
          refine Ow_q rfl rfl rfl (Qt_assign rfl) ?_
          refine Ow_nil ?_
          refine Cw_region ?_
          refine Ow_q rfl rfl rfl (Qt_arith (e := wI (i1027 + 1)) rfl rfl rfl rfl) ?_
          refine Ow_q rfl rfl rfl (Qt_move rfl) ?_
          refine Ow_nil ?_
          refine Shift.done ?_
          exact ⟨[(5, (sv v1067)), (24, (sv vp1)), (25, (.int .i64 (p1.length : Int))), (26, (.int .i64 i827)), (37, (sv v930)), (38, (.int .i64 (x924.buffer.length : Int))), (39, (.int .i64 (wI (i1027 + 1))))], ⟨rfl, rfl, rfl, rfl, rfl, rfl, rfl, trivial⟩, _, Nat.lt_succ_self _, v1067, x1064, rs1068, (wI (i1027 + 1)), rfl, rfl, rfl, (hkk1031 ▸ H), hs1069⟩
        · intro h1033
          have h1033 := dcd_f (h1033)
          have H := iff_ h1033 H
          refine Cw_exit ?_
          refine Shift.done ?_
          exact ⟨[(5, (sv v1023)), (24, (sv vp1)), (25, (.int .i64 (p1.length : Int))), (26, (.int .i64 i827))], ⟨rfl, rfl, rfl, rfl, trivial⟩, v1023, l1024, rs1026, rfl, rfl, H, hR1025⟩
      rintro _ K1070 _ hK1071 ⟨v920, l921, rs923, rfl, rfl, H, hR922⟩
      unfold M_linear_describe_J3 at H
      refine Cw_region ?_
      refine Ow_q rfl rfl rfl (Qt_arith (e := wI (i827 + 1)) rfl rfl rfl rfl) ?_
      refine Ow_q rfl rfl rfl (Qt_move rfl) ?_
      refine Ow_nil ?_
      refine Shift.done ?_
      exact ⟨[(5, (sv v920)), (24, (sv vp1)), (25, (.int .i64 (p1.length : Int))), (26, (.int .i64 (wI (i827 + 1))))], ⟨rfl, rfl, rfl, rfl, trivial⟩, _, Nat.lt_succ_self _, v920, l921, rs923, (wI (i827 + 1)), rfl, rfl, (hkk833 ▸ H), hR922⟩
    · intro h835
      have h835 := dcd_f (h835)
      have H := iff_ h835 H
      refine Cw_exit ?_
      refine Shift.done ?_
      exact ⟨[(5, (sv v823))], ⟨rfl, trivial⟩, v823, l824, rs826, rfl, rfl, H, hR825⟩
  rintro _ K1072 _ hK1073 ⟨v625, l626, rs628, rfl, rfl, H, hR627⟩
  unfold M_linear_describe_J2 at H
  refine Cw_seq ?_
  refine Cw_region ?_
  refine Ow_q rfl rfl rfl (Qt_move rfl) ?_
  obtain ⟨x1074, hx1075, H⟩ := bnd H
  refine Ow_q rfl rfl rfl (Q_strR (.head _) hR627 hx1075 rfl rfl rfl rfl) ?_
  refine Ow_q rfl rfl rfl (Qt_assign rfl) ?_
  refine Ow_nil ?_
  refine Cw_ret ?_
  obtain ey0 := inj1 H
  subst y0
  refine ⟨(by first | exact .inl rfl | exact .inr rfl), [(.string x1074)], ⟨(.string x1074), _, rfl, rfl, rfl⟩, ?_⟩
  refine Shift.rem .here ?_
  refine Shift.done ?_
  exact ⟨rfl, rfl⟩

set_option maxHeartbeats 1000000 in
theorem c_M_linear_search_candidate (bp0 : Nat) (p0_threads : List (List Linear_call)) (vp0_threads : SV) (p0_open_ : Bool) (p0_failed : ByteArray → Option Bool) (bp0_failed : Nat) (esp0_failed : Array MapEntry) (ckp0_failed : Nat) (p0_order : List Done) (vp0_order : SV) (rsp0_order : List (List Value)) (p1 : List Int) (vp1 : SV) (p2 : Int) (p3 : Int) (y0 : Linear_call) (y1 : Bool) (H : M_linear_search_candidate p0_threads p0_open_ p0_failed p0_order p1 p2 p3 = some (y0, y1)) (K : Kp) (G : List Ent) (hp0_threads : Slr (Ty.sl TyLinear_call) K (sv vp0_threads) p0_threads) (hp0_failed : MapR Ty.bool Value.string K esp0_failed p0_failed) (hp0_order : RowR TyDone K rsp0_order p0_order) (hp1 : Slr Ty.i64 K (sv vp1) p1) :
    Fc Tryd.prog 53 #[(.pointer (some ((⟨bp0, 0, none⟩ : Addr).add 0))), (sv vp1), (.int .i64 p2), (.int .i64 p3)] K ((.blk bp0 82 [(sv vp0_threads), (.bool p0_open_), .nilFunc, (.map (some bp0_failed)), (sv vp0_order)]) :: (.obj bp0_failed (.map esp0_failed ckp0_failed)) :: (.row (sv vp0_order) 47 6 rsp0_order.flatten) :: G) (fun v K' G' => ∃ (wy0_op_cases : SV) (wy0_op_draws : SV), v = (.tuple #[(.agg (Linear_call.cells y0 wy0_op_cases wy0_op_draws).toArray), (.bool y1)]) ∧ K = K' ∧ (.blk bp0 82 [(sv vp0_threads), (.bool p0_open_), .nilFunc, (.map (some bp0_failed)), (sv vp0_order)]) :: (.obj bp0_failed (.map esp0_failed ckp0_failed)) :: (.row (sv vp0_order) 47 6 rsp0_order.flatten) :: G = G' ∧ Slr TyCase K' (sv wy0_op_cases) y0.op.cases ∧ Slr Ty.i64 K' (sv wy0_op_draws) y0.op.draws) := by
  refine Fc_body Tryd.func53 rfl Tryd.ntmps53 Tryd.results53 rfl ?_
  unfold M_linear_search_candidate at H
  refine Cw_seq ?_
  refine Cw_region ?_
  refine Ow_cons rfl (OpW_alloc (cs := (Linear_call.cells (Linear_call.mk (Op.mk 0 0 0 0 0 [] []) (Result.mk 0 0 0 false 0) 0 0) nilS nilS)) rfl rfl rfl rfl (fun b64 => ?_))
  refine Ow_q rfl rfl rfl (Qt_assign rfl) ?_
  refine Ow_nil ?_
  refine Cw_seq ?_
  refine Cw_seq ?_
  obtain ⟨x86, hx87, H⟩ := bnd H
  obtain ⟨x91, hx92, H⟩ := bnd H
  refine Cw_region_any [.blk b64 109 (Linear_call.cells (Linear_call.mk (Op.mk 0 0 0 0 0 [] []) (Result.mk 0 0 0 false 0) 0 0) nilS nilS), .blk bp0 82 [(sv vp0_threads), (.bool p0_open_), .nilFunc, (.map (some bp0_failed)), (sv vp0_order)], .obj bp0_failed (.map esp0_failed ckp0_failed), .row (sv vp0_order) 47 6 rsp0_order.flatten] rfl (Inc.cons (.head _) (Inc.cons (.tail _ (.head _)) (Inc.cons (.tail _ (.tail _ (.head _))) (Inc.cons (.tail _ (.tail _ (.tail _ (.head _)))) Inc.nil)))) ?_
  refine Aw_q 0 rfl (by kernel_rfl) (by kernel_rfl) (by kernel_rfl) rfl rfl rfl (Qt_move rfl) ?_
  refine Aw_q 1 rfl (by kernel_rfl) (by kernel_rfl) (by kernel_rfl) rfl rfl rfl (Qt_move rfl) ?_
  obtain ⟨r98, hr99, hk100⟩ := Slr.at hp1 hx87
  obtain rfl := hr99
  refine Aw_q 2 rfl (by kernel_rfl) (by kernel_rfl) (by kernel_rfl) rfl rfl rfl (Q_ix (T := Ty.i64) hp1 hx87 rfl rfl rfl rfl rfl) ?_
  refine Aw_q 3 rfl (by kernel_rfl) (by kernel_rfl) (by kernel_rfl) rfl rfl rfl (Qt_load1 (v := (.int .i64 x86)) rfl rfl rfl (Rdc.k hk100 rfl)) ?_
  refine Aw_q 4 rfl (by kernel_rfl) (by kernel_rfl) (by kernel_rfl) rfl rfl rfl (Qt_move rfl) ?_
  refine Aw_q 5 rfl (by kernel_rfl) (by kernel_rfl) (by kernel_rfl) rfl rfl rfl (Qt_nilCheck rfl) ?_
  refine Aw_q 6 rfl (by kernel_rfl) (by kernel_rfl) (by kernel_rfl) rfl rfl rfl (Qt_fieldAddr (m := 0) rfl rfl rfl rfl rfl) ?_
  refine Aw_q 7 rfl (by kernel_rfl) (by kernel_rfl) (by kernel_rfl) rfl rfl rfl (Qt_load1 (v := (sv vp0_threads)) rfl rfl rfl (Rdc.blk (.tail _ (.head _)) rfl)) ?_
  refine Aw_q 8 rfl (by kernel_rfl) (by kernel_rfl) (by kernel_rfl) rfl rfl rfl (Qt_move rfl) ?_
  obtain ⟨r101, hr102, hk103⟩ := Slr.at hp0_threads hx92
  obtain ⟨v104, rfl, hs105⟩ := hr102
  refine Aw_q 9 rfl (by kernel_rfl) (by kernel_rfl) (by kernel_rfl) rfl rfl rfl (Q_ix (T := (Ty.sl TyLinear_call)) hp0_threads hx92 rfl rfl rfl rfl rfl) ?_
  refine Aw_q 10 rfl (by kernel_rfl) (by kernel_rfl) (by kernel_rfl) rfl rfl rfl (Qt_load1 (v := (sv v104)) rfl rfl rfl (Rdc.k hk103 rfl)) ?_
  refine Aw_q 11 rfl (by kernel_rfl) (by kernel_rfl) (by kernel_rfl) rfl rfl rfl (Q_len (T := TyLinear_call) hs105 rfl rfl) ?_
  refine Aw_q 12 rfl (by kernel_rfl) (by kernel_rfl) (by kernel_rfl) rfl rfl rfl (Qt_cmp rfl rfl rfl) ?_
  refine Aw_done (by kernel_rfl) ?_
  refine Cw_cond rfl ?_ ?_
  · intro h106
    have h106 := dcd_t (h106)
    have H := ift h106 H
    refine Cw_seq ?_
    refine Cw_region ?_
    refine Ow_q rfl rfl rfl (Qt_build (cs := (Linear_call.cells (Linear_call.mk (Op.mk 0 0 0 0 0 [] []) (Result.mk 0 0 0 false 0) 0 0) nilS nilS)) rfl rfl rfl rfl rfl rfl) ?_
    refine Ow_cons rfl (OpW_store (vs := (Linear_call.cells (Linear_call.mk (Op.mk 0 0 0 0 0 [] []) (Result.mk 0 0 0 false 0) 0 0) nilS nilS)) (all' := (Linear_call.cells (Linear_call.mk (Op.mk 0 0 0 0 0 [] []) (Result.mk 0 0 0 false 0) 0 0) nilS nilS)) rfl rfl rfl rfl rfl .here rfl rfl rfl ?_)
    refine Ow_q rfl rfl rfl (Qt_assign rfl) ?_
    refine Ow_nil ?_
    refine Cw_ret ?_
    obtain ⟨ey0, ey1⟩ := inj2 H
    subst y0 y1
    refine ⟨(by first | exact .inl rfl | exact .inr rfl), [(.agg (Linear_call.cells (Linear_call.mk (Op.mk 0 0 0 0 0 [] []) (Result.mk 0 0 0 false 0) 0 0) nilS nilS).toArray), (.bool false)], ⟨(.agg (Linear_call.cells (Linear_call.mk (Op.mk 0 0 0 0 0 [] []) (Result.mk 0 0 0 false 0) 0 0) nilS nilS).toArray), _, rfl, ⟨_, 14, (Linear_call.cells (Linear_call.mk (Op.mk 0 0 0 0 0 [] []) (Result.mk 0 0 0 false 0) 0 0) nilS nilS), rfl, rfl, rfl, rfl, ⟨rfl, Rdc.blk (.head _) rfl⟩, rfl⟩, ⟨(.bool false), _, rfl, rfl, rfl⟩⟩, ?_⟩
    refine Shift.pull (.there (.there (.there .here))) ?_
    refine Shift.pull (.there (.there (.there .here))) ?_
    refine Shift.pull (.there (.there (.there .here))) ?_
    refine Shift.rem (.there (.there (.there .here))) ?_
    refine Shift.done ?_
    exact ⟨nilS, nilS, rfl, rfl, rfl, (Slr.nil TyCase _), (Slr.nil Ty.i64 _)⟩
  · intro h106
    have h106 := dcd_f (h106)
    have H := iff_ h106 H
    refine Cw_skip ?_
    refine Cw_seq ?_
    obtain ⟨x145, hx146, H⟩ := bnd H
    obtain ⟨x152, hx153, H⟩ := bnd H
    obtain ⟨x157, hx158, H⟩ := bnd H
    refine Cw_region_any [.blk b64 109 (Linear_call.cells (Linear_call.mk (Op.mk 0 0 0 0 0 [] []) (Result.mk 0 0 0 false 0) 0 0) nilS nilS), .blk bp0 82 [(sv vp0_threads), (.bool p0_open_), .nilFunc, (.map (some bp0_failed)), (sv vp0_order)], .obj bp0_failed (.map esp0_failed ckp0_failed), .row (sv vp0_order) 47 6 rsp0_order.flatten] rfl (Inc.cons (.head _) (Inc.cons (.tail _ (.head _)) (Inc.cons (.tail _ (.tail _ (.head _))) (Inc.cons (.tail _ (.tail _ (.tail _ (.head _)))) Inc.nil)))) ?_
    refine Aw_q 0 rfl (by kernel_rfl) (by kernel_rfl) (by kernel_rfl) rfl rfl rfl (Qt_move rfl) ?_
    refine Aw_q 1 rfl (by kernel_rfl) (by kernel_rfl) (by kernel_rfl) rfl rfl rfl (Qt_nilCheck rfl) ?_
    refine Aw_q 2 rfl (by kernel_rfl) (by kernel_rfl) (by kernel_rfl) rfl rfl rfl (Qt_fieldAddr (m := 0) rfl rfl rfl rfl rfl) ?_
    refine Aw_q 3 rfl (by kernel_rfl) (by kernel_rfl) (by kernel_rfl) rfl rfl rfl (Qt_load1 (v := (sv vp0_threads)) rfl rfl rfl (Rdc.blk (.tail _ (.head _)) rfl)) ?_
    refine Aw_q 4 rfl (by kernel_rfl) (by kernel_rfl) (by kernel_rfl) rfl rfl rfl (Qt_move rfl) ?_
    obtain ⟨r167, hr168, hk169⟩ := Slr.at hp0_threads hx146
    obtain ⟨v170, rfl, hs171⟩ := hr168
    refine Aw_q 5 rfl (by kernel_rfl) (by kernel_rfl) (by kernel_rfl) rfl rfl rfl (Q_ix (T := (Ty.sl TyLinear_call)) hp0_threads hx146 rfl rfl rfl rfl rfl) ?_
    refine Aw_q 6 rfl (by kernel_rfl) (by kernel_rfl) (by kernel_rfl) rfl rfl rfl (Qt_load1 (v := (sv v170)) rfl rfl rfl (Rdc.k hk169 rfl)) ?_
    refine Aw_q 7 rfl (by kernel_rfl) (by kernel_rfl) (by kernel_rfl) rfl rfl rfl (Qt_move rfl) ?_
    refine Aw_q 8 rfl (by kernel_rfl) (by kernel_rfl) (by kernel_rfl) rfl rfl rfl (Qt_move rfl) ?_
    obtain ⟨r172, hr173, hk174⟩ := Slr.at hp1 hx153
    obtain rfl := hr173
    refine Aw_q 9 rfl (by kernel_rfl) (by kernel_rfl) (by kernel_rfl) rfl rfl rfl (Q_ix (T := Ty.i64) hp1 hx153 rfl rfl rfl rfl rfl) ?_
    refine Aw_q 10 rfl (by kernel_rfl) (by kernel_rfl) (by kernel_rfl) rfl rfl rfl (Qt_load1 (v := (.int .i64 x152)) rfl rfl rfl (Rdc.k hk174 rfl)) ?_
    obtain ⟨r175, hr176, hk177⟩ := Slr.at hs171 hx158
    obtain ⟨v178, v179, rfl, hs180, hs181⟩ := hr176
    refine Aw_q 11 rfl (by kernel_rfl) (by kernel_rfl) (by kernel_rfl) rfl rfl rfl (Q_ix (T := TyLinear_call) hs171 hx158 rfl rfl rfl rfl rfl) ?_
    refine Aw_q 12 rfl (by kernel_rfl) (by kernel_rfl) (by kernel_rfl) rfl rfl rfl (Qt_loadA (m := 14) (cs := (Linear_call.cells x157 v178 v179)) rfl rfl rfl rfl ⟨rfl, Rdc.k hk177 rfl⟩) ?_
    refine Aw_one 13 (by kernel_rfl) (Ax_mk rfl rfl ?_)
    refine OpW_alloc (cs := (Linear_call.cells (Linear_call.mk (Op.mk 0 0 0 0 0 [] []) (Result.mk 0 0 0 false 0) 0 0) nilS nilS)) rfl rfl rfl rfl (fun b182 => ⟨(Inc.cons (.tail _ (.head _)) (Inc.cons (.tail _ (.tail _ (.head _))) (Inc.cons (.tail _ (.tail _ (.tail _ (.head _)))) (Inc.cons (.tail _ (.tail _ (.tail _ (.tail _ (.head _))))) Inc.nil)))), ?_⟩)
    refine Aw_one 14 (by kernel_rfl) (Ax_mk rfl rfl ?_)
    refine OpW_store (vs := (Linear_call.cells x157 v178 v179)) (all' := (Linear_call.cells x157 v178 v179)) rfl rfl rfl rfl rfl .here rfl rfl rfl ⟨(Inc.cons (.tail _ (.head _)) (Inc.cons (.tail _ (.tail _ (.head _))) (Inc.cons (.tail _ (.tail _ (.tail _ (.head _)))) (Inc.cons (.tail _ (.tail _ (.tail _ (.tail _ (.head _))))) Inc.nil)))), ?_⟩
    refine Aw_done (by kernel_rfl) ?_
    refine Cw_join (fun env' K' G' => ∃ (t185 : Bool), [(8, (.pointer (some ((⟨b64, 0, none⟩ : Addr).add 0)))), (9, (.bool t185))] = env' ∧ K = K' ∧ (.blk bp0 82 [(sv vp0_threads), (.bool p0_open_), .nilFunc, (.map (some bp0_failed)), (sv vp0_order)]) :: (.blk b64 109 (Linear_call.cells x157 v178 v179)) :: (.obj bp0_failed (.map esp0_failed ckp0_failed)) :: (.row (sv vp0_order) 47 6 rsp0_order.flatten) :: G = G' ∧ M_linear_search_candidate_J1 p0_threads p0_open_ p0_order x157 p0_failed t185 = some (y0, y1)) ?_ ?_
    · skip
      rcases bool_ct (dcd (x157.called < p3)) with hb_ | hb_ <;> revert hb_
      · intro h186
        have h186 := dcd_t (h186)
        have H := ift h186 H
        rcases bool_ct p0_open_ with hb_ | hb_ <;> revert hb_
        · intro h187
          have H := ift h187 H
          refine Cw_region_any [.blk b182 109 (Linear_call.cells x157 v178 v179), .blk bp0 82 [(sv vp0_threads), (.bool p0_open_), .nilFunc, (.map (some bp0_failed)), (sv vp0_order)], .obj bp0_failed (.map esp0_failed ckp0_failed), .row (sv vp0_order) 47 6 rsp0_order.flatten] rfl (Inc.cons (.head _) (Inc.cons (.tail _ (.tail _ (.head _))) (Inc.cons (.tail _ (.tail _ (.tail _ (.head _)))) (Inc.cons (.tail _ (.tail _ (.tail _ (.tail _ (.head _))))) Inc.nil)))) ?_
          refine Aw_q 0 rfl (by kernel_rfl) (by kernel_rfl) (by kernel_rfl) rfl rfl rfl (Qt_loadA (m := 14) (cs := (Linear_call.cells x157 v178 v179)) rfl rfl rfl rfl ⟨rfl, Rdc.blk (.head _) rfl⟩) ?_
          refine Aw_q 1 rfl (by kernel_rfl) (by kernel_rfl) (by kernel_rfl) rfl rfl rfl (Qt_fieldAddr (m := 12) rfl rfl rfl rfl rfl) ?_
          refine Aw_q 2 rfl (by kernel_rfl) (by kernel_rfl) (by kernel_rfl) rfl rfl rfl (Qt_load1 (v := (.int .i64 x157.called)) rfl rfl rfl (Rdc.blk (.head _) rfl)) ?_
          refine Aw_q 3 rfl (by kernel_rfl) (by kernel_rfl) (by kernel_rfl) rfl rfl rfl (Qt_move rfl) ?_
          refine Aw_q 4 rfl (by kernel_rfl) (by kernel_rfl) (by kernel_rfl) rfl rfl rfl (Qt_cmp rfl rfl rfl) ?_
          refine Aw_q 5 rfl (by kernel_rfl) (by kernel_rfl) (by kernel_rfl) rfl rfl rfl (Qt_move rfl) ?_
          refine Aw.known (d := 43) rfl (dcd_pos h186) ?_
          refine Aw_qw 6 rfl (by kernel_rfl) (by kernel_rfl) (by kernel_rfl) rfl rfl rfl rfl rfl rfl (Qt_move rfl) ?_
          refine Aw_qw 7 rfl (by kernel_rfl) (by kernel_rfl) (by kernel_rfl) rfl rfl rfl rfl rfl rfl (Qt_nilCheck rfl) ?_
          refine Aw_qw 8 rfl (by kernel_rfl) (by kernel_rfl) (by kernel_rfl) rfl rfl rfl rfl rfl rfl (Qt_fieldAddr (m := 1) rfl rfl rfl rfl rfl) ?_
          refine Aw_qw 9 rfl (by kernel_rfl) (by kernel_rfl) (by kernel_rfl) rfl rfl rfl rfl rfl rfl (Qt_load1 (v := (.bool p0_open_)) rfl rfl rfl (Rdc.blk (.tail _ (.head _)) rfl)) ?_
          refine Aw_qw 10 rfl (by kernel_rfl) (by kernel_rfl) (by kernel_rfl) rfl rfl rfl rfl rfl rfl (Qt_move rfl) ?_
          refine Aw.known (d := 48) rfl (h187) ?_
          refine Aw_pass 11 rfl (by kernel_rfl) (by kernel_rfl) (by kernel_rfl) rfl rfl rfl rfl rfl rfl rfl ?_
          refine Aw_pass 12 rfl (by kernel_rfl) (by kernel_rfl) (by kernel_rfl) rfl rfl rfl rfl rfl rfl rfl ?_
          refine Aw_pass 13 rfl (by kernel_rfl) (by kernel_rfl) (by kernel_rfl) rfl rfl rfl rfl rfl rfl rfl ?_
          refine Aw_qw 14 rfl (by kernel_rfl) (by kernel_rfl) (by kernel_rfl) rfl rfl rfl rfl rfl rfl (Qt_pick_t rfl rfl) ?_
          refine Aw_q 15 rfl (by kernel_rfl) (by kernel_rfl) (by kernel_rfl) rfl rfl rfl (Qt_pick_t rfl rfl) ?_
          refine Aw_one 16 (by kernel_rfl) (Ax_mk rfl rfl ?_)
          refine OpW_store (vs := (Linear_call.cells x157 v178 v179)) (all' := (Linear_call.cells x157 v178 v179)) rfl rfl rfl rfl rfl (.there .here) rfl rfl rfl ⟨(Inc.cons (.head _) (Inc.cons (.tail _ (.tail _ (.head _))) (Inc.cons (.tail _ (.tail _ (.tail _ (.head _)))) (Inc.cons (.tail _ (.tail _ (.tail _ (.tail _ (.head _))))) Inc.nil)))), ?_⟩
          refine Aw_q 17 rfl (by kernel_rfl) (by kernel_rfl) (by kernel_rfl) rfl rfl rfl (Qt_assign rfl) ?_
          refine Aw_done (by kernel_rfl) ?_
          refine Shift.pull (.there (.there (.there (.there .here)))) ?_
          refine Shift.pull (.there (.there (.there (.there .here)))) ?_
          refine Shift.pull (.there (.there (.there .here))) ?_
          refine Shift.pull (.there (.there (.there (.there .here)))) ?_
          refine Shift.rem (.there (.there (.there (.there .here)))) ?_
          refine Shift.done ?_
          exact ⟨[(8, (.pointer (some ((⟨b64, 0, none⟩ : Addr).add 0)))), (9, (.bool true))], ⟨rfl, rfl, trivial⟩, true, rfl, rfl, rfl, H⟩
        · intro h187
          have H := iff_ (btf h187) H
          refine Cw_region_any [.blk b182 109 (Linear_call.cells x157 v178 v179), .blk bp0 82 [(sv vp0_threads), (.bool p0_open_), .nilFunc, (.map (some bp0_failed)), (sv vp0_order)], .obj bp0_failed (.map esp0_failed ckp0_failed), .row (sv vp0_order) 47 6 rsp0_order.flatten] rfl (Inc.cons (.head _) (Inc.cons (.tail _ (.tail _ (.head _))) (Inc.cons (.tail _ (.tail _ (.tail _ (.head _)))) (Inc.cons (.tail _ (.tail _ (.tail _ (.tail _ (.head _))))) Inc.nil)))) ?_
          refine Aw_q 0 rfl (by kernel_rfl) (by kernel_rfl) (by kernel_rfl) rfl rfl rfl (Qt_loadA (m := 14) (cs := (Linear_call.cells x157 v178 v179)) rfl rfl rfl rfl ⟨rfl, Rdc.blk (.head _) rfl⟩) ?_
          refine Aw_q 1 rfl (by kernel_rfl) (by kernel_rfl) (by kernel_rfl) rfl rfl rfl (Qt_fieldAddr (m := 12) rfl rfl rfl rfl rfl) ?_
          refine Aw_q 2 rfl (by kernel_rfl) (by kernel_rfl) (by kernel_rfl) rfl rfl rfl (Qt_load1 (v := (.int .i64 x157.called)) rfl rfl rfl (Rdc.blk (.head _) rfl)) ?_
          refine Aw_q 3 rfl (by kernel_rfl) (by kernel_rfl) (by kernel_rfl) rfl rfl rfl (Qt_move rfl) ?_
          refine Aw_q 4 rfl (by kernel_rfl) (by kernel_rfl) (by kernel_rfl) rfl rfl rfl (Qt_cmp rfl rfl rfl) ?_
          refine Aw_q 5 rfl (by kernel_rfl) (by kernel_rfl) (by kernel_rfl) rfl rfl rfl (Qt_move rfl) ?_
          refine Aw.known (d := 43) rfl (dcd_pos h186) ?_
          refine Aw_qw 6 rfl (by kernel_rfl) (by kernel_rfl) (by kernel_rfl) rfl rfl rfl rfl rfl rfl (Qt_move rfl) ?_
          refine Aw_qw 7 rfl (by kernel_rfl) (by kernel_rfl) (by kernel_rfl) rfl rfl rfl rfl rfl rfl (Qt_nilCheck rfl) ?_
          refine Aw_qw 8 rfl (by kernel_rfl) (by kernel_rfl) (by kernel_rfl) rfl rfl rfl rfl rfl rfl (Qt_fieldAddr (m := 1) rfl rfl rfl rfl rfl) ?_
          refine Aw_qw 9 rfl (by kernel_rfl) (by kernel_rfl) (by kernel_rfl) rfl rfl rfl rfl rfl rfl (Qt_load1 (v := (.bool p0_open_)) rfl rfl rfl (Rdc.blk (.tail _ (.head _)) rfl)) ?_
          refine Aw_qw 10 rfl (by kernel_rfl) (by kernel_rfl) (by kernel_rfl) rfl rfl rfl rfl rfl rfl (Qt_move rfl) ?_
          refine Aw.known (d := 48) rfl (h187) ?_
          refine Aw_qw 11 rfl (by kernel_rfl) (by kernel_rfl) (by kernel_rfl) rfl rfl rfl rfl rfl rfl (Qt_fieldAddr (m := 13) rfl rfl rfl rfl rfl) ?_
          refine Aw_qw 12 rfl (by kernel_rfl) (by kernel_rfl) (by kernel_rfl) rfl rfl rfl rfl rfl rfl (Qt_load1 (v := (.int .i64 x157.coming)) rfl rfl rfl (Rdc.blk (.head _) rfl)) ?_
          refine Aw_qw 13 rfl (by kernel_rfl) (by kernel_rfl) (by kernel_rfl) rfl rfl rfl rfl rfl rfl (Qt_cmp rfl rfl rfl) ?_
          refine Aw_qw 14 rfl (by kernel_rfl) (by kernel_rfl) (by kernel_rfl) rfl rfl rfl rfl rfl rfl (Qt_pick_f rfl rfl) ?_
          refine Aw_q 15 rfl (by kernel_rfl) (by kernel_rfl) (by kernel_rfl) rfl rfl rfl (Qt_pick_t rfl rfl) ?_
          refine Aw_one 16 (by kernel_rfl) (Ax_mk rfl rfl ?_)
          refine OpW_store (vs := (Linear_call.cells x157 v178 v179)) (all' := (Linear_call.cells x157 v178 v179)) rfl rfl rfl rfl rfl (.there .here) rfl rfl rfl ⟨(Inc.cons (.head _) (Inc.cons (.tail _ (.tail _ (.head _))) (Inc.cons (.tail _ (.tail _ (.tail _ (.head _)))) (Inc.cons (.tail _ (.tail _ (.tail _ (.tail _ (.head _))))) Inc.nil)))), ?_⟩
          refine Aw_q 17 rfl (by kernel_rfl) (by kernel_rfl) (by kernel_rfl) rfl rfl rfl (Qt_assign rfl) ?_
          refine Aw_done (by kernel_rfl) ?_
          refine Shift.pull (.there (.there (.there (.there .here)))) ?_
          refine Shift.pull (.there (.there (.there (.there .here)))) ?_
          refine Shift.pull (.there (.there (.there .here))) ?_
          refine Shift.pull (.there (.there (.there (.there .here)))) ?_
          refine Shift.rem (.there (.there (.there (.there .here)))) ?_
          refine Shift.done ?_
          exact ⟨[(8, (.pointer (some ((⟨b64, 0, none⟩ : Addr).add 0)))), (9, (.bool (dcd (x157.coming ≥ 0))))], ⟨rfl, rfl, trivial⟩, (dcd (x157.coming ≥ 0)), rfl, rfl, rfl, H⟩
      · intro h186
        have h186 := dcd_f (h186)
        have H := iff_ h186 H
        refine Cw_region_any [.blk b182 109 (Linear_call.cells x157 v178 v179), .blk bp0 82 [(sv vp0_threads), (.bool p0_open_), .nilFunc, (.map (some bp0_failed)), (sv vp0_order)], .obj bp0_failed (.map esp0_failed ckp0_failed), .row (sv vp0_order) 47 6 rsp0_order.flatten] rfl (Inc.cons (.head _) (Inc.cons (.tail _ (.tail _ (.head _))) (Inc.cons (.tail _ (.tail _ (.tail _ (.head _)))) (Inc.cons (.tail _ (.tail _ (.tail _ (.tail _ (.head _))))) Inc.nil)))) ?_
        refine Aw_q 0 rfl (by kernel_rfl) (by kernel_rfl) (by kernel_rfl) rfl rfl rfl (Qt_loadA (m := 14) (cs := (Linear_call.cells x157 v178 v179)) rfl rfl rfl rfl ⟨rfl, Rdc.blk (.head _) rfl⟩) ?_
        refine Aw_q 1 rfl (by kernel_rfl) (by kernel_rfl) (by kernel_rfl) rfl rfl rfl (Qt_fieldAddr (m := 12) rfl rfl rfl rfl rfl) ?_
        refine Aw_q 2 rfl (by kernel_rfl) (by kernel_rfl) (by kernel_rfl) rfl rfl rfl (Qt_load1 (v := (.int .i64 x157.called)) rfl rfl rfl (Rdc.blk (.head _) rfl)) ?_
        refine Aw_q 3 rfl (by kernel_rfl) (by kernel_rfl) (by kernel_rfl) rfl rfl rfl (Qt_move rfl) ?_
        refine Aw_q 4 rfl (by kernel_rfl) (by kernel_rfl) (by kernel_rfl) rfl rfl rfl (Qt_cmp rfl rfl rfl) ?_
        refine Aw_q 5 rfl (by kernel_rfl) (by kernel_rfl) (by kernel_rfl) rfl rfl rfl (Qt_move rfl) ?_
        refine Aw.known (d := 43) rfl (dcd_neg h186) ?_
        refine Aw_pass 6 rfl (by kernel_rfl) (by kernel_rfl) (by kernel_rfl) rfl rfl rfl rfl rfl rfl rfl ?_
        refine Aw_pass 7 rfl (by kernel_rfl) (by kernel_rfl) (by kernel_rfl) rfl rfl rfl rfl rfl rfl rfl ?_
        refine Aw_pass 8 rfl (by kernel_rfl) (by kernel_rfl) (by kernel_rfl) rfl rfl rfl rfl rfl rfl rfl ?_
        refine Aw_pass 9 rfl (by kernel_rfl) (by kernel_rfl) (by kernel_rfl) rfl rfl rfl rfl rfl rfl rfl ?_
        refine Aw_pass 10 rfl (by kernel_rfl) (by kernel_rfl) (by kernel_rfl) rfl rfl rfl rfl rfl rfl rfl ?_
        refine Aw_passU 11 rfl (by kernel_rfl) (by kernel_rfl) (by kernel_rfl) rfl rfl rfl rfl rfl ?_
        refine Aw_passU 12 rfl (by kernel_rfl) (by kernel_rfl) (by kernel_rfl) rfl rfl rfl rfl rfl ?_
        refine Aw_passU 13 rfl (by kernel_rfl) (by kernel_rfl) (by kernel_rfl) rfl rfl rfl rfl rfl ?_
        refine Aw_pass 14 rfl (by kernel_rfl) (by kernel_rfl) (by kernel_rfl) rfl rfl rfl rfl rfl rfl rfl ?_
        refine Aw_q 15 rfl (by kernel_rfl) (by kernel_rfl) (by kernel_rfl) rfl rfl rfl (Qt_pick_f rfl rfl) ?_
        refine Aw_one 16 (by kernel_rfl) (Ax_mk rfl rfl ?_)
        refine OpW_store (vs := (Linear_call.cells x157 v178 v179)) (all' := (Linear_call.cells x157 v178 v179)) rfl rfl rfl rfl rfl (.there .here) rfl rfl rfl ⟨(Inc.cons (.head _) (Inc.cons (.tail _ (.tail _ (.head _))) (Inc.cons (.tail _ (.tail _ (.tail _ (.head _)))) (Inc.cons (.tail _ (.tail _ (.tail _ (.tail _ (.head _))))) Inc.nil)))), ?_⟩
        refine Aw_q 17 rfl (by kernel_rfl) (by kernel_rfl) (by kernel_rfl) rfl rfl rfl (Qt_assign rfl) ?_
        refine Aw_done (by kernel_rfl) ?_
        refine Shift.pull (.there (.there (.there (.there .here)))) ?_
        refine Shift.pull (.there (.there (.there (.there .here)))) ?_
        refine Shift.pull (.there (.there (.there .here))) ?_
        refine Shift.pull (.there (.there (.there (.there .here)))) ?_
        refine Shift.rem (.there (.there (.there (.there .here)))) ?_
        refine Shift.done ?_
        exact ⟨[(8, (.pointer (some ((⟨b64, 0, none⟩ : Addr).add 0)))), (9, (.bool false))], ⟨rfl, rfl, trivial⟩, false, rfl, rfl, rfl, H⟩
    rintro _ _ _ - ⟨t185, rfl, rfl, rfl, H⟩
    unfold M_linear_search_candidate_J1 at H
    refine Cw_ret ?_
    obtain ⟨ey0, ey1⟩ := inj2 H
    subst y0 y1
    refine ⟨(by first | exact .inl rfl | exact .inr rfl), [(.agg (Linear_call.cells x157 v178 v179).toArray), (.bool t185)], ⟨(.agg (Linear_call.cells x157 v178 v179).toArray), _, rfl, ⟨_, 14, (Linear_call.cells x157 v178 v179), rfl, rfl, rfl, rfl, ⟨rfl, Rdc.blk (.tail _ (.head _)) rfl⟩, rfl⟩, ⟨(.bool t185), _, rfl, rfl, rfl⟩⟩, ?_⟩
    refine Shift.pull (.there (.there (.there .here))) ?_
    refine Shift.pull (.there (.there (.there .here))) ?_
    refine Shift.pull (.there (.there .here)) ?_
    refine Shift.rem (.there (.there (.there .here))) ?_
    refine Shift.done ?_
    exact ⟨v178, v179, rfl, rfl, rfl, hs180, hs181⟩



end Go.Hx

namespace Go.Hx
open Go Go.Proofs
set_option linter.unusedSimpArgs false
set_option linter.unusedVariables false
set_option maxRecDepth 10000
set_option maxHeartbeats 1000000 in
theorem c_M_cases_Single (p0 : Op) (vp0_cases : SV) (vp0_draws : SV) (y0 : Case) (y1 : Bool) (H : M_cases_Single p0 = some (y0, y1)) (K : Kp) (G : List Ent) (hp0_cases : Slr TyCase K (sv vp0_cases) p0.cases) (hp0_draws : Slr Ty.i64 K (sv vp0_draws) p0.draws) :
    Fc Tryd.prog 70 #[(.agg (Op.cells p0 vp0_cases vp0_draws).toArray)] K (G) (fun v K' G' => v = (.tuple #[(.agg (Case.cells y0).toArray), (.bool y1)]) ∧ K = K' ∧ G = G') := by
  refine Fc_body Tryd.func70 rfl Tryd.ntmps70 Tryd.results70 rfl ?_
  unfold M_cases_Single at H
  refine Cw_seq ?_
  refine Cw_region ?_
  refine Ow_cons rfl (OpW_box (cs := (Op.cells p0 vp0_cases vp0_draws)) rfl rfl rfl (fun b13 => ?_))
  refine Ow_cons rfl (OpW_alloc (cs := (Case.cells (Case.mk false 0 0))) rfl rfl rfl rfl (fun b14 => ?_))
  refine Ow_q rfl rfl rfl (Qt_assign rfl) ?_
  refine Ow_nil ?_
  refine Cw_seq ?_
  refine Cw_seq ?_
  refine Cw_region ?_
  refine Ow_q rfl rfl rfl (Qt_fieldAddr (m := 0) rfl rfl rfl rfl rfl) ?_
  refine Ow_q rfl rfl rfl (Qt_load1 (v := (.int .i64 p0.kind)) rfl rfl rfl (Rdc.blk (.tail _ (.head _)) rfl)) ?_
  refine Ow_nil ?_
  refine Cw_block ?_
  refine Cw_join (fun env' K' G' => ∃ (t26 : Bool) (i27 : Int) (i28 : Int) (i29 : Int) (i30 : Int) (i31 : Int) (i32 : Int) (i33 : Int), [(1, (.pointer (some ((⟨b13, 0, none⟩ : Addr).add 0)))), (2, (.pointer (some ((⟨b14, 0, none⟩ : Addr).add 0)))), (6, (.bool t26))] = env' ∧ K = K' ∧ (.blk b14 92 (Case.cells (Case.mk false i27 i28))) :: (.blk b13 43 (Op.cells (Op.mk i29 i30 i31 i32 i33 p0.cases p0.draws) vp0_cases vp0_draws)) :: G = G' ∧ M_cases_Single_J1 p0 t26 i27 i28 i29 i30 i31 i32 i33 = some (y0, y1)) ?_ ?_
  · skip
    refine Cw_seq ?_
    refine Cw_region ?_
    refine Ow_q rfl rfl rfl (Qt_cmp rfl rfl rfl) ?_
    refine Ow_q rfl rfl rfl (Qt_assign rfl) ?_
    refine Ow_nil ?_
    refine Cw_cond rfl ?_ ?_
    · intro h34
      have h34 := dcd_t (h34)
      have H := ift h34 H
      refine Cw_skip ?_
      refine Shift.pull (.there .here) ?_
      refine Shift.pull (.there .here) ?_
      refine Shift.done ?_
      exact ⟨[(1, (.pointer (some ((⟨b13, 0, none⟩ : Addr).add 0)))), (2, (.pointer (some ((⟨b14, 0, none⟩ : Addr).add 0)))), (6, (.bool (dcd (p0.kind = 1))))], ⟨rfl, rfl, rfl, trivial⟩, (dcd (p0.kind = 1)), 0, 0, p0.kind, p0.mode, p0.channel, p0.value, p0.deadline, rfl, rfl, rfl, H⟩
    · intro h34
      have h34 := dcd_f (h34)
      have H := iff_ h34 H
      refine Cw_region ?_
      refine Ow_q rfl rfl rfl (Qt_cmp rfl rfl rfl) ?_
      refine Ow_q rfl rfl rfl (Qt_assign rfl) ?_
      refine Ow_nil ?_
      refine Shift.pull (.there .here) ?_
      refine Shift.pull (.there .here) ?_
      refine Shift.done ?_
      exact ⟨[(1, (.pointer (some ((⟨b13, 0, none⟩ : Addr).add 0)))), (2, (.pointer (some ((⟨b14, 0, none⟩ : Addr).add 0)))), (6, (.bool (dcd (p0.kind = 2))))], ⟨rfl, rfl, rfl, trivial⟩, (dcd (p0.kind = 2)), 0, 0, p0.kind, p0.mode, p0.channel, p0.value, p0.deadline, rfl, rfl, rfl, H⟩
  rintro _ _ _ - ⟨t26, i27, i28, i29, i30, i31, i32, i33, rfl, rfl, rfl, H⟩
  unfold M_cases_Single_J1 at H
  refine Cw_cond rfl ?_ ?_
  · intro h35
    have H := ift h35 H
    refine Cw_seq ?_
    refine Cw_region ?_
    refine Ow_q rfl rfl rfl (Qt_fieldAddr (m := 0) rfl rfl rfl rfl rfl) ?_
    refine Ow_q rfl rfl rfl (Qt_load1 (v := (.int .i64 i29)) rfl rfl rfl (Rdc.blk (.tail _ (.head _)) rfl)) ?_
    refine Ow_q rfl rfl rfl (Qt_cmp rfl rfl rfl) ?_
    refine Ow_q rfl rfl rfl (Qt_fieldAddr (m := 2) rfl rfl rfl rfl rfl) ?_
    refine Ow_q rfl rfl rfl (Qt_load1 (v := (.int .i64 i31)) rfl rfl rfl (Rdc.blk (.tail _ (.head _)) rfl)) ?_
    refine Ow_q rfl rfl rfl (Qt_fieldAddr (m := 3) rfl rfl rfl rfl rfl) ?_
    refine Ow_q rfl rfl rfl (Qt_load1 (v := (.int .u64 i32)) rfl rfl rfl (Rdc.blk (.tail _ (.head _)) rfl)) ?_
    refine Ow_q rfl rfl rfl (Qt_build (cs := (Case.cells (Case.mk (dcd (i29 = 1)) i31 i32))) rfl rfl rfl rfl rfl rfl) ?_
    refine Ow_cons rfl (OpW_store (vs := (Case.cells (Case.mk (dcd (i29 = 1)) i31 i32))) (all' := (Case.cells (Case.mk (dcd (i29 = 1)) i31 i32))) rfl rfl rfl rfl rfl .here rfl rfl rfl ?_)
    refine Ow_q rfl rfl rfl (Qt_assign rfl) ?_
    refine Ow_nil ?_
    refine Cw_ret ?_
    obtain ⟨ey0, ey1⟩ := inj2 H
    subst y0 y1
    refine ⟨(by first | exact .inl rfl | exact .inr rfl), [(.agg (Case.cells (Case.mk (dcd (i29 = 1)) i31 i32)).toArray), (.bool true)], ⟨(.agg (Case.cells (Case.mk (dcd (i29 = 1)) i31 i32)).toArray), _, rfl, ⟨_, 3, (Case.cells (Case.mk (dcd (i29 = 1)) i31 i32)), rfl, rfl, rfl, rfl, ⟨rfl, Rdc.blk (.head _) rfl⟩, rfl⟩, ⟨(.bool true), _, rfl, rfl, rfl⟩⟩, ?_⟩
    refine Shift.rem .here ?_
    refine Shift.rem .here ?_
    refine Shift.done ?_
    exact ⟨rfl, rfl, rfl⟩
  · intro h35
    have H := iff_ (btf h35) H
    refine Cw_skip ?_
    refine Cw_seq ?_
    refine Cw_region ?_
    refine Ow_q rfl rfl rfl (Qt_build (cs := (Case.cells (Case.mk false 0 0))) rfl rfl rfl rfl rfl rfl) ?_
    refine Ow_cons rfl (OpW_store (vs := (Case.cells (Case.mk false 0 0))) (all' := (Case.cells (Case.mk false 0 0))) rfl rfl rfl rfl rfl .here rfl rfl rfl ?_)
    refine Ow_q rfl rfl rfl (Qt_assign rfl) ?_
    refine Ow_nil ?_
    refine Cw_ret ?_
    obtain ⟨ey0, ey1⟩ := inj2 H
    subst y0 y1
    refine ⟨(by first | exact .inl rfl | exact .inr rfl), [(.agg (Case.cells (Case.mk false 0 0)).toArray), (.bool false)], ⟨(.agg (Case.cells (Case.mk false 0 0)).toArray), _, rfl, ⟨_, 3, (Case.cells (Case.mk false 0 0)), rfl, rfl, rfl, rfl, ⟨rfl, Rdc.blk (.head _) rfl⟩, rfl⟩, ⟨(.bool false), _, rfl, rfl, rfl⟩⟩, ?_⟩
    refine Shift.rem .here ?_
    refine Shift.rem .here ?_
    refine Shift.done ?_
    exact ⟨rfl, rfl, rfl⟩



end Go.Hx

namespace Go.Hx
open Go Go.Proofs
set_option linter.unusedSimpArgs false
set_option linter.unusedVariables false
set_option maxRecDepth 10000
set_option maxHeartbeats 1000000 in
theorem c_M_model_part (p0 : Op) (vp0_cases : SV) (vp0_draws : SV) (p1 : Int) (y0 : Case) (y1 : Bool) (H : M_model_part p0 p1 = some (y0, y1)) (K : Kp) (G : List Ent) (hp0_cases : Slr TyCase K (sv vp0_cases) p0.cases) (hp0_draws : Slr Ty.i64 K (sv vp0_draws) p0.draws) :
    Fc Tryd.prog 37 #[(.agg (Op.cells p0 vp0_cases vp0_draws).toArray), (.int .i64 p1)] K (G) (fun v K' G' => v = (.tuple #[(.agg (Case.cells y0).toArray), (.bool y1)]) ∧ K = K' ∧ G = G') := by
  refine Fc_body Tryd.func37 rfl Tryd.ntmps37 Tryd.results37 rfl ?_
  unfold M_model_part at H
  refine Cw_seq ?_
  refine Cw_region ?_
  refine Ow_cons rfl (OpW_box (cs := (Op.cells p0 vp0_cases vp0_draws)) rfl rfl rfl (fun b25 => ?_))
  refine Ow_cons rfl (OpW_alloc (cs := (Case.cells (Case.mk false 0 0))) rfl rfl rfl rfl (fun b26 => ?_))
  refine Ow_q rfl rfl rfl (Qt_assign rfl) ?_
  refine Ow_nil ?_
  refine Cw_seq ?_
  refine Cw_seq ?_
  refine Cw_region ?_
  refine Ow_q rfl rfl rfl (Qt_loadA (m := 7) (cs := (Op.cells p0 vp0_cases vp0_draws)) rfl rfl rfl rfl ⟨rfl, Rdc.blk (.tail _ (.head _)) rfl⟩) ?_
  obtain ⟨x32, x33, hx34, H⟩ := bnd2 H
  refine Ow_cons rfl (OpW_call rfl Tryd.call70 rfl rfl (c_M_cases_Single p0 vp0_cases vp0_draws x32 x33 hx34 _ _ hp0_cases hp0_draws) ?_)
  rintro _ _ _ - ⟨rfl, rfl, rfl⟩
  refine Ow_q rfl rfl rfl (Qt_move rfl) ?_
  refine Ow_q rfl rfl rfl (Qt_extract rfl rfl) ?_
  refine Ow_q rfl rfl rfl (Qt_extract rfl rfl) ?_
  refine Ow_cons rfl (OpW_alloc (cs := (Case.cells (Case.mk false 0 0))) rfl rfl rfl rfl (fun b35 => ?_))
  refine Ow_cons rfl (OpW_store (vs := (Case.cells x32)) (all' := (Case.cells x32)) rfl rfl rfl rfl rfl .here rfl rfl rfl ?_)
  refine Ow_q rfl rfl rfl (Qt_assign rfl) ?_
  refine Ow_nil ?_
  refine Cw_seq ?_
  refine Cw_region ?_
  refine Ow_q rfl rfl rfl (Qt_move rfl) ?_
  refine Ow_nil ?_
  refine Cw_cond rfl ?_ ?_
  · intro h36
    have H := ift h36 H
    refine Cw_seq ?_
    refine Cw_region ?_
    refine Ow_q rfl rfl rfl (Qt_loadA (m := 3) (cs := (Case.cells x32)) rfl rfl rfl rfl ⟨rfl, Rdc.blk (.head _) rfl⟩) ?_
    refine Ow_q rfl rfl rfl (Qt_move rfl) ?_
    refine Ow_q rfl rfl rfl (Qt_cmp rfl rfl rfl) ?_
    refine Ow_cons rfl (OpW_store (vs := (Case.cells x32)) (all' := (Case.cells x32)) rfl rfl rfl rfl rfl (.there .here) rfl rfl rfl ?_)
    refine Ow_q rfl rfl rfl (Qt_assign rfl) ?_
    refine Ow_nil ?_
    refine Cw_ret ?_
    obtain ⟨ey0, ey1⟩ := inj2 H
    subst y0 y1
    refine ⟨(by first | exact .inl rfl | exact .inr rfl), [(.agg (Case.cells x32).toArray), (.bool (dcd (p1 = (-1))))], ⟨(.agg (Case.cells x32).toArray), _, rfl, ⟨_, 3, (Case.cells x32), rfl, rfl, rfl, rfl, ⟨rfl, Rdc.blk (.tail _ (.head _)) rfl⟩, rfl⟩, ⟨(.bool (dcd (p1 = (-1)))), _, rfl, rfl, rfl⟩⟩, ?_⟩
    refine Shift.rem .here ?_
    refine Shift.rem .here ?_
    refine Shift.rem .here ?_
    refine Shift.done ?_
    exact ⟨rfl, rfl, rfl⟩
  · intro h36
    have H := iff_ (btf h36) H
    refine Cw_skip ?_
    refine Cw_seq ?_
    refine Cw_join (fun env' K' G' => ∃ (i51 : Int) (t52 : Bool) (i53 : Int) (i54 : Int) (i55 : Int) (i56 : Int) (i57 : Int) (i58 : Int) (i59 : Int), [(1, (.int .i64 i51)), (2, (.pointer (some ((⟨b25, 0, none⟩ : Addr).add 0)))), (4, (.pointer (some ((⟨b26, 0, none⟩ : Addr).add 0)))), (30, (.bool t52))] = env' ∧ K = K' ∧ (.blk b26 92 (Case.cells (Case.mk false i53 i54))) :: (.blk b25 43 (Op.cells (Op.mk i55 i56 i57 i58 i59 p0.cases p0.draws) vp0_cases vp0_draws)) :: G = G' ∧ M_model_part_J1 p0 i51 t52 i53 i54 i55 i56 i57 i58 i59 = some (y0, y1)) ?_ ?_
    · skip
      refine Cw_region ?_
      refine Ow_q rfl rfl rfl (Qt_fieldAddr (m := 0) rfl rfl rfl rfl rfl) ?_
      refine Ow_q rfl rfl rfl (Qt_load1 (v := (.int .i64 p0.kind)) rfl rfl rfl (Rdc.blk (.tail _ (.tail _ (.head _))) rfl)) ?_
      refine Ow_q rfl rfl rfl (Qt_cmp rfl rfl rfl) ?_
      refine Ow_q rfl rfl rfl (Qt_move rfl) ?_
      refine Ow_caseG rfl rfl rfl ?_ ?_
      · intro h60
        have h60 := dcd_f (nt_t (h60))
        have H := iff_ h60 H
        refine Ow_pass rfl rfl rfl rfl rfl rfl rfl ?_
        refine Ow_pass rfl rfl rfl rfl rfl rfl rfl ?_
        refine Ow_q rfl rfl rfl (Qt_pick_t rfl rfl) ?_
        refine Ow_q rfl rfl rfl (Qt_move rfl) ?_
        refine Ow_pass rfl rfl rfl rfl rfl rfl rfl ?_
        refine Ow_pass rfl rfl rfl rfl rfl rfl rfl ?_
        refine Ow_pass rfl rfl rfl rfl rfl rfl rfl ?_
        refine Ow_pass rfl rfl rfl rfl rfl rfl rfl ?_
        refine Ow_pass rfl rfl rfl rfl rfl rfl rfl ?_
        refine Ow_q rfl rfl rfl (Qt_pick_t rfl rfl) ?_
        refine Ow_nil ?_
        refine Shift.pull (.there (.there .here)) ?_
        refine Shift.pull (.there (.there .here)) ?_
        refine Shift.rem (.there (.there .here)) ?_
        refine Shift.done ?_
        exact ⟨[(1, (.int .i64 p1)), (2, (.pointer (some ((⟨b25, 0, none⟩ : Addr).add 0)))), (4, (.pointer (some ((⟨b26, 0, none⟩ : Addr).add 0)))), (30, (.bool true))], ⟨rfl, rfl, rfl, rfl, trivial⟩, p1, true, 0, 0, p0.kind, p0.mode, p0.channel, p0.value, p0.deadline, rfl, rfl, rfl, H⟩
      · intro h60
        have h60 := dcd_t (nt_f (h60))
        have H := ift h60 H
        refine Ow_qw rfl rfl rfl rfl rfl rfl (Qt_move rfl) ?_
        refine Ow_qw rfl rfl rfl rfl rfl rfl (Qt_cmp rfl rfl rfl) ?_
        refine Ow_q rfl rfl rfl (Qt_pick_f rfl rfl) ?_
        refine Ow_q rfl rfl rfl (Qt_move rfl) ?_
        refine Ow_caseG rfl rfl rfl ?_ ?_
        · intro h61
          have h61 := dcd_t (h61)
          have H := ift h61 H
          refine Ow_pass rfl rfl rfl rfl rfl rfl rfl ?_
          refine Ow_pass rfl rfl rfl rfl rfl rfl rfl ?_
          refine Ow_pass rfl rfl rfl rfl rfl rfl rfl ?_
          refine Ow_pass rfl rfl rfl rfl rfl rfl rfl ?_
          refine Ow_pass rfl rfl rfl rfl rfl rfl rfl ?_
          refine Ow_q rfl rfl rfl (Qt_pick_t rfl rfl) ?_
          refine Ow_nil ?_
          refine Shift.pull (.there (.there .here)) ?_
          refine Shift.pull (.there (.there .here)) ?_
          refine Shift.rem (.there (.there .here)) ?_
          refine Shift.done ?_
          exact ⟨[(1, (.int .i64 p1)), (2, (.pointer (some ((⟨b25, 0, none⟩ : Addr).add 0)))), (4, (.pointer (some ((⟨b26, 0, none⟩ : Addr).add 0)))), (30, (.bool true))], ⟨rfl, rfl, rfl, rfl, trivial⟩, p1, true, 0, 0, p0.kind, p0.mode, p0.channel, p0.value, p0.deadline, rfl, rfl, rfl, H⟩
        · intro h61
          have h61 := dcd_f (h61)
          have H := iff_ h61 H
          refine Ow_qw rfl rfl rfl rfl rfl rfl (Qt_move rfl) ?_
          refine Ow_qw rfl rfl rfl rfl rfl rfl (Qt_fieldAddr (m := 5) rfl rfl rfl rfl rfl) ?_
          refine Ow_qw rfl rfl rfl rfl rfl rfl (Qt_load1 (v := (sv vp0_cases)) rfl rfl rfl (Rdc.blk (.tail _ (.tail _ (.head _))) rfl)) ?_
          refine Ow_qw rfl rfl rfl rfl rfl rfl (Q_len (T := TyCase) hp0_cases rfl rfl) ?_
          refine Ow_qw rfl rfl rfl rfl rfl rfl (Qt_cmp rfl rfl rfl) ?_
          refine Ow_q rfl rfl rfl (Qt_pick_f rfl rfl) ?_
          refine Ow_nil ?_
          refine Shift.pull (.there (.there .here)) ?_
          refine Shift.pull (.there (.there .here)) ?_
          refine Shift.rem (.there (.there .here)) ?_
          refine Shift.done ?_
          exact ⟨[(1, (.int .i64 p1)), (2, (.pointer (some ((⟨b25, 0, none⟩ : Addr).add 0)))), (4, (.pointer (some ((⟨b26, 0, none⟩ : Addr).add 0)))), (30, (.bool (dcd (p1 ≥ (p0.cases.length : Int)))))], ⟨rfl, rfl, rfl, rfl, trivial⟩, p1, (dcd (p1 ≥ (p0.cases.length : Int))), 0, 0, p0.kind, p0.mode, p0.channel, p0.value, p0.deadline, rfl, rfl, rfl, H⟩
    rintro _ _ _ - ⟨i51, t52, i53, i54, i55, i56, i57, i58, i59, rfl, rfl, rfl, H⟩
    unfold M_model_part_J1 at H
    refine Cw_cond rfl ?_ ?_
    · intro h62
      have H := ift h62 H
      refine Cw_seq ?_
      refine Cw_region ?_
      refine Ow_q rfl rfl rfl (Qt_build (cs := (Case.cells (Case.mk false 0 0))) rfl rfl rfl rfl rfl rfl) ?_
      refine Ow_cons rfl (OpW_store (vs := (Case.cells (Case.mk false 0 0))) (all' := (Case.cells (Case.mk false 0 0))) rfl rfl rfl rfl rfl .here rfl rfl rfl ?_)
      refine Ow_q rfl rfl rfl (Qt_assign rfl) ?_
      refine Ow_nil ?_
      refine Cw_ret ?_
      obtain ⟨ey0, ey1⟩ := inj2 H
      subst y0 y1
      refine ⟨(by first | exact .inl rfl | exact .inr rfl), [(.agg (Case.cells (Case.mk false 0 0)).toArray), (.bool false)], ⟨(.agg (Case.cells (Case.mk false 0 0)).toArray), _, rfl, ⟨_, 3, (Case.cells (Case.mk false 0 0)), rfl, rfl, rfl, rfl, ⟨rfl, Rdc.blk (.head _) rfl⟩, rfl⟩, ⟨(.bool false), _, rfl, rfl, rfl⟩⟩, ?_⟩
      refine Shift.rem .here ?_
      refine Shift.rem .here ?_
      refine Shift.done ?_
      exact ⟨rfl, rfl, rfl⟩
    · intro h62
      have H := iff_ (btf h62) H
      refine Cw_skip ?_
      refine Cw_seq ?_
      refine Cw_region ?_
      refine Ow_q rfl rfl rfl (Qt_fieldAddr (m := 5) rfl rfl rfl rfl rfl) ?_
      refine Ow_q rfl rfl rfl (Qt_load1 (v := (sv vp0_cases)) rfl rfl rfl (Rdc.blk (.tail _ (.head _)) rfl)) ?_
      refine Ow_q rfl rfl rfl (Qt_move rfl) ?_
      obtain ⟨x63, hx64, H⟩ := bnd H
      obtain ⟨r65, hr66, hk67⟩ := Slr.at hp0_cases hx64
      obtain rfl := hr66
      refine Ow_q rfl rfl rfl (Q_ix (T := TyCase) hp0_cases hx64 rfl rfl rfl rfl rfl) ?_
      refine Ow_q rfl rfl rfl (Qt_loadA (m := 3) (cs := (Case.cells x63)) rfl rfl rfl rfl ⟨rfl, Rdc.k hk67 rfl⟩) ?_
      refine Ow_cons rfl (OpW_store (vs := (Case.cells x63)) (all' := (Case.cells x63)) rfl rfl rfl rfl rfl .here rfl rfl rfl ?_)
      refine Ow_q rfl rfl rfl (Qt_assign rfl) ?_
      refine Ow_nil ?_
      refine Cw_ret ?_
      obtain ⟨ey0, ey1⟩ := inj2 H
      subst y0 y1
      refine ⟨(by first | exact .inl rfl | exact .inr rfl), [(.agg (Case.cells x63).toArray), (.bool true)], ⟨(.agg (Case.cells x63).toArray), _, rfl, ⟨_, 3, (Case.cells x63), rfl, rfl, rfl, rfl, ⟨rfl, Rdc.blk (.head _) rfl⟩, rfl⟩, ⟨(.bool true), _, rfl, rfl, rfl⟩⟩, ?_⟩
      refine Shift.rem .here ?_
      refine Shift.rem .here ?_
      refine Shift.done ?_
      exact ⟨rfl, rfl, rfl⟩

set_option maxHeartbeats 1000000 in
theorem c_M_model_find (p0 : List Chan) (vp0 : SV) (p1 : Int) (y0 : Chan) (y1 : Bool) (H : M_model_find p0 p1 = some (y0, y1)) (K : Kp) (G : List Ent) (hp0 : Slr TyChan K (sv vp0) p0) :
    Fc Tryd.prog 38 #[(sv vp0), (.int .i64 p1)] K (G) (fun v K' G' => ∃ (wy0_buffer : SV), v = (.tuple #[(.agg (Chan.cells y0 wy0_buffer).toArray), (.bool y1)]) ∧ K = K' ∧ G = G' ∧ Slr Ty.u64 K' (sv wy0_buffer) y0.buffer) := by
  refine Fc_body Tryd.func38 rfl Tryd.ntmps38 Tryd.results38 rfl ?_
  unfold M_model_find at H
  refine Cw_seq ?_
  refine Cw_region ?_
  refine Ow_cons rfl (OpW_alloc (cs := (Chan.cells (Chan.mk 0 [] false) nilS)) rfl rfl rfl rfl (fun b14 => ?_))
  refine Ow_q rfl rfl rfl (Qt_assign rfl) ?_
  refine Ow_nil ?_
  refine Cw_seq ?_
  refine Cw_join (fun env' K' G' => ∃ (i21 : Int) (t22 : Bool) (i23 : Int), [(0, (sv vp0)), (1, (.int .i64 i21)), (4, (.pointer (some ((⟨b14, 0, none⟩ : Addr).add 0)))), (13, (.bool t22))] = env' ∧ K = K' ∧ (.blk b14 74 (Chan.cells (Chan.mk i23 [] false) nilS)) :: G = G' ∧ M_model_find_J1 p0 i21 t22 i23 = some (y0, y1)) ?_ ?_
  · skip
    refine Cw_region ?_
    refine Ow_q rfl rfl rfl (Qt_move rfl) ?_
    refine Ow_q rfl rfl rfl (Qt_cmp rfl rfl rfl) ?_
    refine Ow_q rfl rfl rfl (Qt_move rfl) ?_
    refine Ow_caseG rfl rfl rfl ?_ ?_
    · intro h24
      have h24 := dcd_t (h24)
      have H := ift h24 H
      refine Ow_pass rfl rfl rfl rfl rfl rfl rfl ?_
      refine Ow_pass rfl rfl rfl rfl rfl rfl rfl ?_
      refine Ow_pass rfl rfl rfl rfl rfl rfl rfl ?_
      refine Ow_pass rfl rfl rfl rfl rfl rfl rfl ?_
      refine Ow_q rfl rfl rfl (Qt_pick_t rfl rfl) ?_
      refine Ow_nil ?_
      refine Shift.done ?_
      exact ⟨[(0, (sv vp0)), (1, (.int .i64 p1)), (4, (.pointer (some ((⟨b14, 0, none⟩ : Addr).add 0)))), (13, (.bool true))], ⟨rfl, rfl, rfl, rfl, trivial⟩, p1, true, 0, rfl, rfl, rfl, H⟩
    · intro h24
      have h24 := dcd_f (h24)
      have H := iff_ h24 H
      refine Ow_qw rfl rfl rfl rfl rfl rfl (Qt_move rfl) ?_
      refine Ow_qw rfl rfl rfl rfl rfl rfl (Qt_move rfl) ?_
      refine Ow_qw rfl rfl rfl rfl rfl rfl (Q_len (T := TyChan) hp0 rfl rfl) ?_
      refine Ow_qw rfl rfl rfl rfl rfl rfl (Qt_cmp rfl rfl rfl) ?_
      refine Ow_q rfl rfl rfl (Qt_pick_f rfl rfl) ?_
      refine Ow_nil ?_
      refine Shift.done ?_
      exact ⟨[(0, (sv vp0)), (1, (.int .i64 p1)), (4, (.pointer (some ((⟨b14, 0, none⟩ : Addr).add 0)))), (13, (.bool (dcd (p1 ≥ (p0.length : Int)))))], ⟨rfl, rfl, rfl, rfl, trivial⟩, p1, (dcd (p1 ≥ (p0.length : Int))), 0, rfl, rfl, rfl, H⟩
  rintro _ _ _ - ⟨i21, t22, i23, rfl, rfl, rfl, H⟩
  unfold M_model_find_J1 at H
  refine Cw_cond rfl ?_ ?_
  · intro h25
    have H := ift h25 H
    refine Cw_seq ?_
    refine Cw_region ?_
    refine Ow_q rfl rfl rfl (Qt_build (cs := (Chan.cells (Chan.mk 0 [] false) nilS)) rfl rfl rfl rfl rfl rfl) ?_
    refine Ow_cons rfl (OpW_store (vs := (Chan.cells (Chan.mk 0 [] false) nilS)) (all' := (Chan.cells (Chan.mk 0 [] false) nilS)) rfl rfl rfl rfl rfl .here rfl rfl rfl ?_)
    refine Ow_q rfl rfl rfl (Qt_assign rfl) ?_
    refine Ow_nil ?_
    refine Cw_ret ?_
    obtain ⟨ey0, ey1⟩ := inj2 H
    subst y0 y1
    refine ⟨(by first | exact .inl rfl | exact .inr rfl), [(.agg (Chan.cells (Chan.mk 0 [] false) nilS).toArray), (.bool false)], ⟨(.agg (Chan.cells (Chan.mk 0 [] false) nilS).toArray), _, rfl, ⟨_, 3, (Chan.cells (Chan.mk 0 [] false) nilS), rfl, rfl, rfl, rfl, ⟨rfl, Rdc.blk (.head _) rfl⟩, rfl⟩, ⟨(.bool false), _, rfl, rfl, rfl⟩⟩, ?_⟩
    refine Shift.rem .here ?_
    refine Shift.done ?_
    exact ⟨nilS, rfl, rfl, rfl, (Slr.nil Ty.u64 _)⟩
  · intro h25
    have H := iff_ (btf h25) H
    refine Cw_skip ?_
    refine Cw_seq ?_
    refine Cw_region ?_
    refine Ow_q rfl rfl rfl (Qt_move rfl) ?_
    refine Ow_q rfl rfl rfl (Qt_move rfl) ?_
    obtain ⟨x26, hx27, H⟩ := bnd H
    obtain ⟨r28, hr29, hk30⟩ := Slr.at hp0 hx27
    obtain ⟨v31, rfl, hs32⟩ := hr29
    refine Ow_q rfl rfl rfl (Q_ix (T := TyChan) hp0 hx27 rfl rfl rfl rfl rfl) ?_
    refine Ow_q rfl rfl rfl (Qt_loadA (m := 3) (cs := (Chan.cells x26 v31)) rfl rfl rfl rfl ⟨rfl, Rdc.k hk30 rfl⟩) ?_
    refine Ow_cons rfl (OpW_store (vs := (Chan.cells x26 v31)) (all' := (Chan.cells x26 v31)) rfl rfl rfl rfl rfl .here rfl rfl rfl ?_)
    refine Ow_q rfl rfl rfl (Qt_assign rfl) ?_
    refine Ow_nil ?_
    refine Cw_ret ?_
    obtain ⟨ey0, ey1⟩ := inj2 H
    subst y0 y1
    refine ⟨(by first | exact .inl rfl | exact .inr rfl), [(.agg (Chan.cells x26 v31).toArray), (.bool true)], ⟨(.agg (Chan.cells x26 v31).toArray), _, rfl, ⟨_, 3, (Chan.cells x26 v31), rfl, rfl, rfl, rfl, ⟨rfl, Rdc.blk (.head _) rfl⟩, rfl⟩, ⟨(.bool true), _, rfl, rfl, rfl⟩⟩, ?_⟩
    refine Shift.rem .here ?_
    refine Shift.done ?_
    exact ⟨v31, rfl, rfl, rfl, hs32⟩

set_option maxHeartbeats 1000000 in
theorem c_M_model_room (p0 : Chan) (vp0_buffer : SV) (y0 : Bool) (H : M_model_room p0 = some y0) (K : Kp) (G : List Ent) (hp0_buffer : Slr Ty.u64 K (sv vp0_buffer) p0.buffer) :
    Fc Tryd.prog 39 #[(.agg (Chan.cells p0 vp0_buffer).toArray)] K (G) (fun v K' G' => v = (.bool y0) ∧ K = K' ∧ G = G') := by
  refine Fc_body Tryd.func39 rfl Tryd.ntmps39 Tryd.results39 rfl ?_
  unfold M_model_room at H
  refine Cw_seq ?_
  refine Cw_region ?_
  refine Ow_cons rfl (OpW_box (cs := (Chan.cells p0 vp0_buffer)) rfl rfl rfl (fun b3 => ?_))
  refine Ow_q rfl rfl rfl (Qt_assign rfl) ?_
  refine Ow_nil ?_
  refine Cw_seq ?_
  refine Cw_region ?_
  refine Ow_q rfl rfl rfl (Qt_fieldAddr (m := 2) rfl rfl rfl rfl rfl) ?_
  refine Ow_q rfl rfl rfl (Qt_load1 (v := (.bool p0.closed)) rfl rfl rfl (Rdc.blk (.head _) rfl)) ?_
  refine Ow_q rfl rfl rfl (Qt_not rfl) ?_
  refine Ow_q rfl rfl rfl (Qt_move rfl) ?_
  refine Ow_caseG rfl rfl rfl ?_ ?_
  · intro h5
    have h5 := nt_t (h5)
    have H := iff_ (btf h5) H
    refine Ow_qw rfl rfl rfl rfl rfl rfl (Qt_fieldAddr (m := 1) rfl rfl rfl rfl rfl) ?_
    refine Ow_qw rfl rfl rfl rfl rfl rfl (Qt_load1 (v := (sv vp0_buffer)) rfl rfl rfl (Rdc.blk (.head _) rfl)) ?_
    refine Ow_qw rfl rfl rfl rfl rfl rfl (Q_len (T := Ty.u64) hp0_buffer rfl rfl) ?_
    refine Ow_qw rfl rfl rfl rfl rfl rfl (Qt_fieldAddr (m := 0) rfl rfl rfl rfl rfl) ?_
    refine Ow_qw rfl rfl rfl rfl rfl rfl (Qt_load1 (v := (.int .i64 p0.capacity)) rfl rfl rfl (Rdc.blk (.head _) rfl)) ?_
    refine Ow_qw rfl rfl rfl rfl rfl rfl (Qt_cmp rfl rfl rfl) ?_
    refine Ow_q rfl rfl rfl (Qt_pick_t rfl rfl) ?_
    refine Ow_q rfl rfl rfl (Qt_assign rfl) ?_
    refine Ow_nil ?_
    refine Cw_ret ?_
    obtain ey0 := inj1 H
    subst y0
    refine ⟨(by first | exact .inl rfl | exact .inr rfl), [(.bool (dcd ((p0.buffer.length : Int) < p0.capacity)))], ⟨(.bool (dcd ((p0.buffer.length : Int) < p0.capacity))), _, rfl, rfl, rfl⟩, ?_⟩
    refine Shift.rem .here ?_
    refine Shift.done ?_
    exact ⟨rfl, rfl, rfl⟩
  · intro h5
    have h5 := nt_f (h5)
    have H := ift h5 H
    refine Ow_pass rfl rfl rfl rfl rfl rfl rfl ?_
    refine Ow_pass rfl rfl rfl rfl rfl rfl rfl ?_
    refine Ow_pass rfl rfl rfl rfl rfl rfl rfl ?_
    refine Ow_pass rfl rfl rfl rfl rfl rfl rfl ?_
    refine Ow_pass rfl rfl rfl rfl rfl rfl rfl ?_
    refine Ow_pass rfl rfl rfl rfl rfl rfl rfl ?_
    refine Ow_q rfl rfl rfl (Qt_pick_f rfl rfl) ?_
    refine Ow_q rfl rfl rfl (Qt_assign rfl) ?_
    refine Ow_nil ?_
    refine Cw_ret ?_
    obtain ey0 := inj1 H
    subst y0
    refine ⟨(by first | exact .inl rfl | exact .inr rfl), [(.bool false)], ⟨(.bool false), _, rfl, rfl, rfl⟩, ?_⟩
    refine Shift.rem .here ?_
    refine Shift.done ?_
    exact ⟨rfl, rfl, rfl⟩



end Go.Hx

namespace Go.Hx
open Go Go.Proofs
set_option linter.unusedSimpArgs false
set_option linter.unusedVariables false
set_option maxRecDepth 10000
set_option maxHeartbeats 1000000 in
theorem c_M_slices_Clone_uint64_uint64 (p0 : List Int) (vp0 : SV) (y0 : List Int) (H : M_slices_Clone_uint64_uint64 p0 = some y0) (K : Kp) (G : List Ent) (hp0 : Slr Ty.u64 K (sv vp0) p0) :
    Fc Tryd.prog 40 #[(sv vp0)] K (G) (fun v K' G' => ∃ (wy0 : SV) (rswy0 : List (List Value)), v = (sv wy0) ∧ K = K' ∧ (.row (sv wy0) 34 1 rswy0.flatten) :: G = G' ∧ RowR Ty.u64 K' rswy0 y0) := by
  refine Fc_body Tryd.func40 rfl Tryd.ntmps40 Tryd.results40 rfl ?_
  unfold M_slices_Clone_uint64_uint64 at H
  refine Cw_seq ?_
  refine Cw_region ?_
  refine Ow_q rfl rfl rfl (Qt_assign rfl) ?_
  refine Ow_nil ?_
  refine Cw_seq ?_
  refine Cw_seq ?_
  refine Cw_region ?_
  refine Ow_q rfl rfl rfl (Qt_move rfl) ?_
  refine Ow_q rfl rfl rfl (Qt_eqNilS rfl rfl rfl) ?_
  refine Ow_nil ?_
  refine Cw_cond rfl ?_ ?_
  · intro h15
    have hl16 := Slr.nil_of hp0 h15
    have H : some [] = some y0 := by rw [hl16] at H; simpa [app] using H
    refine Cw_seq ?_
    refine Cw_region ?_
    refine Ow_q rfl rfl rfl (Qt_assign rfl) ?_
    refine Ow_nil ?_
    refine Cw_ret ?_
    obtain ey0 := inj1 H
    subst y0
    refine ⟨(by first | exact .inl rfl | exact .inr rfl), [(sv nilS)], ⟨(sv nilS), _, rfl, rfl, rfl⟩, ?_⟩
    have hR17 : RowR Ty.u64 K [] [] := RowR.nil
    refine Shift.nilRow 34 1 ?_
    refine Shift.done ?_
    exact ⟨nilS, ([] : List (List Value)), rfl, rfl, rfl, hR17⟩
  · intro h15
    refine Cw_skip ?_
    refine Cw_seq ?_
    refine Cw_region ?_
    have hR19 : RowR Ty.u64 K [] [] := RowR.nil
    refine Ow_cons rfl (O_lit0 (T := Ty.u64) rfl rfl rfl rfl rfl (fun v18 => ?_))
    refine Ow_q rfl rfl rfl (Qt_move rfl) ?_
    obtain ⟨x20, hx21, H⟩ := bnd H
    refine Ow_cons rfl (O_appRow (T := Ty.u64) (bytes := 8) rfl rfl rfl (.head _) hR19 (SrcT.sl hp0) hx21 rfl rfl rfl rfl rfl rfl rfl rfl (fun v22 rs23 hR24 => ⟨_, .here, ?_⟩))
    refine Ow_q rfl rfl rfl (Qt_assign rfl) ?_
    refine Ow_nil ?_
    refine Cw_ret ?_
    obtain ey0 := inj1 H
    subst y0
    refine ⟨(by first | exact .inl rfl | exact .inr rfl), [(sv v22)], ⟨(sv v22), _, rfl, rfl, rfl⟩, ?_⟩
    refine Shift.done ?_
    exact ⟨v22, rs23, rfl, rfl, rfl, hR24⟩

set_option maxHeartbeats 1000000 in
theorem c_M_slices_Clone_api_Chan_api_Chan (p0 : List Chan) (vp0 : SV) (y0 : List Chan) (H : M_slices_Clone_api_Chan_api_Chan p0 = some y0) (K : Kp) (G : List Ent) (hp0 : Slr TyChan K (sv vp0) p0) :
    Fc Tryd.prog 71 #[(sv vp0)] K (G) (fun v K' G' => ∃ (wy0 : SV) (rswy0 : List (List Value)), v = (sv wy0) ∧ K = K' ∧ (.row (sv wy0) 74 3 rswy0.flatten) :: G = G' ∧ RowR TyChan K' rswy0 y0) := by
  refine Fc_body Tryd.func71 rfl Tryd.ntmps71 Tryd.results71 rfl ?_
  unfold M_slices_Clone_api_Chan_api_Chan at H
  refine Cw_seq ?_
  refine Cw_region ?_
  refine Ow_q rfl rfl rfl (Qt_assign rfl) ?_
  refine Ow_nil ?_
  refine Cw_seq ?_
  refine Cw_seq ?_
  refine Cw_region ?_
  refine Ow_q rfl rfl rfl (Qt_move rfl) ?_
  refine Ow_q rfl rfl rfl (Qt_eqNilS rfl rfl rfl) ?_
  refine Ow_nil ?_
  refine Cw_cond rfl ?_ ?_
  · intro h15
    have hl16 := Slr.nil_of hp0 h15
    have H : some [] = some y0 := by rw [hl16] at H; simpa [app] using H
    refine Cw_seq ?_
    refine Cw_region ?_
    refine Ow_q rfl rfl rfl (Qt_assign rfl) ?_
    refine Ow_nil ?_
    refine Cw_ret ?_
    obtain ey0 := inj1 H
    subst y0
    refine ⟨(by first | exact .inl rfl | exact .inr rfl), [(sv nilS)], ⟨(sv nilS), _, rfl, rfl, rfl⟩, ?_⟩
    have hR17 : RowR TyChan K [] [] := RowR.nil
    refine Shift.nilRow 74 3 ?_
    refine Shift.done ?_
    exact ⟨nilS, ([] : List (List Value)), rfl, rfl, rfl, hR17⟩
  · intro h15
    refine Cw_skip ?_
    refine Cw_seq ?_
    refine Cw_region ?_
    have hR19 : RowR TyChan K [] [] := RowR.nil
    refine Ow_cons rfl (O_lit0 (T := TyChan) rfl rfl rfl rfl rfl (fun v18 => ?_))
    refine Ow_q rfl rfl rfl (Qt_move rfl) ?_
    obtain ⟨x20, hx21, H⟩ := bnd H
    refine Ow_cons rfl (O_appRow (T := TyChan) (bytes := 40) rfl rfl rfl (.head _) hR19 (SrcT.sl hp0) hx21 rfl rfl rfl rfl rfl rfl rfl rfl (fun v22 rs23 hR24 => ⟨_, .here, ?_⟩))
    refine Ow_q rfl rfl rfl (Qt_assign rfl) ?_
    refine Ow_nil ?_
    refine Cw_ret ?_
    obtain ey0 := inj1 H
    subst y0
    refine ⟨(by first | exact .inl rfl | exact .inr rfl), [(sv v22)], ⟨(sv v22), _, rfl, rfl, rfl⟩, ?_⟩
    refine Shift.done ?_
    exact ⟨v22, rs23, rfl, rfl, rfl, hR24⟩



end Go.Hx

namespace Go.Hx
open Go Go.Proofs
set_option linter.unusedSimpArgs false
set_option linter.unusedVariables false
set_option maxRecDepth 10000
set_option maxHeartbeats 1000000 in
theorem c_M_model_put (p0 : List Chan) (vp0 : SV) (p1 : Int) (p2 : Chan) (vp2_buffer : SV) (y0 : List Chan) (H : M_model_put p0 p1 p2 = some y0) (K : Kp) (G : List Ent) (hp0 : Slr TyChan K (sv vp0) p0) (hp2_buffer : Slr Ty.u64 K (sv vp2_buffer) p2.buffer) :
    Fc Tryd.prog 41 #[(sv vp0), (.int .i64 p1), (.agg (Chan.cells p2 vp2_buffer).toArray)] K (G) (fun v K' G' => ∃ (wy0 : SV) (rswy0 : List (List Value)), v = (sv wy0) ∧ K = K' ∧ (.row (sv wy0) 74 3 rswy0.flatten) :: G = G' ∧ RowR TyChan K' rswy0 y0) := by
  refine Fc_body Tryd.func41 rfl Tryd.ntmps41 Tryd.results41 rfl ?_
  unfold M_model_put at H
  refine Cw_seq ?_
  refine Cw_region ?_
  refine Ow_cons rfl (OpW_box (cs := (Chan.cells p2 vp2_buffer)) rfl rfl rfl (fun b16 => ?_))
  refine Ow_q rfl rfl rfl (Qt_assign rfl) ?_
  refine Ow_nil ?_
  refine Cw_seq ?_
  refine Cw_region ?_
  refine Ow_q rfl rfl rfl (Qt_move rfl) ?_
  obtain ⟨x17, hx18, H⟩ := bnd H
  refine Ow_cons rfl (OpW_call rfl Tryd.call71 rfl rfl (c_M_slices_Clone_api_Chan_api_Chan p0 vp0 x17 hx18 _ _ hp0) ?_)
  rintro _ _ _ - ⟨v19, rs20, rfl, rfl, rfl, hs21⟩
  refine Ow_q rfl rfl rfl (Qt_assign rfl) ?_
  refine Ow_nil ?_
  refine Cw_seq ?_
  refine Cw_region ?_
  refine Ow_q rfl rfl rfl (Qt_move rfl) ?_
  refine Ow_q rfl rfl rfl (Qt_move rfl) ?_
  refine Ow_q rfl rfl rfl (Qt_loadA (m := 3) (cs := (Chan.cells p2 vp2_buffer)) rfl rfl rfl rfl ⟨rfl, Rdc.blk (.tail _ (.head _)) rfl⟩) ?_
  obtain ⟨x22, hx23, H⟩ := bnd H
  obtain ⟨r24, hq25, hr26⟩ := RowR.at hs21 hx23
  obtain ⟨v27, rfl, hs28⟩ := hr26
  refine Ow_q rfl rfl rfl (Q_ixR (T := TyChan) (.head _) hs21 hq25 (getI_ix hx23).1 rfl rfl rfl rfl rfl) ?_
  refine Ow_cons rfl (O_storeR (T := TyChan) (vs := (Chan.cells p2 vp2_buffer)) (r' := (Chan.cells p2 vp2_buffer)) (l' := (setI x17 p1 p2)) rfl rfl rfl rfl rfl .here hs21 hq25 rfl rfl rfl (RowR.set p1 hs21 ⟨vp2_buffer, rfl, hp2_buffer⟩) (fun hR29 => ?_))
  have hE30 := set_at hq25 (v := (Chan.cells p2 vp2_buffer))
  refine Ow_nil ?_
  refine Cw_seq ?_
  refine Cw_region ?_
  refine Ow_q rfl rfl rfl (Qt_move rfl) ?_
  refine Ow_q rfl rfl rfl (Qt_assign rfl) ?_
  refine Ow_nil ?_
  refine Cw_ret ?_
  obtain ey0 := inj1 H
  subst y0
  refine ⟨(by first | exact .inl rfl | exact .inr rfl), [(sv v19)], ⟨(sv v19), _, rfl, rfl, rfl⟩, ?_⟩
  refine Shift.rem (.there .here) ?_
  refine Shift.done ?_
  exact ⟨v19, (rs20.set p1.toNat (Chan.cells p2 vp2_buffer)), rfl, rfl, rfl, hR29⟩

set_option maxHeartbeats 1000000 in
theorem c_M_model_all (p0 : Op) (vp0_cases : SV) (vp0_draws : SV) (y0 : List Case) (H : M_model_all p0 = some y0) (K : Kp) (G : List Ent) (hp0_cases : Slr TyCase K (sv vp0_cases) p0.cases) (hp0_draws : Slr Ty.i64 K (sv vp0_draws) p0.draws) :
    Fc Tryd.prog 43 #[(.agg (Op.cells p0 vp0_cases vp0_draws).toArray)] K (G) (fun v K' G' => ∃ (wy0 : SV), v = (sv wy0) ∧ G = G' ∧ Slr TyCase K' (sv wy0) y0) := by
  refine Fc_body Tryd.func43 rfl Tryd.ntmps43 Tryd.results43 rfl ?_
  unfold M_model_all at H
  refine Cw_seq ?_
  refine Cw_region ?_
  refine Ow_cons rfl (OpW_box (cs := (Op.cells p0 vp0_cases vp0_draws)) rfl rfl rfl (fun b9 => ?_))
  refine Ow_q rfl rfl rfl (Qt_assign rfl) ?_
  refine Ow_nil ?_
  refine Cw_seq ?_
  refine Cw_seq ?_
  refine Cw_region ?_
  refine Ow_q rfl rfl rfl (Qt_loadA (m := 7) (cs := (Op.cells p0 vp0_cases vp0_draws)) rfl rfl rfl rfl ⟨rfl, Rdc.blk (.head _) rfl⟩) ?_
  obtain ⟨x17, x18, hx19, H⟩ := bnd2 H
  refine Ow_cons rfl (OpW_call rfl Tryd.call70 rfl rfl (c_M_cases_Single p0 vp0_cases vp0_draws x17 x18 hx19 _ _ hp0_cases hp0_draws) ?_)
  rintro _ _ _ - ⟨rfl, rfl, rfl⟩
  refine Ow_q rfl rfl rfl (Qt_move rfl) ?_
  refine Ow_q rfl rfl rfl (Qt_extract rfl rfl) ?_
  refine Ow_q rfl rfl rfl (Qt_extract rfl rfl) ?_
  refine Ow_cons rfl (OpW_alloc (cs := (Case.cells (Case.mk false 0 0))) rfl rfl rfl rfl (fun b20 => ?_))
  refine Ow_cons rfl (OpW_store (vs := (Case.cells x17)) (all' := (Case.cells x17)) rfl rfl rfl rfl rfl .here rfl rfl rfl ?_)
  refine Ow_q rfl rfl rfl (Qt_assign rfl) ?_
  refine Ow_nil ?_
  refine Cw_seq ?_
  refine Cw_region ?_
  refine Ow_q rfl rfl rfl (Qt_move rfl) ?_
  refine Ow_nil ?_
  refine Cw_cond rfl ?_ ?_
  · intro h21
    have H := ift h21 H
    refine Cw_seq ?_
    refine Cw_region ?_
    refine Ow_q rfl rfl rfl (Qt_loadA (m := 3) (cs := (Case.cells x17)) rfl rfl rfl rfl ⟨rfl, Rdc.blk (.head _) rfl⟩) ?_
    have hR23 : RowR TyCase K [(Case.cells x17)] [x17] := RowR.cons rfl (RowR.nil)
    refine Ow_cons rfl (O_lit (T := TyCase) (rows := [(Case.cells x17)]) (l := [x17]) rfl rfl rfl hR23 rfl rfl rfl rfl rfl rfl rfl rfl (fun v22 => ?_))
    refine Ow_q rfl rfl rfl (Qt_assign rfl) ?_
    refine Ow_nil ?_
    refine Cw_ret ?_
    obtain ey0 := inj1 H
    subst y0
    refine ⟨(by first | exact .inl rfl | exact .inr rfl), [(sv v22)], ⟨(sv v22), _, rfl, rfl, rfl⟩, ?_⟩
    refine Shift.settle (T := TyCase) .here hR23 rfl ?_
    intro K24 hK25 hs26
    refine Shift.rem .here ?_
    refine Shift.rem .here ?_
    refine Shift.rem .here ?_
    refine Shift.done ?_
    exact ⟨v22, rfl, rfl, hs26⟩
  · intro h21
    have H := iff_ (btf h21) H
    refine Cw_skip ?_
    refine Cw_seq ?_
    refine Cw_region ?_
    refine Ow_q rfl rfl rfl (Qt_fieldAddr (m := 5) rfl rfl rfl rfl rfl) ?_
    refine Ow_q rfl rfl rfl (Qt_load1 (v := (sv vp0_cases)) rfl rfl rfl (Rdc.blk (.tail _ (.head _)) rfl)) ?_
    refine Ow_q rfl rfl rfl (Qt_assign rfl) ?_
    refine Ow_nil ?_
    refine Cw_ret ?_
    obtain ey0 := inj1 H
    subst y0
    refine ⟨(by first | exact .inl rfl | exact .inr rfl), [(sv vp0_cases)], ⟨(sv vp0_cases), _, rfl, rfl, rfl⟩, ?_⟩
    refine Shift.rem .here ?_
    refine Shift.rem .here ?_
    refine Shift.done ?_
    exact ⟨vp0_cases, rfl, rfl, hp0_cases⟩

set_option maxHeartbeats 1000000 in
theorem c_M_model_Ready (p0 : List Chan) (vp0 : SV) (p1 : Case) (y0 : Bool) (H : M_model_Ready p0 p1 = some y0) (K : Kp) (G : List Ent) (hp0 : Slr TyChan K (sv vp0) p0) :
    Fc Tryd.prog 45 #[(sv vp0), (.agg (Case.cells p1).toArray)] K (G) (fun v K' G' => v = (.bool y0) ∧ K = K' ∧ G = G') := by
  refine Fc_body Tryd.func45 rfl Tryd.ntmps45 Tryd.results45 rfl ?_
  unfold M_model_Ready at H
  refine Cw_seq ?_
  refine Cw_region ?_
  refine Ow_cons rfl (OpW_box (cs := (Case.cells p1)) rfl rfl rfl (fun b12 => ?_))
  refine Ow_q rfl rfl rfl (Qt_assign rfl) ?_
  refine Ow_nil ?_
  refine Cw_seq ?_
  refine Cw_region ?_
  refine Ow_q rfl rfl rfl (Qt_move rfl) ?_
  refine Ow_q rfl rfl rfl (Qt_fieldAddr (m := 1) rfl rfl rfl rfl rfl) ?_
  refine Ow_q rfl rfl rfl (Qt_load1 (v := (.int .i64 p1.channel)) rfl rfl rfl (Rdc.blk (.head _) rfl)) ?_
  obtain ⟨x13, x14, hx15, H⟩ := bnd2 H
  refine Ow_cons rfl (OpW_call rfl Tryd.call38 rfl rfl (c_M_model_find p0 vp0 p1.channel x13 x14 hx15 _ _ hp0) ?_)
  rintro _ _ _ - ⟨v16, rfl, rfl, rfl, hs17⟩
  refine Ow_q rfl rfl rfl (Qt_move rfl) ?_
  refine Ow_q rfl rfl rfl (Qt_extract rfl rfl) ?_
  refine Ow_q rfl rfl rfl (Qt_extract rfl rfl) ?_
  refine Ow_cons rfl (OpW_alloc (cs := (Chan.cells (Chan.mk 0 [] false) nilS)) rfl rfl rfl rfl (fun b18 => ?_))
  refine Ow_cons rfl (OpW_store (vs := (Chan.cells x13 v16)) (all' := (Chan.cells x13 v16)) rfl rfl rfl rfl rfl .here rfl rfl rfl ?_)
  refine Ow_q rfl rfl rfl (Qt_assign rfl) ?_
  refine Ow_nil ?_
  refine Cw_seq ?_
  refine Cw_block ?_
  refine Cw_seq ?_
  refine Cw_region ?_
  refine Ow_q rfl rfl rfl (Qt_move rfl) ?_
  refine Ow_q rfl rfl rfl (Qt_not rfl) ?_
  refine Ow_q rfl rfl rfl (Qt_assign rfl) ?_
  refine Ow_nil ?_
  refine Cw_cond rfl ?_ ?_
  · intro h22
    have h22 := nt_t (h22)
    have H := iff_ (btf h22) H
    refine Cw_seq ?_
    refine Cw_region ?_
    refine Ow_q rfl rfl rfl (Qt_assign rfl) ?_
    refine Ow_nil ?_
    refine Cw_ret ?_
    obtain ey0 := inj1 H
    subst y0
    refine ⟨(by first | exact .inl rfl | exact .inr rfl), [(.bool false)], ⟨(.bool false), _, rfl, rfl, rfl⟩, ?_⟩
    refine Shift.rem .here ?_
    refine Shift.rem .here ?_
    refine Shift.done ?_
    exact ⟨rfl, rfl, rfl⟩
  · intro h22
    have h22 := nt_f (h22)
    have H := ift h22 H
    refine Cw_seq ?_
    refine Cw_region ?_
    refine Ow_q rfl rfl rfl (Qt_fieldAddr (m := 0) rfl rfl rfl rfl rfl) ?_
    refine Ow_q rfl rfl rfl (Qt_load1 (v := (.bool p1.send)) rfl rfl rfl (Rdc.blk (.tail _ (.head _)) rfl)) ?_
    refine Ow_q rfl rfl rfl (Qt_assign rfl) ?_
    refine Ow_nil ?_
    refine Cw_cond rfl ?_ ?_
    · intro h23
      have H := ift h23 H
      refine Cw_seq ?_
      refine Cw_region ?_
      refine Ow_q rfl rfl rfl (Qt_fieldAddr (m := 2) rfl rfl rfl rfl rfl) ?_
      refine Ow_q rfl rfl rfl (Qt_load1 (v := (.bool x13.closed)) rfl rfl rfl (Rdc.blk (.head _) rfl)) ?_
      refine Ow_q rfl rfl rfl (Qt_move rfl) ?_
      refine Ow_caseG rfl rfl rfl ?_ ?_
      · intro h25
        have H := ift h25 H
        refine Ow_pass rfl rfl rfl rfl rfl rfl rfl ?_
        refine Ow_pass rfl rfl rfl rfl rfl rfl rfl ?_
        refine Ow_pass rfl rfl rfl rfl rfl rfl rfl ?_
        refine Ow_pass rfl rfl rfl rfl rfl rfl rfl ?_
        refine Ow_pass rfl rfl rfl rfl rfl rfl rfl ?_
        refine Ow_pass rfl rfl rfl rfl rfl rfl rfl ?_
        refine Ow_q rfl rfl rfl (Qt_pick_t rfl rfl) ?_
        refine Ow_q rfl rfl rfl (Qt_assign rfl) ?_
        refine Ow_nil ?_
        refine Cw_ret ?_
        obtain ey0 := inj1 H
        subst y0
        refine ⟨(by first | exact .inl rfl | exact .inr rfl), [(.bool true)], ⟨(.bool true), _, rfl, rfl, rfl⟩, ?_⟩
        refine Shift.rem .here ?_
        refine Shift.rem .here ?_
        refine Shift.done ?_
        exact ⟨rfl, rfl, rfl⟩
      · intro h25
        have H := iff_ (btf h25) H
        refine Ow_qw rfl rfl rfl rfl rfl rfl (Qt_fieldAddr (m := 1) rfl rfl rfl rfl rfl) ?_
        refine Ow_qw rfl rfl rfl rfl rfl rfl (Qt_load1 (v := (sv v16)) rfl rfl rfl (Rdc.blk (.head _) rfl)) ?_
        refine Ow_qw rfl rfl rfl rfl rfl rfl (Q_len (T := Ty.u64) hs17 rfl rfl) ?_
        refine Ow_qw rfl rfl rfl rfl rfl rfl (Qt_fieldAddr (m := 0) rfl rfl rfl rfl rfl) ?_
        refine Ow_qw rfl rfl rfl rfl rfl rfl (Qt_load1 (v := (.int .i64 x13.capacity)) rfl rfl rfl (Rdc.blk (.head _) rfl)) ?_
        refine Ow_qw rfl rfl rfl rfl rfl rfl (Qt_cmp rfl rfl rfl) ?_
        refine Ow_q rfl rfl rfl (Qt_pick_f rfl rfl) ?_
        refine Ow_q rfl rfl rfl (Qt_assign rfl) ?_
        refine Ow_nil ?_
        refine Cw_ret ?_
        obtain ey0 := inj1 H
        subst y0
        refine ⟨(by first | exact .inl rfl | exact .inr rfl), [(.bool (dcd ((x13.buffer.length : Int) < x13.capacity)))], ⟨(.bool (dcd ((x13.buffer.length : Int) < x13.capacity))), _, rfl, rfl, rfl⟩, ?_⟩
        refine Shift.rem .here ?_
        refine Shift.rem .here ?_
        refine Shift.done ?_
        exact ⟨rfl, rfl, rfl⟩
    · intro h23
      have H := iff_ (btf h23) H
      refine Cw_skip ?_
      refine Cw_seq ?_
      refine Cw_region ?_
      refine Ow_q rfl rfl rfl (Qt_fieldAddr (m := 2) rfl rfl rfl rfl rfl) ?_
      refine Ow_q rfl rfl rfl (Qt_load1 (v := (.bool x13.closed)) rfl rfl rfl (Rdc.blk (.head _) rfl)) ?_
      refine Ow_q rfl rfl rfl (Qt_move rfl) ?_
      refine Ow_caseG rfl rfl rfl ?_ ?_
      · intro h27
        have H := ift h27 H
        refine Ow_pass rfl rfl rfl rfl rfl rfl rfl ?_
        refine Ow_pass rfl rfl rfl rfl rfl rfl rfl ?_
        refine Ow_pass rfl rfl rfl rfl rfl rfl rfl ?_
        refine Ow_pass rfl rfl rfl rfl rfl rfl rfl ?_
        refine Ow_q rfl rfl rfl (Qt_pick_t rfl rfl) ?_
        refine Ow_q rfl rfl rfl (Qt_assign rfl) ?_
        refine Ow_nil ?_
        refine Cw_ret ?_
        obtain ey0 := inj1 H
        subst y0
        refine ⟨(by first | exact .inl rfl | exact .inr rfl), [(.bool true)], ⟨(.bool true), _, rfl, rfl, rfl⟩, ?_⟩
        refine Shift.rem .here ?_
        refine Shift.rem .here ?_
        refine Shift.done ?_
        exact ⟨rfl, rfl, rfl⟩
      · intro h27
        have H := iff_ (btf h27) H
        refine Ow_qw rfl rfl rfl rfl rfl rfl (Qt_fieldAddr (m := 1) rfl rfl rfl rfl rfl) ?_
        refine Ow_qw rfl rfl rfl rfl rfl rfl (Qt_load1 (v := (sv v16)) rfl rfl rfl (Rdc.blk (.head _) rfl)) ?_
        refine Ow_qw rfl rfl rfl rfl rfl rfl (Q_len (T := Ty.u64) hs17 rfl rfl) ?_
        refine Ow_qw rfl rfl rfl rfl rfl rfl (Qt_cmp rfl rfl rfl) ?_
        refine Ow_q rfl rfl rfl (Qt_pick_f rfl rfl) ?_
        refine Ow_q rfl rfl rfl (Qt_assign rfl) ?_
        refine Ow_nil ?_
        refine Cw_ret ?_
        obtain ey0 := inj1 H
        subst y0
        refine ⟨(by first | exact .inl rfl | exact .inr rfl), [(.bool (dcd ((x13.buffer.length : Int) > 0)))], ⟨(.bool (dcd ((x13.buffer.length : Int) > 0))), _, rfl, rfl, rfl⟩, ?_⟩
        refine Shift.rem .here ?_
        refine Shift.rem .here ?_
        refine Shift.done ?_
        exact ⟨rfl, rfl, rfl⟩

set_option maxHeartbeats 1000000 in
theorem c_M_model_Apply_1_freeblk50 (p0 : Case) (bp1 : Nat) (p1 : List Chan) (vp1 : SV) (y0 : Bool) (H : M_model_Apply_1_freeblk50 p0 p1 = some y0) (K : Kp) (G : List Ent) (hp1 : Slr TyChan K (sv vp1) p1) :
    Fc Tryd.prog 44 #[(.agg (Case.cells p0).toArray), (.pointer (some ((⟨bp1, 0, none⟩ : Addr).add 0)))] K ((.blk bp1 50 [(sv vp1)]) :: G) (fun v K' G' => v = (.bool y0) ∧ K = K' ∧ (.blk bp1 50 [(sv vp1)]) :: G = G') := by
  refine Fc_body Tryd.func44 rfl Tryd.ntmps44 Tryd.results44 rfl ?_
  unfold M_model_Apply_1_freeblk50 at H
  refine Cw_seq ?_
  refine Cw_region ?_
  refine Ow_cons rfl (OpW_box (cs := (Case.cells p0)) rfl rfl rfl (fun b4 => ?_))
  refine Ow_q rfl rfl rfl (Qt_assign rfl) ?_
  refine Ow_nil ?_
  refine Cw_seq ?_
  refine Cw_region ?_
  refine Ow_q rfl rfl rfl (Qt_load1 (v := (sv vp1)) rfl rfl rfl (Rdc.blk (.tail _ (.head _)) rfl)) ?_
  refine Ow_q rfl rfl rfl (Qt_loadA (m := 3) (cs := (Case.cells p0)) rfl rfl rfl rfl ⟨rfl, Rdc.blk (.head _) rfl⟩) ?_
  obtain ⟨x5, hx6, H⟩ := bnd H
  refine Ow_cons rfl (OpW_call rfl Tryd.call45 rfl rfl (c_M_model_Ready p1 vp1 p0 x5 hx6 _ _ hp1) ?_)
  rintro _ _ _ - ⟨rfl, rfl, rfl⟩
  refine Ow_q rfl rfl rfl (Qt_assign rfl) ?_
  refine Ow_nil ?_
  refine Cw_ret ?_
  obtain ey0 := inj1 H
  subst y0
  refine ⟨(by first | exact .inl rfl | exact .inr rfl), [(.bool x5)], ⟨(.bool x5), _, rfl, rfl, rfl⟩, ?_⟩
  refine Shift.pull (.there .here) ?_
  refine Shift.rem (.there .here) ?_
  refine Shift.done ?_
  exact ⟨rfl, rfl, rfl⟩



end Go.Hx

namespace Go.Hx
open Go Go.Proofs
set_option linter.unusedSimpArgs false
set_option linter.unusedVariables false
set_option maxRecDepth 10000
set_option maxHeartbeats 1000000 in
theorem c_M_slices_IndexFunc_api_Case_api_Case_1f44blk50 (p0 : List Case) (vp0 : SV) (bc1_0 : Nat) (c1_0 : List Chan) (vc1_0 : SV) (y0 : Int) (H : M_slices_IndexFunc_api_Case_api_Case_1f44blk50 p0 c1_0 = some y0) (K : Kp) (G : List Ent) (hp0 : Slr TyCase K (sv vp0) p0) (hc1_0 : Slr TyChan K (sv vc1_0) c1_0) :
    Fc Tryd.prog 72 #[(sv vp0), (.func (.func 44) #[] #[(.pointer (some ((⟨bc1_0, 0, none⟩ : Addr).add 0)))])] K ((.blk bc1_0 50 [(sv vc1_0)]) :: G) (fun v K' G' => v = (.int .i64 y0) ∧ (.blk bc1_0 50 [(sv vc1_0)]) :: G = G') := by
  refine Fc_body Tryd.func72 rfl Tryd.ntmps72 Tryd.results72 rfl ?_
  unfold M_slices_IndexFunc_api_Case_api_Case_1f44blk50 at H
  refine Cw_seq ?_
  refine Cw_region ?_
  refine Ow_q rfl rfl rfl (Qt_assign rfl) ?_
  refine Ow_nil ?_
  refine Cw_join (fun env' K' G' => [] = env' ∧ (.blk bc1_0 50 [(sv vc1_0)]) :: G = G' ∧ M_slices_IndexFunc_api_Case_api_Case_1f44blk50_J1 c1_0 = some y0) ?_ ?_
  · skip
    refine Cw_seq ?_
    refine Cw_region ?_
    refine Ow_q rfl rfl rfl (Qt_move rfl) ?_
    refine Ow_q rfl rfl rfl (Q_len (T := TyCase) hp0 rfl rfl) ?_
    refine Ow_q rfl rfl rfl (Qt_move rfl) ?_
    refine Ow_nil ?_
    refine Cw_block ?_
    refine Cw_loopM (fun n87 env' K' G' => ∃ (i86 : Int), [(0, (sv vp0)), (1, (.func (.func 44) #[] #[(.pointer (some ((⟨bc1_0, 0, none⟩ : Addr).add 0)))])), (7, (.int .i64 (p0.length : Int))), (8, (.int .i64 i86))] = env' ∧ K = K' ∧ (.blk bc1_0 50 [(sv vc1_0)]) :: G = G' ∧ lp1 (M_slices_IndexFunc_api_Case_api_Case_1f44blk50_L1 p0 c1_0) n87 i86 = some y0) BIG ?_ ?_
    · skip
      refine Shift.done ?_
      exact ⟨[(0, (sv vp0)), (1, (.func (.func 44) #[] #[(.pointer (some ((⟨bc1_0, 0, none⟩ : Addr).add 0)))])), (7, (.int .i64 (p0.length : Int))), (8, (.int .i64 0))], ⟨rfl, rfl, rfl, rfl, trivial⟩, 0, rfl, rfl, rfl, H⟩
    rintro n87 _ _ _ - ⟨i86, rfl, rfl, rfl, H⟩
    obtain ⟨m88, k89, rfl, hkk90, H⟩ := lps1 H
    unfold M_slices_IndexFunc_api_Case_api_Case_1f44blk50_L1 at H
    refine Cw_seq ?_
    refine Cw_region ?_
    refine Ow_q rfl rfl rfl (Qt_cmp rfl rfl rfl) ?_
    refine Ow_nil ?_
    refine Cw_seq ?_
    refine Cw_cond rfl ?_ ?_
    · intro h92
      have h92 := dcd_t (h92)
      have H := ift h92 H
      refine Cw_skip ?_
      refine Cw_seq ?_
      refine Cw_block ?_
      refine Cw_seq ?_
      refine Cw_region ?_
      refine Ow_q rfl rfl rfl (Qt_move rfl) ?_
      refine Ow_q rfl rfl rfl (Qt_assign rfl) ?_
      refine Ow_nil ?_
      refine Cw_seq ?_
      refine Cw_region ?_
      refine Ow_q rfl rfl rfl (Qt_move rfl) ?_
      refine Ow_q rfl rfl rfl (Qt_move rfl) ?_
      refine Ow_q rfl rfl rfl (Qt_move rfl) ?_
      obtain ⟨x101, hx102, H⟩ := bnd H
      obtain ⟨r103, hr104, hk105⟩ := Slr.at hp0 hx102
      obtain rfl := hr104
      refine Ow_q rfl rfl rfl (Q_ix (T := TyCase) hp0 hx102 rfl rfl rfl rfl rfl) ?_
      refine Ow_q rfl rfl rfl (Qt_loadA (m := 3) (cs := (Case.cells x101)) rfl rfl rfl rfl ⟨rfl, Rdc.k hk105 rfl⟩) ?_
      obtain ⟨x106, hx107, H⟩ := bnd H
      refine Ow_cons rfl (OpW_call rfl Tryd.call44 rfl rfl (c_M_model_Apply_1_freeblk50 x101 bc1_0 c1_0 vc1_0 x106 hx107 _ _ hc1_0) ?_)
      rintro _ _ _ - ⟨rfl, rfl, rfl⟩
      refine Ow_nil ?_
      refine Cw_cond rfl ?_ ?_
      · intro h108
        have H := ift h108 H
        refine Cw_seq ?_
        refine Cw_region ?_
        refine Ow_q rfl rfl rfl (Qt_move rfl) ?_
        refine Ow_q rfl rfl rfl (Qt_assign rfl) ?_
        refine Ow_nil ?_
        refine Cw_ret ?_
        obtain ey0 := inj1 H
        subst y0
        refine ⟨(by first | exact .inl rfl | exact .inr rfl), [(.int .i64 i86)], ⟨(.int .i64 i86), _, rfl, rfl, rfl⟩, ?_⟩
        refine Shift.done ?_
        exact ⟨rfl, rfl⟩
      · intro h108
        have H := iff_ (btf h108) H
        refine Cw_skip ?_
        refine Cw_region ?_
        refine Ow_q rfl rfl rfl (Qt_arith (e := wI (i86 + 1)) rfl rfl rfl rfl) ?_
        refine Ow_q rfl rfl rfl (Qt_move rfl) ?_
        refine Ow_nil ?_
        refine Shift.done ?_
        exact ⟨[(0, (sv vp0)), (1, (.func (.func 44) #[] #[(.pointer (some ((⟨bc1_0, 0, none⟩ : Addr).add 0)))])), (7, (.int .i64 (p0.length : Int))), (8, (.int .i64 (wI (i86 + 1))))], ⟨rfl, rfl, rfl, rfl, trivial⟩, _, Nat.lt_succ_self _, (wI (i86 + 1)), rfl, rfl, rfl, (hkk90 ▸ H)⟩
    · intro h92
      have h92 := dcd_f (h92)
      have H := iff_ h92 H
      refine Cw_exit ?_
      refine Shift.done ?_
      exact ⟨[], trivial, rfl, rfl, H⟩
  rintro _ K109 _ hK110 ⟨rfl, rfl, H⟩
  unfold M_slices_IndexFunc_api_Case_api_Case_1f44blk50_J1 at H
  refine Cw_seq ?_
  refine Cw_region ?_
  refine Ow_q rfl rfl rfl (Qt_assign rfl) ?_
  refine Ow_nil ?_
  refine Cw_ret ?_
  obtain ey0 := inj1 H
  subst y0
  refine ⟨(by first | exact .inl rfl | exact .inr rfl), [(.int .i64 (-1))], ⟨(.int .i64 (-1)), _, rfl, rfl, rfl⟩, ?_⟩
  refine Shift.done ?_
  exact ⟨rfl, rfl⟩

set_option maxHeartbeats 1000000 in
theorem c_M_slices_ContainsFunc_api_Case_api_Case_1f44blk50 (p0 : List Case) (vp0 : SV) (bc1_0 : Nat) (c1_0 : List Chan) (vc1_0 : SV) (y0 : Bool) (H : M_slices_ContainsFunc_api_Case_api_Case_1f44blk50 p0 c1_0 = some y0) (K : Kp) (G : List Ent) (hp0 : Slr TyCase K (sv vp0) p0) (hc1_0 : Slr TyChan K (sv vc1_0) c1_0) :
    Fc Tryd.prog 42 #[(sv vp0), (.func (.func 44) #[] #[(.pointer (some ((⟨bc1_0, 0, none⟩ : Addr).add 0)))])] K ((.blk bc1_0 50 [(sv vc1_0)]) :: G) (fun v K' G' => v = (.bool y0) ∧ (.blk bc1_0 50 [(sv vc1_0)]) :: G = G') := by
  refine Fc_body Tryd.func42 rfl Tryd.ntmps42 Tryd.results42 rfl ?_
  unfold M_slices_ContainsFunc_api_Case_api_Case_1f44blk50 at H
  refine Cw_seq ?_
  refine Cw_region ?_
  refine Ow_q rfl rfl rfl (Qt_assign rfl) ?_
  refine Ow_nil ?_
  refine Cw_seq ?_
  refine Cw_region ?_
  refine Ow_q rfl rfl rfl (Qt_move rfl) ?_
  refine Ow_q rfl rfl rfl (Qt_move rfl) ?_
  obtain ⟨x5, hx6, H⟩ := bnd H
  refine Ow_cons rfl (OpW_call rfl Tryd.call72 rfl rfl (c_M_slices_IndexFunc_api_Case_api_Case_1f44blk50 p0 vp0 bc1_0 c1_0 vc1_0 x5 hx6 _ _ hp0 hc1_0) ?_)
  rintro _ K7 _ hK8 ⟨rfl, rfl⟩
  refine Ow_q rfl rfl rfl (Qt_cmp rfl rfl rfl) ?_
  refine Ow_q rfl rfl rfl (Qt_assign rfl) ?_
  refine Ow_nil ?_
  refine Cw_ret ?_
  obtain ey0 := inj1 H
  subst y0
  refine ⟨(by first | exact .inl rfl | exact .inr rfl), [(.bool (dcd (x5 ≥ 0)))], ⟨(.bool (dcd (x5 ≥ 0))), _, rfl, rfl, rfl⟩, ?_⟩
  refine Shift.done ?_
  exact ⟨rfl, rfl⟩

set_option maxHeartbeats 1000000 in
theorem c_M_slices_Clone_int_int (p0 : List Int) (vp0 : SV) (y0 : List Int) (H : M_slices_Clone_int_int p0 = some y0) (K : Kp) (G : List Ent) (hp0 : Slr Ty.i64 K (sv vp0) p0) :
    Fc Tryd.prog 84 #[(sv vp0)] K (G) (fun v K' G' => ∃ (wy0 : SV) (rswy0 : List (List Value)), v = (sv wy0) ∧ K = K' ∧ (.row (sv wy0) 3 1 rswy0.flatten) :: G = G' ∧ RowR Ty.i64 K' rswy0 y0) := by
  refine Fc_body Tryd.func84 rfl Tryd.ntmps84 Tryd.results84 rfl ?_
  unfold M_slices_Clone_int_int at H
  refine Cw_seq ?_
  refine Cw_region ?_
  refine Ow_q rfl rfl rfl (Qt_assign rfl) ?_
  refine Ow_nil ?_
  refine Cw_seq ?_
  refine Cw_seq ?_
  refine Cw_region ?_
  refine Ow_q rfl rfl rfl (Qt_move rfl) ?_
  refine Ow_q rfl rfl rfl (Qt_eqNilS rfl rfl rfl) ?_
  refine Ow_nil ?_
  refine Cw_cond rfl ?_ ?_
  · intro h15
    have hl16 := Slr.nil_of hp0 h15
    have H : some [] = some y0 := by rw [hl16] at H; simpa [app] using H
    refine Cw_seq ?_
    refine Cw_region ?_
    refine Ow_q rfl rfl rfl (Qt_assign rfl) ?_
    refine Ow_nil ?_
    refine Cw_ret ?_
    obtain ey0 := inj1 H
    subst y0
    refine ⟨(by first | exact .inl rfl | exact .inr rfl), [(sv nilS)], ⟨(sv nilS), _, rfl, rfl, rfl⟩, ?_⟩
    have hR17 : RowR Ty.i64 K [] [] := RowR.nil
    refine Shift.nilRow 3 1 ?_
    refine Shift.done ?_
    exact ⟨nilS, ([] : List (List Value)), rfl, rfl, rfl, hR17⟩
  · intro h15
    refine Cw_skip ?_
    refine Cw_seq ?_
    refine Cw_region ?_
    have hR19 : RowR Ty.i64 K [] [] := RowR.nil
    refine Ow_cons rfl (O_lit0 (T := Ty.i64) rfl rfl rfl rfl rfl (fun v18 => ?_))
    refine Ow_q rfl rfl rfl (Qt_move rfl) ?_
    obtain ⟨x20, hx21, H⟩ := bnd H
    refine Ow_cons rfl (O_appRow (T := Ty.i64) (bytes := 8) rfl rfl rfl (.head _) hR19 (SrcT.sl hp0) hx21 rfl rfl rfl rfl rfl rfl rfl rfl (fun v22 rs23 hR24 => ⟨_, .here, ?_⟩))
    refine Ow_q rfl rfl rfl (Qt_assign rfl) ?_
    refine Ow_nil ?_
    refine Cw_ret ?_
    obtain ey0 := inj1 H
    subst y0
    refine ⟨(by first | exact .inl rfl | exact .inr rfl), [(sv v22)], ⟨(sv v22), _, rfl, rfl, rfl⟩, ?_⟩
    refine Shift.done ?_
    exact ⟨v22, rs23, rfl, rfl, rfl, hR24⟩



end Go.Hx
