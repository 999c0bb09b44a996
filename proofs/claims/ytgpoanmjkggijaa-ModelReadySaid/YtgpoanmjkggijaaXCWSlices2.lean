/- Printed by program. -/
import Derived.Test.YtgpoanmjkggijaaXCM
import Derived.Test.YtgpoanmjkggijaaXCWModel3
namespace Go.Hx
open Go Go.Proofs
set_option linter.unusedSimpArgs false
set_option linter.unusedVariables false
set_option maxRecDepth 10000
set_option maxHeartbeats 1000000 in
theorem c_M_slices_EqualFunc_api_Chan_api_Chan_api_Chan_api_Chan_2f85 (p0 : List Chan) (vp0 : SV) (p1 : List Chan) (vp1 : SV) (y0 : Bool) (H : M_slices_EqualFunc_api_Chan_api_Chan_api_Chan_api_Chan_2f85 p0 p1 = some y0) (K : Kp) (G : List Ent) (hp0 : Slr TyChan K (sv vp0) p0) (hp1 : Slr TyChan K (sv vp1) p1) :
    Fc Try.prog 84 #[(sv vp0), (sv vp1), (.func (.func 85) #[] #[])] K (G) (fun v K' G' => v = (.bool y0) ∧ G = G') := by
  refine Fc_body Try.func84 rfl Try.ntmps84 Try.results84 rfl ?_
  unfold M_slices_EqualFunc_api_Chan_api_Chan_api_Chan_api_Chan_2f85 at H
  refine Cw_seq ?_
  refine Cw_region ?_
  refine Ow_q rfl rfl rfl (Qt_assign rfl) ?_
  refine Ow_nil ?_
  refine Cw_seq ?_
  refine Cw_seq ?_
  refine Cw_region ?_
  refine Ow_q rfl rfl rfl (Qt_move rfl) ?_
  refine Ow_q rfl rfl rfl (Q_len (T := TyChan) hp0 rfl rfl) ?_
  refine Ow_q rfl rfl rfl (Qt_move rfl) ?_
  refine Ow_q rfl rfl rfl (Q_len (T := TyChan) hp1 rfl rfl) ?_
  refine Ow_q rfl rfl rfl (Qt_cmp rfl rfl rfl) ?_
  refine Ow_nil ?_
  refine Cw_cond rfl ?_ ?_
  · intro h59
    have h59 := dcd_f (nt_t (h59))
    have H := iff_ h59 H
    refine Cw_seq ?_
    refine Cw_region ?_
    refine Ow_q rfl rfl rfl (Qt_assign rfl) ?_
    refine Ow_nil ?_
    refine Cw_ret ?_
    obtain ey0 := inj1 H
    subst y0
    refine ⟨(by first | exact .inl rfl | exact .inr rfl), [(.bool false)], ⟨(.bool false), _, rfl, rfl, rfl⟩, ?_⟩
    refine Shift.done ?_
    exact ⟨rfl, rfl⟩
  · intro h59
    have h59 := dcd_t (nt_f (h59))
    have H := ift h59 H
    refine Cw_skip ?_
    refine Cw_join (fun env' K' G' => [] = env' ∧ G = G' ∧ M_slices_EqualFunc_api_Chan_api_Chan_api_Chan_api_Chan_2f85_J1 = some y0) ?_ ?_
    · skip
      refine Cw_seq ?_
      refine Cw_region ?_
      refine Ow_q rfl rfl rfl (Qt_move rfl) ?_
      refine Ow_q rfl rfl rfl (Q_len (T := TyChan) hp0 rfl rfl) ?_
      refine Ow_q rfl rfl rfl (Qt_move rfl) ?_
      refine Ow_nil ?_
      refine Cw_block ?_
      refine Cw_loopM (fun n168 env' K' G' => ∃ (i167 : Int), [(1, (sv vp1)), (2, (.func (.func 85) #[] #[])), (15, (sv vp0)), (16, (.int .i64 (p0.length : Int))), (17, (.int .i64 i167))] = env' ∧ G = G' ∧ lp1 (M_slices_EqualFunc_api_Chan_api_Chan_api_Chan_api_Chan_2f85_L1 p1 p0) n168 i167 = some y0) BIG ?_ ?_
      · skip
        refine Shift.done ?_
        exact ⟨[(1, (sv vp1)), (2, (.func (.func 85) #[] #[])), (15, (sv vp0)), (16, (.int .i64 (p0.length : Int))), (17, (.int .i64 0))], ⟨rfl, rfl, rfl, rfl, rfl, trivial⟩, 0, rfl, rfl, H⟩
      rintro n168 _ K169 _ hK170 ⟨i167, rfl, rfl, H⟩
      obtain ⟨m171, k172, rfl, hkk173, H⟩ := lps1 H
      unfold M_slices_EqualFunc_api_Chan_api_Chan_api_Chan_api_Chan_2f85_L1 at H
      refine Cw_seq ?_
      refine Cw_region ?_
      refine Ow_q rfl rfl rfl (Qt_cmp rfl rfl rfl) ?_
      refine Ow_nil ?_
      refine Cw_seq ?_
      refine Cw_cond rfl ?_ ?_
      · intro h175
        have h175 := dcd_t (h175)
        have H := ift h175 H
        refine Cw_skip ?_
        refine Cw_seq ?_
        refine Cw_block ?_
        refine Cw_seq ?_
        refine Cw_region ?_
        refine Ow_q rfl rfl rfl (Qt_move rfl) ?_
        obtain ⟨x199, hx200, H⟩ := bnd H
        have hs201 := (hp0).mono hK170
        obtain ⟨r202, hr203, hk204⟩ := Slr.at hs201 hx200
        obtain ⟨v205, rfl, hs206⟩ := hr203
        refine Ow_q rfl rfl rfl (Q_ix (T := TyChan) hs201 hx200 rfl rfl rfl rfl rfl) ?_
        refine Ow_q rfl rfl rfl (Qt_loadA (m := 3) (cs := (Chan.cells x199 v205)) rfl rfl rfl rfl ⟨rfl, Rdc.k hk204 rfl⟩) ?_
        refine Ow_cons rfl (OpW_alloc (cs := (Chan.cells (Chan.mk 0 [] false) nilS)) rfl rfl rfl rfl (fun b207 => ?_))
        refine Ow_q rfl rfl rfl (Qt_assign rfl) ?_
        refine Ow_cons rfl (OpW_store (vs := (Chan.cells x199 v205)) (all' := (Chan.cells x199 v205)) rfl rfl rfl rfl rfl .here rfl rfl rfl ?_)
        refine Ow_nil ?_
        refine Cw_seq ?_
        refine Cw_region ?_
        refine Ow_q rfl rfl rfl (Qt_move rfl) ?_
        refine Ow_q rfl rfl rfl (Qt_move rfl) ?_
        obtain ⟨x208, hx209, H⟩ := bnd H
        have hs210 := (hp1).mono hK170
        obtain ⟨r211, hr212, hk213⟩ := Slr.at hs210 hx209
        obtain ⟨v214, rfl, hs215⟩ := hr212
        refine Ow_q rfl rfl rfl (Q_ix (T := TyChan) hs210 hx209 rfl rfl rfl rfl rfl) ?_
        refine Ow_q rfl rfl rfl (Qt_loadA (m := 3) (cs := (Chan.cells x208 v214)) rfl rfl rfl rfl ⟨rfl, Rdc.k hk213 rfl⟩) ?_
        refine Ow_cons rfl (OpW_alloc (cs := (Chan.cells (Chan.mk 0 [] false) nilS)) rfl rfl rfl rfl (fun b216 => ?_))
        refine Ow_cons rfl (OpW_store (vs := (Chan.cells x208 v214)) (all' := (Chan.cells x208 v214)) rfl rfl rfl rfl rfl .here rfl rfl rfl ?_)
        refine Ow_nil ?_
        refine Cw_seq ?_
        refine Cw_region ?_
        refine Ow_q rfl rfl rfl (Qt_move rfl) ?_
        refine Ow_q rfl rfl rfl (Qt_loadA (m := 3) (cs := (Chan.cells x199 v205)) rfl rfl rfl rfl ⟨rfl, Rdc.blk (.tail _ (.head _)) rfl⟩) ?_
        refine Ow_q rfl rfl rfl (Qt_loadA (m := 3) (cs := (Chan.cells x208 v214)) rfl rfl rfl rfl ⟨rfl, Rdc.blk (.head _) rfl⟩) ?_
        obtain ⟨x217, hx218, H⟩ := bnd H
        refine Ow_cons rfl (OpW_call rfl Try.call85 rfl rfl (c_M_model_Same_1 x199 v205 x208 v214 x217 hx218 _ _ hs206 hs215) ?_)
        rintro _ K219 _ hK220 ⟨rfl, rfl⟩
        refine Ow_q rfl rfl rfl (Qt_not rfl) ?_
        refine Ow_nil ?_
        refine Cw_cond rfl ?_ ?_
        · intro h221
          have h221 := nt_t (h221)
          have H := iff_ (btf h221) H
          refine Cw_seq ?_
          refine Cw_region ?_
          refine Ow_q rfl rfl rfl (Qt_assign rfl) ?_
          refine Ow_nil ?_
          refine Cw_ret ?_
          obtain ey0 := inj1 H
          subst y0
          refine ⟨(by first | exact .inl rfl | exact .inr rfl), [(.bool false)], ⟨(.bool false), _, rfl, rfl, rfl⟩, ?_⟩
          refine Shift.rem .here ?_
          refine Shift.rem .here ?_
          refine Shift.done ?_
          exact ⟨rfl, rfl⟩
        · intro h221
          have h221 := nt_f (h221)
          have H := ift h221 H
          refine Cw_skip ?_
          refine Cw_region ?_
          refine Ow_q rfl rfl rfl (Qt_arith (e := wI (i167 + 1)) rfl rfl rfl rfl) ?_
          refine Ow_q rfl rfl rfl (Qt_move rfl) ?_
          refine Ow_nil ?_
          refine Shift.rem .here ?_
          refine Shift.rem .here ?_
          refine Shift.done ?_
          exact ⟨[(1, (sv vp1)), (2, (.func (.func 85) #[] #[])), (15, (sv vp0)), (16, (.int .i64 (p0.length : Int))), (17, (.int .i64 (wI (i167 + 1))))], ⟨rfl, rfl, rfl, rfl, rfl, trivial⟩, _, Nat.lt_succ_self _, (wI (i167 + 1)), rfl, rfl, (hkk173 ▸ H)⟩
      · intro h175
        have h175 := dcd_f (h175)
        have H := iff_ h175 H
        refine Cw_exit ?_
        refine Shift.done ?_
        exact ⟨[], trivial, rfl, rfl, H⟩
    rintro _ K222 _ hK223 ⟨rfl, rfl, H⟩
    unfold M_slices_EqualFunc_api_Chan_api_Chan_api_Chan_api_Chan_2f85_J1 at H
    refine Cw_seq ?_
    refine Cw_region ?_
    refine Ow_q rfl rfl rfl (Qt_assign rfl) ?_
    refine Ow_nil ?_
    refine Cw_ret ?_
    obtain ey0 := inj1 H
    subst y0
    refine ⟨(by first | exact .inl rfl | exact .inr rfl), [(.bool true)], ⟨(.bool true), _, rfl, rfl, rfl⟩, ?_⟩
    refine Shift.done ?_
    exact ⟨rfl, rfl⟩


end Go.Hx
