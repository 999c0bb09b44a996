/- Printed by program. -/
import Derived.Test.YtlegagccaeoidaaDoorXRM
namespace Go.Hx
open Go Go.Proofs
set_option linter.unusedSimpArgs false
set_option linter.unusedVariables false
set_option maxRecDepth 10000
set_option maxHeartbeats 1000000 in
theorem c_M_ref20_Word (p0 : Int) (y0 : ByteArray) (H : M_ref20_Word p0 = some y0) (K : Kp) (G : List Ent)  :
    Fc Tryd.prog 14 #[(.int .u64 p0)] K (G) (fun v K' G' => v = (.string y0) ∧ G = G') := by
  refine Fc_body Tryd.func14 rfl Tryd.ntmps14 Tryd.results14 rfl ?_
  unfold M_ref20_Word at H
  refine Cw_seq ?_
  refine Cw_region ?_
  refine Ow_q rfl rfl rfl (Qt_assign rfl) ?_
  refine Ow_nil ?_
  refine Cw_seq ?_
  refine Cw_seq ?_
  refine Cw_region ?_
  refine Ow_q rfl rfl rfl (Qt_move rfl) ?_
  refine Ow_q rfl rfl rfl (Qt_cmp rfl rfl rfl) ?_
  refine Ow_nil ?_
  refine Cw_cond rfl ?_ ?_
  · intro h20
    have h20 := dcd_t (h20)
    have H := ift h20 H
    refine Cw_seq ?_
    refine Cw_region ?_
    refine Ow_q rfl rfl rfl (Qt_assign rfl) ?_
    refine Ow_nil ?_
    refine Cw_ret ?_
    obtain ey0 := inj1 H
    subst y0
    refine ⟨(by first | exact .inl rfl | exact .inr rfl), [(.string (⟨#[48]⟩ : ByteArray))], ⟨(.string (⟨#[48]⟩ : ByteArray)), _, rfl, rfl, rfl⟩, ?_⟩
    refine Shift.done ?_
    exact ⟨rfl, rfl⟩
  · intro h20
    have h20 := dcd_f (h20)
    have H := iff_ h20 H
    refine Cw_skip ?_
    refine Cw_seq ?_
    refine Cw_region ?_
    refine Ow_q rfl rfl rfl (Qt_assign rfl) ?_
    refine Ow_nil ?_
    refine Cw_join (fun env' K' G' => ∃ (s35 : ByteArray), [(3, (.string s35))] = env' ∧ G = G' ∧ M_ref20_Word_J1 s35 = some y0) ?_ ?_
    · skip
      refine Cw_block ?_
      refine Cw_loopM (fun n50 env' K' G' => ∃ (i48 : Int) (s49 : ByteArray), [(0, (.int .u64 i48)), (3, (.string s49))] = env' ∧ K = K' ∧ G = G' ∧ lp2 (M_ref20_Word_L1) n50 i48 s49 = some y0) BIG ?_ ?_
      · skip
        refine Shift.done ?_
        exact ⟨[(0, (.int .u64 p0)), (3, (.string (⟨#[]⟩ : ByteArray)))], ⟨rfl, rfl, trivial⟩, p0, (⟨#[]⟩ : ByteArray), rfl, rfl, rfl, H⟩
      rintro n50 _ _ _ - ⟨i48, s49, rfl, rfl, rfl, H⟩
      obtain ⟨m51, k52, rfl, hkk53, H⟩ := lps2 H
      unfold M_ref20_Word_L1 at H
      refine Cw_seq ?_
      refine Cw_seq ?_
      refine Cw_region ?_
      refine Ow_q rfl rfl rfl (Qt_move rfl) ?_
      refine Ow_q rfl rfl rfl (Qt_cmp rfl rfl rfl) ?_
      refine Ow_nil ?_
      refine Cw_cond rfl ?_ ?_
      · intro h55
        have h55 := dcd_t (h55)
        have H := ift h55 H
        refine Cw_skip ?_
        refine Cw_block ?_
        refine Cw_seq ?_
        refine Cw_region ?_
        refine Ow_q rfl rfl rfl (Qt_move rfl) ?_
        refine Ow_q rfl rfl rfl (Qt_rem rfl rfl (by decide)) ?_
        refine Ow_q rfl rfl rfl (Qt_arith (e := wU (48 + (Int.tmod i48 10))) rfl rfl rfl rfl) ?_
        refine Ow_q rfl rfl rfl (Qt_conv (c := (IntKind.wrap .i32) (wU (48 + (Int.tmod i48 10)))) rfl rfl rfl rfl) ?_
        refine Ow_q rfl rfl rfl (Qt_convS rfl rfl rfl) ?_
        refine Ow_q rfl rfl rfl (Qt_move rfl) ?_
        obtain ⟨x56, hx57, H⟩ := bnd H
        refine Ow_q rfl rfl rfl (Q_catS hx57 rfl rfl) ?_
        refine Ow_q rfl rfl rfl (Qt_assign rfl) ?_
        refine Ow_nil ?_
        refine Cw_region ?_
        refine Ow_q rfl rfl rfl (Qt_move rfl) ?_
        refine Ow_q rfl rfl rfl (Qt_quo rfl rfl (by decide)) ?_
        refine Ow_q rfl rfl rfl (Qt_assign rfl) ?_
        refine Ow_nil ?_
        refine Shift.done ?_
        exact ⟨[(0, (.int .u64 (wU (Int.tdiv i48 10)))), (3, (.string x56))], ⟨rfl, rfl, trivial⟩, _, Nat.lt_succ_self _, (wU (Int.tdiv i48 10)), x56, rfl, rfl, rfl, (hkk53 ▸ H)⟩
      · intro h55
        have h55 := dcd_f (h55)
        have H := iff_ h55 H
        refine Cw_exit ?_
        refine Shift.done ?_
        exact ⟨[(3, (.string s49))], ⟨rfl, trivial⟩, s49, rfl, rfl, H⟩
    rintro _ K58 _ hK59 ⟨s35, rfl, rfl, H⟩
    unfold M_ref20_Word_J1 at H
    refine Cw_seq ?_
    refine Cw_region ?_
    refine Ow_q rfl rfl rfl (Qt_move rfl) ?_
    refine Ow_q rfl rfl rfl (Qt_assign rfl) ?_
    refine Ow_nil ?_
    refine Cw_ret ?_
    obtain ey0 := inj1 H
    subst y0
    refine ⟨(by first | exact .inl rfl | exact .inr rfl), [(.string s35)], ⟨(.string s35), _, rfl, rfl, rfl⟩, ?_⟩
    refine Shift.done ?_
    exact ⟨rfl, rfl⟩


end Go.Hx
