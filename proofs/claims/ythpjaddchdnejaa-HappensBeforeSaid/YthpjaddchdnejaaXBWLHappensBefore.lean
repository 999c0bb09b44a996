/- Printed by program. -/
import Derived.Test.YthpjaddchdnejaaXBM
import Derived.Test.YthpjaddchdnejaaXBWHappens2
import Derived.Test.YthpjaddchdnejaaXBWLaw18
import Derived.Test.YthpjaddchdnejaaXBWLaw181
import Derived.Test.YthpjaddchdnejaaXBWRef16
import Derived.Test.YthpjaddchdnejaaXBWRef18
import Derived.Test.YthpjaddchdnejaaXBWRef181
namespace Go.Hx
open Go Go.Proofs
set_option linter.unusedSimpArgs false
set_option linter.unusedVariables false
set_option maxRecDepth 10000
set_option maxHeartbeats 1000000 in
theorem c_M_law18_HappensBefore (p0 : List Int) (vp0 : SV) (p1 : Int) (p2 : Int) (p3 : Int) (y0 : Bool) (H : M_law18_HappensBefore p0 p1 p2 p3 = some y0) (K : Kp) (G : List Ent) (hp0 : Slr Ty.u8 K (sv vp0) p0) :
    Fc Try.prog 11 #[(sv vp0), (.int .u8 p1), (.int .i64 p2), (.int .i64 p3)] K (G) (fun v K' G' => v = (.bool y0) ∧ G = G') := by
  refine Fc_body Try.func11 rfl Try.ntmps11 Try.results11 rfl ?_
  unfold M_law18_HappensBefore at H
  refine Cw_seq ?_
  refine Cw_region ?_
  refine Ow_q rfl rfl rfl (Qt_assign rfl) ?_
  refine Ow_nil ?_
  refine Cw_seq ?_
  refine Cw_seq ?_
  refine Cw_region ?_
  obtain ⟨x133, hx134, H⟩ := bnd H
  refine Ow_cons rfl (OpW_call rfl Try.call33 rfl rfl (c_M_law18_awake  x133 hx134 _ _ ) ?_)
  rintro _ K135 _ hK136 ⟨rfl, rfl⟩
  refine Ow_q rfl rfl rfl (Qt_not rfl) ?_
  refine Ow_nil ?_
  refine Cw_cond rfl ?_ ?_
  · intro h137
    have h137 := nt_t (h137)
    have H := iff_ (btf h137) H
    refine Cw_seq ?_
    refine Cw_region ?_
    refine Ow_q rfl rfl rfl (Qt_assign rfl) ?_
    refine Ow_nil ?_
    refine Cw_ret ?_
    obtain ey0 := inj1 H
    subst y0
    refine ⟨(by first | exact .inl rfl | exact .inr rfl), [(.bool false)], ⟨(.bool false), _, rfl, rfl, rfl⟩, ?_⟩
    refine Shift.done ?_
    exact ⟨rfl, rfl⟩
  · intro h137
    have h137 := nt_f (h137)
    have H := ift h137 H
    refine Cw_skip ?_
    refine Cw_seq ?_
    refine Cw_region ?_
    refine Ow_q rfl rfl rfl (Qt_move rfl) ?_
    refine Ow_q rfl rfl rfl (Qt_rem rfl rfl (by decide)) ?_
    refine Ow_q rfl rfl rfl (Qt_conv (c := wI (Int.tmod p1 4)) rfl rfl rfl rfl) ?_
    refine Ow_q rfl rfl rfl (Qt_arith (e := wI (1 + (wI (Int.tmod p1 4)))) rfl rfl rfl rfl) ?_
    refine Ow_q rfl rfl rfl (Qt_assign rfl) ?_
    refine Ow_nil ?_
    refine Cw_seq ?_
    refine Cw_region ?_
    refine Ow_q rfl rfl rfl (Qt_move rfl) ?_
    refine Ow_q rfl rfl rfl (Qt_move rfl) ?_
    obtain ⟨x138, hx139, H⟩ := bnd H
    have hs140 := (hp0).mono hK136
    refine Ow_cons rfl (OpW_call rfl Try.call34 rfl rfl (c_M_law18_items p0 vp0 (wI (1 + (wI (Int.tmod p1 4)))) 24 x138 hx139 _ _ hs140) ?_)
    rintro _ K142 _ hK143 ⟨v141, rfl, rfl, hs144⟩
    refine Ow_q rfl rfl rfl (Qt_assign rfl) ?_
    refine Ow_nil ?_
    refine Cw_join (fun env' K' G' => [(2, (.int .i64 p2)), (3, (.int .i64 p3)), (9, (.int .i64 (wI (1 + (wI (Int.tmod p1 4)))))), (10, (sv v141))] = env' ∧ (.tok 56 8 [(sv v141)]) :: G = G' ∧ M_law18_HappensBefore_J1 p2 p3 p1 x138 = some y0) ?_ ?_
    · skip
      refine Cw_seq ?_
      refine Cw_region ?_
      refine Ow_q rfl rfl rfl (Qt_assign rfl) ?_
      refine Ow_nil ?_
      refine Cw_block ?_
      refine Cw_loopM (fun n291 env' K' G' => ∃ (i290 : Int), [(2, (.int .i64 p2)), (3, (.int .i64 p3)), (9, (.int .i64 (wI (1 + (wI (Int.tmod p1 4)))))), (10, (sv v141)), (11, (.int .i64 i290))] = env' ∧ (.tok 56 8 [(sv v141)]) :: G = G' ∧ lp1 (M_law18_HappensBefore_L1 p2 p3 p1 x138) n291 i290 = some y0) BIG ?_ ?_
      · skip
        refine Shift.done ?_
        exact ⟨[(2, (.int .i64 p2)), (3, (.int .i64 p3)), (9, (.int .i64 (wI (1 + (wI (Int.tmod p1 4)))))), (10, (sv v141)), (11, (.int .i64 0))], ⟨rfl, rfl, rfl, rfl, rfl, trivial⟩, 0, rfl, rfl, H⟩
      rintro n291 _ K292 _ hK293 ⟨i290, rfl, rfl, H⟩
      obtain ⟨m294, k295, rfl, hkk296, H⟩ := lps1 H
      unfold M_law18_HappensBefore_L1 at H
      refine Cw_seq ?_
      refine Cw_seq ?_
      refine Cw_region ?_
      refine Ow_q rfl rfl rfl (Qt_move rfl) ?_
      refine Ow_q rfl rfl rfl (Qt_move rfl) ?_
      have hs299 := (hs144).mono hK293
      refine Ow_q rfl rfl rfl (Q_len (T := TyItem) hs299 rfl rfl) ?_
      refine Ow_q rfl rfl rfl (Qt_cmp rfl rfl rfl) ?_
      refine Ow_nil ?_
      refine Cw_cond rfl ?_ ?_
      · intro h300
        have h300 := dcd_t (h300)
        have H := ift h300 H
        refine Cw_skip ?_
        refine Cw_join (fun env' K' G' => [(2, (.int .i64 p2)), (3, (.int .i64 p3)), (9, (.int .i64 (wI (1 + (wI (Int.tmod p1 4)))))), (10, (sv v141)), (11, (.int .i64 i290))] = env' ∧ (.tok 56 8 [(sv v141)]) :: G = G' ∧ M_law18_HappensBefore_J2 p2 p3 p1 x138 i290 k295 = some y0) ?_ ?_
        · skip
          refine Cw_block ?_
          refine Cw_seq ?_
          refine Cw_region ?_
          refine Ow_q rfl rfl rfl (Qt_move rfl) ?_
          refine Ow_q rfl rfl rfl (Q_len (T := TyItem) hs299 rfl rfl) ?_
          refine Ow_q rfl rfl rfl (Qt_move rfl) ?_
          refine Ow_nil ?_
          refine Cw_block ?_
          refine Cw_loopM (fun n361 env' K' G' => ∃ (i360 : Int), [(2, (.int .i64 p2)), (3, (.int .i64 p3)), (9, (.int .i64 (wI (1 + (wI (Int.tmod p1 4)))))), (10, (sv v141)), (11, (.int .i64 i290)), (29, (.int .i64 (x138.length : Int))), (30, (.int .i64 i360))] = env' ∧ (.tok 56 8 [(sv v141)]) :: G = G' ∧ lp1 (M_law18_HappensBefore_L2 p2 p3 p1 x138 i290 k295) n361 i360 = some y0) BIG ?_ ?_
          · skip
            refine Shift.done ?_
            exact ⟨[(2, (.int .i64 p2)), (3, (.int .i64 p3)), (9, (.int .i64 (wI (1 + (wI (Int.tmod p1 4)))))), (10, (sv v141)), (11, (.int .i64 i290)), (29, (.int .i64 (x138.length : Int))), (30, (.int .i64 0))], ⟨rfl, rfl, rfl, rfl, rfl, rfl, rfl, trivial⟩, 0, rfl, rfl, H⟩
          rintro n361 _ K362 _ hK363 ⟨i360, rfl, rfl, H⟩
          obtain ⟨m364, k365, rfl, hkk366, H⟩ := lps1 H
          unfold M_law18_HappensBefore_L2 at H
          refine Cw_seq ?_
          refine Cw_region ?_
          refine Ow_q rfl rfl rfl (Qt_cmp rfl rfl rfl) ?_
          refine Ow_nil ?_
          refine Cw_seq ?_
          refine Cw_cond rfl ?_ ?_
          · intro h368
            have h368 := dcd_t (h368)
            have H := ift h368 H
            refine Cw_skip ?_
            refine Cw_seq ?_
            refine Cw_block ?_
            refine Cw_seq ?_
            refine Cw_region ?_
            refine Ow_q rfl rfl rfl (Qt_move rfl) ?_
            refine Ow_q rfl rfl rfl (Qt_assign rfl) ?_
            refine Ow_nil ?_
            refine Cw_seq ?_
            refine Cw_region ?_
            refine Ow_q rfl rfl rfl (Qt_move rfl) ?_
            refine Ow_q rfl rfl rfl (Qt_move rfl) ?_
            refine Ow_q rfl rfl rfl (Qt_move rfl) ?_
            refine Ow_q rfl rfl rfl (Qt_move rfl) ?_
            obtain ⟨x380, hx381, H⟩ := bnd H
            have hs382 := (hs299).mono hK363
            refine Ow_cons rfl (OpW_call rfl Try.call42 rfl rfl (c_M_happens_Before x138 v141 (wI (1 + (wI (Int.tmod p1 4)))) i290 i360 x380 hx381 _ _ hs382) ?_)
            rintro _ K383 _ hK384 ⟨rfl, rfl⟩
            refine Ow_q rfl rfl rfl (Qt_move rfl) ?_
            refine Ow_q rfl rfl rfl (Qt_move rfl) ?_
            refine Ow_q rfl rfl rfl (Qt_move rfl) ?_
            refine Ow_q rfl rfl rfl (Qt_move rfl) ?_
            obtain ⟨x385, hx386, H⟩ := bnd H
            have hs387 := (hs382).mono hK384
            refine Ow_cons rfl (OpW_call rfl Try.call43 rfl rfl (c_M_ref18_Before x138 v141 (wI (1 + (wI (Int.tmod p1 4)))) i290 i360 x385 hx386 _ _ hs387) ?_)
            rintro _ K388 _ hK389 ⟨rfl, rfl⟩
            refine Ow_q rfl rfl rfl (Qt_neB rfl rfl rfl) ?_
            refine Ow_nil ?_
            refine Cw_cond rfl ?_ ?_
            · intro h390
              have h390 := nt_t (h390)
              have H := iff_ (btf h390) H
              refine Cw_seq ?_
              refine Cw_region ?_
              refine Ow_q rfl rfl rfl (Qt_assign rfl) ?_
              refine Ow_nil ?_
              refine Cw_ret ?_
              obtain ey0 := inj1 H
              subst y0
              refine ⟨(by first | exact .inl rfl | exact .inr rfl), [(.bool false)], ⟨(.bool false), _, rfl, rfl, rfl⟩, ?_⟩
              refine Shift.rem .here ?_
              refine Shift.done ?_
              exact ⟨rfl, rfl⟩
            · intro h390
              have h390 := nt_f (h390)
              have H := ift h390 H
              refine Cw_skip ?_
              refine Cw_region ?_
              refine Ow_q rfl rfl rfl (Qt_arith (e := wI (i360 + 1)) rfl rfl rfl rfl) ?_
              refine Ow_q rfl rfl rfl (Qt_move rfl) ?_
              refine Ow_nil ?_
              refine Shift.done ?_
              exact ⟨[(2, (.int .i64 p2)), (3, (.int .i64 p3)), (9, (.int .i64 (wI (1 + (wI (Int.tmod p1 4)))))), (10, (sv v141)), (11, (.int .i64 i290)), (29, (.int .i64 (x138.length : Int))), (30, (.int .i64 (wI (i360 + 1))))], ⟨rfl, rfl, rfl, rfl, rfl, rfl, rfl, trivial⟩, _, Nat.lt_succ_self _, (wI (i360 + 1)), rfl, rfl, (hkk366 ▸ H)⟩
          · intro h368
            have h368 := dcd_f (h368)
            have H := iff_ h368 H
            refine Cw_exit ?_
            refine Shift.done ?_
            exact ⟨[(2, (.int .i64 p2)), (3, (.int .i64 p3)), (9, (.int .i64 (wI (1 + (wI (Int.tmod p1 4)))))), (10, (sv v141)), (11, (.int .i64 i290))], ⟨rfl, rfl, rfl, rfl, rfl, trivial⟩, rfl, rfl, H⟩
        rintro _ K391 _ hK392 ⟨rfl, rfl, H⟩
        unfold M_law18_HappensBefore_J2 at H
        refine Cw_region ?_
        refine Ow_q rfl rfl rfl (Qt_move rfl) ?_
        refine Ow_q rfl rfl rfl (Qt_arith (e := wI (i290 + 3)) rfl rfl rfl rfl) ?_
        refine Ow_q rfl rfl rfl (Qt_assign rfl) ?_
        refine Ow_nil ?_
        refine Shift.done ?_
        exact ⟨[(2, (.int .i64 p2)), (3, (.int .i64 p3)), (9, (.int .i64 (wI (1 + (wI (Int.tmod p1 4)))))), (10, (sv v141)), (11, (.int .i64 (wI (i290 + 3))))], ⟨rfl, rfl, rfl, rfl, rfl, trivial⟩, _, Nat.lt_succ_self _, (wI (i290 + 3)), rfl, rfl, (hkk296 ▸ H)⟩
      · intro h300
        have h300 := dcd_f (h300)
        have H := iff_ h300 H
        refine Cw_exit ?_
        refine Shift.done ?_
        exact ⟨[(2, (.int .i64 p2)), (3, (.int .i64 p3)), (9, (.int .i64 (wI (1 + (wI (Int.tmod p1 4)))))), (10, (sv v141))], ⟨rfl, rfl, rfl, rfl, trivial⟩, rfl, rfl, H⟩
    rintro _ K393 _ hK394 ⟨rfl, rfl, H⟩
    unfold M_law18_HappensBefore_J1 at H
    refine Cw_seq ?_
    refine Cw_region ?_
    refine Ow_q rfl rfl rfl (Qt_move rfl) ?_
    refine Ow_q rfl rfl rfl (Qt_move rfl) ?_
    refine Ow_q rfl rfl rfl (Qt_move rfl) ?_
    refine Ow_q rfl rfl rfl (Qt_move rfl) ?_
    obtain ⟨x425, hx426, H⟩ := bnd H
    have hs427 := (hs144).mono hK394
    refine Ow_cons rfl (OpW_call rfl Try.call42 rfl rfl (c_M_happens_Before x138 v141 (wI (1 + (wI (Int.tmod p1 4)))) p2 p3 x425 hx426 _ _ hs427) ?_)
    rintro _ K428 _ hK429 ⟨rfl, rfl⟩
    refine Ow_q rfl rfl rfl (Qt_move rfl) ?_
    refine Ow_q rfl rfl rfl (Qt_move rfl) ?_
    refine Ow_q rfl rfl rfl (Qt_move rfl) ?_
    refine Ow_q rfl rfl rfl (Qt_move rfl) ?_
    obtain ⟨x430, hx431, H⟩ := bnd H
    have hs432 := (hs427).mono hK429
    refine Ow_cons rfl (OpW_call rfl Try.call43 rfl rfl (c_M_ref18_Before x138 v141 (wI (1 + (wI (Int.tmod p1 4)))) p2 p3 x430 hx431 _ _ hs432) ?_)
    rintro _ K433 _ hK434 ⟨rfl, rfl⟩
    refine Ow_q rfl rfl rfl (Qt_eqB rfl rfl rfl) ?_
    refine Ow_q rfl rfl rfl (Qt_move rfl) ?_
    refine Ow_caseG rfl rfl rfl ?_ ?_
    · intro h435
      have H := ift h435 H
      refine Ow_qw rfl rfl rfl rfl rfl rfl (Qt_move rfl) ?_
      refine Ow_qw rfl rfl rfl rfl rfl rfl (Qt_move rfl) ?_
      obtain ⟨x436, hx437, H⟩ := bnd H
      have hs438 := (hs432).mono hK434
      refine Ow_want rfl rfl rfl rfl (OpW_call rfl Try.call41 rfl rfl (c_M_happens_Races x138 v141 (wI (1 + (wI (Int.tmod p1 4)))) x436 hx437 _ _ hs438) ?_)
      rintro _ K440 _ hK441 ⟨v439, rfl, rfl, hs442⟩
      refine Ow_qw rfl rfl rfl rfl rfl rfl (Qt_move rfl) ?_
      refine Ow_qw rfl rfl rfl rfl rfl rfl (Qt_move rfl) ?_
      obtain ⟨x443, hx444, H⟩ := bnd H
      have hs445 := (hs438).mono hK441
      refine Ow_want rfl rfl rfl rfl (OpW_call rfl Try.call44 rfl rfl (c_M_ref18_Races x138 v141 (wI (1 + (wI (Int.tmod p1 4)))) x443 hx444 _ _ hs445) ?_)
      rintro _ K447 _ hK448 ⟨v446, rfl, rfl, hs449⟩
      obtain ⟨x450, hx451, H⟩ := bnd H
      have hs452 := (hs442).mono hK448
      refine Ow_want rfl rfl rfl rfl (OpW_call rfl Try.call31 rfl rfl (c_M_ref16_SameCalls x436 v439 x443 v446 x450 hx451 _ _ hs452 hs449) ?_)
      rintro _ K453 _ hK454 ⟨rfl, rfl⟩
      refine Ow_q rfl rfl rfl (Qt_pick_t rfl rfl) ?_
      refine Ow_q rfl rfl rfl (Qt_assign rfl) ?_
      refine Ow_nil ?_
      refine Cw_ret ?_
      obtain ey0 := inj1 H
      subst y0
      refine ⟨(by first | exact .inl rfl | exact .inr rfl), [(.bool x450)], ⟨(.bool x450), _, rfl, rfl, rfl⟩, ?_⟩
      refine Shift.rem .here ?_
      refine Shift.rem .here ?_
      refine Shift.rem .here ?_
      refine Shift.done ?_
      exact ⟨rfl, rfl⟩
    · intro h435
      have H := iff_ (btf h435) H
      refine Ow_pass rfl rfl rfl rfl rfl rfl rfl ?_
      refine Ow_pass rfl rfl rfl rfl rfl rfl rfl ?_
      refine Ow_pass rfl rfl rfl rfl rfl rfl rfl ?_
      refine Ow_pass rfl rfl rfl rfl rfl rfl rfl ?_
      refine Ow_pass rfl rfl rfl rfl rfl rfl rfl ?_
      refine Ow_pass rfl rfl rfl rfl rfl rfl rfl ?_
      refine Ow_pass rfl rfl rfl rfl rfl rfl rfl ?_
      refine Ow_q rfl rfl rfl (Qt_pick_f rfl rfl) ?_
      refine Ow_q rfl rfl rfl (Qt_assign rfl) ?_
      refine Ow_nil ?_
      refine Cw_ret ?_
      obtain ey0 := inj1 H
      subst y0
      refine ⟨(by first | exact .inl rfl | exact .inr rfl), [(.bool false)], ⟨(.bool false), _, rfl, rfl, rfl⟩, ?_⟩
      refine Shift.rem .here ?_
      refine Shift.done ?_
      exact ⟨rfl, rfl⟩


end Go.Hx
