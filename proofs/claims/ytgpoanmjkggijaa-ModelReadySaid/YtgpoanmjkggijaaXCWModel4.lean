/- Printed by program. -/
import Derived.Test.YtgpoanmjkggijaaXCM
import Derived.Test.YtgpoanmjkggijaaXCWModel
import Derived.Test.YtgpoanmjkggijaaXCWModel1
import Derived.Test.YtgpoanmjkggijaaXCWModel2
import Derived.Test.YtgpoanmjkggijaaXCWSlices2
namespace Go.Hx
open Go Go.Proofs
set_option linter.unusedSimpArgs false
set_option linter.unusedVariables false
set_option maxRecDepth 10000
set_option maxHeartbeats 1000000 in
theorem c_M_model_Same (p0 : List Chan) (vp0 : SV) (p1 : List Chan) (vp1 : SV) (y0 : Bool) (H : M_model_Same p0 p1 = some y0) (K : Kp) (G : List Ent) (hp0 : Slr TyChan K (sv vp0) p0) (hp1 : Slr TyChan K (sv vp1) p1) :
    Fc Try.prog 44 #[(sv vp0), (sv vp1)] K (G) (fun v K' G' => v = (.bool y0) ∧ G = G') := by
  refine Fc_body Try.func44 rfl Try.ntmps44 Try.results44 rfl ?_
  unfold M_model_Same at H
  refine Cw_seq ?_
  refine Cw_region ?_
  refine Ow_q rfl rfl rfl (Qt_assign rfl) ?_
  refine Ow_nil ?_
  refine Cw_seq ?_
  refine Cw_region ?_
  refine Ow_q rfl rfl rfl (Qt_move rfl) ?_
  refine Ow_q rfl rfl rfl (Qt_move rfl) ?_
  obtain ⟨x5, hx6, H⟩ := bnd H
  refine Ow_cons rfl (OpW_call rfl Try.call84 rfl rfl (c_M_slices_EqualFunc_api_Chan_api_Chan_api_Chan_api_Chan_2f85 p0 vp0 p1 vp1 x5 hx6 _ _ hp0 hp1) ?_)
  rintro _ K7 _ hK8 ⟨rfl, rfl⟩
  refine Ow_q rfl rfl rfl (Qt_assign rfl) ?_
  refine Ow_nil ?_
  refine Cw_ret ?_
  obtain ey0 := inj1 H
  subst y0
  refine ⟨(by first | exact .inl rfl | exact .inr rfl), [(.bool x5)], ⟨(.bool x5), _, rfl, rfl, rfl⟩, ?_⟩
  refine Shift.done ?_
  exact ⟨rfl, rfl⟩

set_option maxHeartbeats 1000000 in
theorem c_M_model_Could_1_freeblk29blk38blk41 (p0 : Result) (bp1 : Nat) (p1 : List Chan) (vp1 : SV) (bp2 : Nat) (p2 : Op) (vp2_cases : SV) (vp2_draws : SV) (bp3 : Nat) (p3 : List Result) (vp3 : SV) (z2_v : List Result) (H : M_model_Could_1_freeblk29blk38blk41 p0 p1 p2 p3 = some z2_v) (K : Kp) (G : List Ent) (hp1 : Slr TyChan K (sv vp1) p1) (hp2_cases : Slr TyCase K (sv vp2_cases) p2.cases) (hp2_draws : Slr Ty.i64 K (sv vp2_draws) p2.draws) (hp3 : Slr TyResult K (sv vp3) p3) :
    Fc Try.prog 79 #[(.agg (Result.cells p0).toArray), (.pointer (some ((⟨bp1, 0, none⟩ : Addr).add 0))), (.pointer (some ((⟨bp2, 0, none⟩ : Addr).add 0))), (.pointer (some ((⟨bp3, 0, none⟩ : Addr).add 0)))] K ((.blk bp1 29 [(sv vp1)]) :: (.blk bp2 38 (Op.cells p2 vp2_cases vp2_draws)) :: (.blk bp3 41 [(sv vp3)]) :: (.tok 25 5 [(sv vp3)]) :: G) (fun v K' G' => ∃ (wz2_v : SV), v = (.tuple #[]) ∧ (.blk bp1 29 [(sv vp1)]) :: (.blk bp2 38 (Op.cells p2 vp2_cases vp2_draws)) :: (.blk bp3 41 [(sv wz2_v)]) :: (.tok 25 5 [(sv wz2_v)]) :: G = G' ∧ Slr TyResult K' (sv wz2_v) z2_v) := by
  refine Fc_body Try.func79 rfl Try.ntmps79 Try.results79 rfl ?_
  unfold M_model_Could_1_freeblk29blk38blk41 at H
  refine Cw_seq ?_
  refine Cw_region ?_
  refine Ow_cons rfl (OpW_box (cs := (Result.cells p0)) rfl rfl rfl (fun b19 => ?_))
  refine Ow_nil ?_
  refine Cw_seq ?_
  refine Cw_region ?_
  refine Ow_q rfl rfl rfl (Qt_load1 (v := (sv vp1)) rfl rfl rfl (Rdc.blk (.tail _ (.head _)) rfl)) ?_
  refine Ow_q rfl rfl rfl (Qt_loadA (m := 7) (cs := (Op.cells p2 vp2_cases vp2_draws)) rfl rfl rfl rfl ⟨rfl, Rdc.blk (.tail _ (.tail _ (.head _))) rfl⟩) ?_
  refine Ow_q rfl rfl rfl (Qt_loadA (m := 5) (cs := (Result.cells p0)) rfl rfl rfl rfl ⟨rfl, Rdc.blk (.head _) rfl⟩) ?_
  obtain ⟨x20, x21, hx22, H⟩ := bnd2 H
  refine Ow_cons rfl (OpW_call rfl Try.call19 rfl rfl (c_M_model_Apply p1 vp1 p2 vp2_cases vp2_draws p0 x20 x21 hx22 _ _ hp1 hp2_cases hp2_draws) ?_)
  rintro _ K24 _ hK25 ⟨v23, rfl, rfl, hs26⟩
  refine Ow_q rfl rfl rfl (Qt_move rfl) ?_
  refine Ow_q rfl rfl rfl (Qt_extract rfl rfl) ?_
  refine Ow_q rfl rfl rfl (Qt_extract rfl rfl) ?_
  refine Ow_q rfl rfl rfl (Qt_assign rfl) ?_
  refine Ow_q rfl rfl rfl (Qt_assign rfl) ?_
  refine Ow_nil ?_
  refine Cw_seq ?_
  refine Cw_region ?_
  refine Ow_q rfl rfl rfl (Qt_move rfl) ?_
  refine Ow_nil ?_
  refine Cw_cond rfl ?_ ?_
  · intro h27
    have H := ift h27 H
    refine Cw_region ?_
    refine Ow_q rfl rfl rfl (Qt_load1 (v := (sv vp3)) rfl rfl rfl (Rdc.blk (.tail _ (.tail _ (.tail _ (.head _)))) rfl)) ?_
    refine Ow_q rfl rfl rfl (Qt_loadA (m := 5) (cs := (Result.cells p0)) rfl rfl rfl rfl ⟨rfl, Rdc.blk (.head _) rfl⟩) ?_
    have hR29 : RowR TyResult K24 [(Result.cells p0)] [p0] := RowR.cons rfl (RowR.nil)
    refine Ow_cons rfl (O_lit (T := TyResult) (rows := [(Result.cells p0)]) (l := [p0]) rfl rfl rfl hR29 rfl rfl rfl rfl rfl rfl rfl rfl (fun v28 => ?_))
    obtain ⟨x30, hx31, H⟩ := bnd H
    have hs36 := (hp3).mono hK25
    refine Ow_cons rfl (O_appTok (T := TyResult) (bytes := 40) (q := 0) rfl rfl rfl hs36 (.tail _ (.tail _ (.tail _ (.tail _ (.tail _ (.head _)))))) rfl (SrcT.row (.head _) hR29 rfl) hx31 rfl rfl rfl rfl rfl rfl rfl rfl (fun v32 K33 hK34 hs35 => ⟨_, (.there (.there (.there (.there (.there .here))))), ?_⟩))
    refine Ow.shift (Shift.rem .here (Shift.done ?_))
    refine Ow_cons rfl (OpW_store (vs := [(sv v32)]) (all' := [(sv v32)]) rfl rfl rfl rfl rfl (.there (.there (.there .here))) rfl rfl rfl ?_)
    refine Ow_nil ?_
    obtain ez2_v := inj1 H
    subst z2_v
    refine ⟨(by first | exact .inl rfl | exact .inr rfl), [], rfl, ?_⟩
    refine Shift.pull (.there (.there (.there (.there .here)))) ?_
    refine Shift.pull (.there (.there (.there (.there .here)))) ?_
    refine Shift.pull (.there (.there (.there (.there .here)))) ?_
    refine Shift.pull (.there (.there (.there (.there .here)))) ?_
    refine Shift.rem (.there (.there (.there (.there .here)))) ?_
    refine Shift.done ?_
    exact ⟨v32, rfl, rfl, hs35⟩
  · intro h27
    have H := iff_ (btf h27) H
    refine Cw_skip ?_
    obtain ez2_v := inj1 H
    subst z2_v
    refine ⟨(by first | exact .inl rfl | exact .inr rfl), [], rfl, ?_⟩
    refine Shift.pull (.there (.there (.there (.there .here)))) ?_
    refine Shift.pull (.there (.there (.there (.there .here)))) ?_
    refine Shift.pull (.there (.there (.there (.there .here)))) ?_
    refine Shift.pull (.there (.there (.there (.there .here)))) ?_
    refine Shift.rem (.there (.there (.there (.there .here)))) ?_
    have hs37 := (hp3).mono hK25
    refine Shift.done ?_
    exact ⟨vp3, rfl, rfl, hs37⟩

set_option maxHeartbeats 1000000 in
theorem c_M_model_Could (p0 : List Chan) (vp0 : SV) (p1 : Op) (vp1_cases : SV) (vp1_draws : SV) (y0 : List Result) (H : M_model_Could p0 p1 = some y0) (K : Kp) (G : List Ent) (hp0 : Slr TyChan K (sv vp0) p0) (hp1_cases : Slr TyCase K (sv vp1_cases) p1.cases) (hp1_draws : Slr Ty.i64 K (sv vp1_draws) p1.draws) :
    Fc Try.prog 34 #[(sv vp0), (.agg (Op.cells p1 vp1_cases vp1_draws).toArray)] K (G) (fun v K' G' => ∃ (wy0 : SV), v = (sv wy0) ∧ (.tok 25 5 [(sv wy0)]) :: G = G' ∧ Slr TyResult K' (sv wy0) y0) := by
  refine Fc_body Try.func34 rfl Try.ntmps34 Try.results34 rfl ?_
  unfold M_model_Could at H
  refine Cw_seq ?_
  refine Cw_region ?_
  refine Ow_cons rfl (OpW_box (cs := [(sv vp0)]) rfl rfl rfl (fun b200 => ?_))
  refine Ow_cons rfl (OpW_box (cs := (Op.cells p1 vp1_cases vp1_draws)) rfl rfl rfl (fun b201 => ?_))
  refine Ow_q rfl rfl rfl (Qt_assign rfl) ?_
  refine Ow_nil ?_
  refine Cw_seq ?_
  refine Cw_region ?_
  refine Ow_cons rfl (OpW_alloc (cs := [(sv nilS)]) rfl rfl rfl rfl (fun b202 => ?_))
  refine Ow_nil ?_
  refine Cw_seq ?_
  refine Cw_region ?_
  refine Ow_q rfl rfl rfl (Qt_makeFunc rfl rfl) ?_
  refine Ow_q rfl rfl rfl (Qt_assign rfl) ?_
  refine Ow_nil ?_
  refine Cw_seq ?_
  refine Cw_seq ?_
  refine Cw_region ?_
  refine Ow_q rfl rfl rfl (Qt_fieldAddr (m := 0) rfl rfl rfl rfl rfl) ?_
  refine Ow_q rfl rfl rfl (Qt_load1 (v := (.int .i64 p1.kind)) rfl rfl rfl (Rdc.blk (.tail _ (.head _)) rfl)) ?_
  refine Ow_q rfl rfl rfl (Qt_cmp rfl rfl rfl) ?_
  refine Ow_nil ?_
  refine Cw_cond rfl ?_ ?_
  · intro h219
    have h219 := dcd_t (h219)
    have H := ift h219 H
    refine Cw_seq ?_
    refine Cw_region ?_
    refine Ow_q rfl rfl rfl (Qt_move rfl) ?_
    refine Ow_q rfl rfl rfl (Qt_build (cs := (Result.cells (Result.mk 6 (-1) 0 false 0))) rfl rfl rfl rfl rfl rfl) ?_
    obtain ⟨x220, hx221, H⟩ := bnd H
    refine Ow.shift (Shift.nilTok1 25 5 (Shift.done ?_))
    refine Ow.shift (Shift.pull (.there .here) (Shift.done ?_))
    refine Ow.shift (Shift.pull (.there (.there .here)) (Shift.done ?_))
    refine Ow.shift (Shift.pull (.there (.there (.there .here))) (Shift.done ?_))
    refine Ow_cons rfl (OpW_call rfl Try.call79 rfl rfl (c_M_model_Could_1_freeblk29blk38blk41 (Result.mk 6 (-1) 0 false 0) b200 p0 vp0 b201 p1 vp1_cases vp1_draws b202 ([] : List Result) nilS x220 hx221 _ _ hp0 hp1_cases hp1_draws (Slr.nil TyResult _)) ?_)
    rintro _ K223 _ hK224 ⟨v222, rfl, rfl, hs225⟩
    refine Ow_nil ?_
    refine Cw_seq ?_
    refine Cw_region ?_
    refine Ow_q rfl rfl rfl (Qt_move rfl) ?_
    refine Ow_q rfl rfl rfl (Qt_build (cs := (Result.cells (Result.mk 5 (-1) 0 false 0))) rfl rfl rfl rfl rfl rfl) ?_
    obtain ⟨x226, hx227, H⟩ := bnd H
    refine Ow.shift (Shift.pull (.there (.there (.there .here))) (Shift.done ?_))
    refine Ow.shift (Shift.pull (.there (.there (.there .here))) (Shift.done ?_))
    refine Ow.shift (Shift.pull (.there (.there (.there .here))) (Shift.done ?_))
    refine Ow.shift (Shift.pull (.there (.there (.there .here))) (Shift.done ?_))
    have hs228 := (hp0).mono hK224
    have hs229 := (hp1_cases).mono hK224
    have hs230 := (hp1_draws).mono hK224
    refine Ow_cons rfl (OpW_call rfl Try.call79 rfl rfl (c_M_model_Could_1_freeblk29blk38blk41 (Result.mk 5 (-1) 0 false 0) b200 p0 vp0 b201 p1 vp1_cases vp1_draws b202 x220 v222 x226 hx227 _ _ hs228 hs229 hs230 hs225) ?_)
    rintro _ K232 _ hK233 ⟨v231, rfl, rfl, hs234⟩
    refine Ow_nil ?_
    refine Cw_seq ?_
    refine Cw_region ?_
    refine Ow_q rfl rfl rfl (Qt_load1 (v := (sv v231)) rfl rfl rfl (Rdc.blk (.tail _ (.tail _ (.head _))) rfl)) ?_
    refine Ow_q rfl rfl rfl (Qt_assign rfl) ?_
    refine Ow_nil ?_
    refine Cw_ret ?_
    obtain ey0 := inj1 H
    subst y0
    refine ⟨(by first | exact .inl rfl | exact .inr rfl), [(sv v231)], ⟨(sv v231), _, rfl, rfl, rfl⟩, ?_⟩
    refine Shift.pull (.there (.there (.there .here))) ?_
    refine Shift.rem (.there .here) ?_
    refine Shift.rem (.there .here) ?_
    refine Shift.rem (.there .here) ?_
    refine Shift.done ?_
    exact ⟨v231, rfl, rfl, hs234⟩
  · intro h219
    have h219 := dcd_f (h219)
    have H := iff_ h219 H
    refine Cw_skip ?_
    refine Cw_join (fun env' K' G' => ∃ (v379 : SV) (l380 : List Result), [(5, (.pointer (some ((⟨b202, 0, none⟩ : Addr).add 0))))] = env' ∧ (.blk b202 41 [(sv v379)]) :: (.tok 25 5 [(sv v379)]) :: G = G' ∧ M_model_Could_J1 l380 = some y0 ∧ Slr TyResult K' (sv v379) l380) ?_ ?_
    · skip
      refine Cw_seq ?_
      refine Cw_region ?_
      refine Ow_q rfl rfl rfl (Qt_loadA (m := 7) (cs := (Op.cells p1 vp1_cases vp1_draws)) rfl rfl rfl rfl ⟨rfl, Rdc.blk (.tail _ (.head _)) rfl⟩) ?_
      obtain ⟨x382, hx383, H⟩ := bnd H
      refine Ow_cons rfl (OpW_call rfl Try.call60 rfl rfl (c_M_model_all p1 vp1_cases vp1_draws x382 hx383 _ _ hp1_cases hp1_draws) ?_)
      rintro _ K385 _ hK386 ⟨v384, rfl, rfl, hs387⟩
      refine Ow_q rfl rfl rfl (Q_len (T := TyCase) hs387 rfl rfl) ?_
      refine Ow_q rfl rfl rfl (Qt_move rfl) ?_
      refine Ow_nil ?_
      refine Cw_block ?_
      refine Cw_loopM (fun n526 env' K' G' => ∃ (i522 : Int) (v523 : SV) (l524 : List Result), [(2, (.pointer (some ((⟨b200, 0, none⟩ : Addr).add 0)))), (3, (.pointer (some ((⟨b201, 0, none⟩ : Addr).add 0)))), (5, (.pointer (some ((⟨b202, 0, none⟩ : Addr).add 0)))), (6, (.func (.func 79) #[] #[(.pointer (some ((⟨b200, 0, none⟩ : Addr).add 0))), (.pointer (some ((⟨b201, 0, none⟩ : Addr).add 0))), (.pointer (some ((⟨b202, 0, none⟩ : Addr).add 0)))])), (23, (sv v384)), (24, (.int .i64 (x382.length : Int))), (25, (.int .i64 i522))] = env' ∧ (.blk b202 41 [(sv v523)]) :: (.blk b201 38 (Op.cells p1 vp1_cases vp1_draws)) :: (.blk b200 29 [(sv vp0)]) :: (.tok 25 5 [(sv v523)]) :: G = G' ∧ lp2 (M_model_Could_L1 x382 p1 p0) n526 i522 l524 = some y0 ∧ Slr TyResult K' (sv v523) l524) BIG ?_ ?_
      · skip
        refine Shift.nilTok1 25 5 ?_
        refine Shift.pull (.there (.there (.there .here))) ?_
        refine Shift.pull (.there (.there (.there .here))) ?_
        refine Shift.pull (.there (.there (.there .here))) ?_
        refine Shift.done ?_
        exact ⟨[(2, (.pointer (some ((⟨b200, 0, none⟩ : Addr).add 0)))), (3, (.pointer (some ((⟨b201, 0, none⟩ : Addr).add 0)))), (5, (.pointer (some ((⟨b202, 0, none⟩ : Addr).add 0)))), (6, (.func (.func 79) #[] #[(.pointer (some ((⟨b200, 0, none⟩ : Addr).add 0))), (.pointer (some ((⟨b201, 0, none⟩ : Addr).add 0))), (.pointer (some ((⟨b202, 0, none⟩ : Addr).add 0)))])), (23, (sv v384)), (24, (.int .i64 (x382.length : Int))), (25, (.int .i64 0))], ⟨rfl, rfl, rfl, rfl, rfl, rfl, rfl, trivial⟩, 0, nilS, ([] : List Result), rfl, rfl, H, (Slr.nil TyResult _)⟩
      rintro n526 _ K527 _ hK528 ⟨i522, v523, l524, rfl, rfl, H, hs525⟩
      obtain ⟨m529, k530, rfl, hkk531, H⟩ := lps2 H
      unfold M_model_Could_L1 at H
      refine Cw_seq ?_
      refine Cw_region ?_
      refine Ow_q rfl rfl rfl (Qt_cmp rfl rfl rfl) ?_
      refine Ow_nil ?_
      refine Cw_seq ?_
      refine Cw_cond rfl ?_ ?_
      · intro h533
        have h533 := dcd_t (h533)
        have H := ift h533 H
        refine Cw_skip ?_
        refine Cw_seq ?_
        refine Cw_block ?_
        refine Cw_seq ?_
        refine Cw_region ?_
        refine Ow_q rfl rfl rfl (Qt_move rfl) ?_
        obtain ⟨x596, hx597, H⟩ := bnd H
        have hs598 := (hs387).mono hK528
        obtain ⟨r599, hr600, hk601⟩ := Slr.at hs598 hx597
        obtain rfl := hr600
        refine Ow_q rfl rfl rfl (Q_ix (T := TyCase) hs598 hx597 rfl rfl rfl rfl rfl) ?_
        refine Ow_q rfl rfl rfl (Qt_loadA (m := 3) (cs := (Case.cells x596)) rfl rfl rfl rfl ⟨rfl, Rdc.k hk601 rfl⟩) ?_
        refine Ow_cons rfl (OpW_alloc (cs := (Case.cells (Case.mk false 0 0))) rfl rfl rfl rfl (fun b602 => ?_))
        refine Ow_q rfl rfl rfl (Qt_assign rfl) ?_
        refine Ow_cons rfl (OpW_store (vs := (Case.cells x596)) (all' := (Case.cells x596)) rfl rfl rfl rfl rfl .here rfl rfl rfl ?_)
        refine Ow_nil ?_
        refine Cw_join (fun env' K' G' => ∃ (i604 : Int), [(2, (.pointer (some ((⟨b200, 0, none⟩ : Addr).add 0)))), (3, (.pointer (some ((⟨b201, 0, none⟩ : Addr).add 0)))), (5, (.pointer (some ((⟨b202, 0, none⟩ : Addr).add 0)))), (6, (.func (.func 79) #[] #[(.pointer (some ((⟨b200, 0, none⟩ : Addr).add 0))), (.pointer (some ((⟨b201, 0, none⟩ : Addr).add 0))), (.pointer (some ((⟨b202, 0, none⟩ : Addr).add 0)))])), (7, (.int .i64 i604)), (8, (.pointer (some ((⟨b602, 0, none⟩ : Addr).add 0)))), (23, (sv v384)), (24, (.int .i64 (x382.length : Int))), (25, (.int .i64 i522))] = env' ∧ K527 = K' ∧ (.blk b602 73 (Case.cells x596)) :: (.blk b202 41 [(sv v523)]) :: (.blk b201 38 (Op.cells p1 vp1_cases vp1_draws)) :: (.blk b200 29 [(sv vp0)]) :: (.tok 25 5 [(sv v523)]) :: G = G' ∧ M_model_Could_J2 x382 i522 x596 l524 p1 p0 k530 i604 = some y0) ?_ ?_
        · skip
          refine Cw_seq ?_
          refine Cw_region ?_
          refine Ow_q rfl rfl rfl (Qt_fieldAddr (m := 0) rfl rfl rfl rfl rfl) ?_
          refine Ow_q rfl rfl rfl (Qt_load1 (v := (.int .i64 p1.kind)) rfl rfl rfl (Rdc.blk (.tail _ (.tail _ (.head _))) rfl)) ?_
          refine Ow_q rfl rfl rfl (Qt_cmp rfl rfl rfl) ?_
          refine Ow_nil ?_
          refine Cw_cond rfl ?_ ?_
          · intro h605
            have h605 := dcd_f (nt_t (h605))
            have H := iff_ h605 H
            refine Cw_region ?_
            refine Ow_q rfl rfl rfl (Qt_assign rfl) ?_
            refine Ow_nil ?_
            refine Shift.pull (.there (.there (.there (.there .here)))) ?_
            refine Shift.pull (.there (.there (.there (.there .here)))) ?_
            refine Shift.pull (.there (.there (.there (.there .here)))) ?_
            refine Shift.pull (.there (.there (.there (.there .here)))) ?_
            refine Shift.pull (.there (.there (.there (.there .here)))) ?_
            refine Shift.done ?_
            exact ⟨[(2, (.pointer (some ((⟨b200, 0, none⟩ : Addr).add 0)))), (3, (.pointer (some ((⟨b201, 0, none⟩ : Addr).add 0)))), (5, (.pointer (some ((⟨b202, 0, none⟩ : Addr).add 0)))), (6, (.func (.func 79) #[] #[(.pointer (some ((⟨b200, 0, none⟩ : Addr).add 0))), (.pointer (some ((⟨b201, 0, none⟩ : Addr).add 0))), (.pointer (some ((⟨b202, 0, none⟩ : Addr).add 0)))])), (7, (.int .i64 (-1))), (8, (.pointer (some ((⟨b602, 0, none⟩ : Addr).add 0)))), (23, (sv v384)), (24, (.int .i64 (x382.length : Int))), (25, (.int .i64 i522))], ⟨rfl, rfl, rfl, rfl, rfl, rfl, rfl, rfl, rfl, trivial⟩, (-1), rfl, rfl, rfl, H⟩
          · intro h605
            have h605 := dcd_t (nt_f (h605))
            have H := ift h605 H
            refine Cw_skip ?_
            refine Shift.pull (.there (.there (.there (.there .here)))) ?_
            refine Shift.pull (.there (.there (.there (.there .here)))) ?_
            refine Shift.pull (.there (.there (.there (.there .here)))) ?_
            refine Shift.pull (.there (.there (.there (.there .here)))) ?_
            refine Shift.pull (.there (.there (.there (.there .here)))) ?_
            refine Shift.done ?_
            exact ⟨[(2, (.pointer (some ((⟨b200, 0, none⟩ : Addr).add 0)))), (3, (.pointer (some ((⟨b201, 0, none⟩ : Addr).add 0)))), (5, (.pointer (some ((⟨b202, 0, none⟩ : Addr).add 0)))), (6, (.func (.func 79) #[] #[(.pointer (some ((⟨b200, 0, none⟩ : Addr).add 0))), (.pointer (some ((⟨b201, 0, none⟩ : Addr).add 0))), (.pointer (some ((⟨b202, 0, none⟩ : Addr).add 0)))])), (7, (.int .i64 i522)), (8, (.pointer (some ((⟨b602, 0, none⟩ : Addr).add 0)))), (23, (sv v384)), (24, (.int .i64 (x382.length : Int))), (25, (.int .i64 i522))], ⟨rfl, rfl, rfl, rfl, rfl, rfl, rfl, rfl, rfl, trivial⟩, i522, rfl, rfl, rfl, H⟩
        rintro _ _ _ - ⟨i604, rfl, rfl, rfl, H⟩
        unfold M_model_Could_J2 at H
        refine Cw_seq ?_
        refine Cw_region ?_
        refine Ow_q rfl rfl rfl (Qt_move rfl) ?_
        refine Ow_q rfl rfl rfl (Qt_move rfl) ?_
        refine Ow_q rfl rfl rfl (Qt_build (cs := (Result.cells (Result.mk 5 i604 0 false 0))) rfl rfl rfl rfl rfl rfl) ?_
        obtain ⟨x606, hx607, H⟩ := bnd H
        refine Ow.shift (Shift.pull (.there (.there (.there (.there .here)))) (Shift.done ?_))
        refine Ow.shift (Shift.pull (.there (.there .here)) (Shift.done ?_))
        refine Ow.shift (Shift.pull (.there (.there (.there .here))) (Shift.done ?_))
        refine Ow.shift (Shift.pull (.there (.there (.there (.there .here)))) (Shift.done ?_))
        have hs608 := ((hp0).mono hK386).mono hK528
        have hs609 := ((hp1_cases).mono hK386).mono hK528
        have hs610 := ((hp1_draws).mono hK386).mono hK528
        refine Ow_cons rfl (OpW_call rfl Try.call79 rfl rfl (c_M_model_Could_1_freeblk29blk38blk41 (Result.mk 5 i604 0 false 0) b200 p0 vp0 b201 p1 vp1_cases vp1_draws b202 l524 v523 x606 hx607 _ _ hs608 hs609 hs610 hs525) ?_)
        rintro _ K612 _ hK613 ⟨v611, rfl, rfl, hs614⟩
        refine Ow_nil ?_
        refine Cw_seq ?_
        refine Cw_region ?_
        refine Ow_q rfl rfl rfl (Qt_move rfl) ?_
        refine Ow_q rfl rfl rfl (Qt_move rfl) ?_
        refine Ow_q rfl rfl rfl (Qt_build (cs := (Result.cells (Result.mk 1 i604 0 false 0))) rfl rfl rfl rfl rfl rfl) ?_
        obtain ⟨x615, hx616, H⟩ := bnd H
        refine Ow.shift (Shift.pull (.there (.there (.there .here))) (Shift.done ?_))
        refine Ow.shift (Shift.pull (.there (.there (.there .here))) (Shift.done ?_))
        refine Ow.shift (Shift.pull (.there (.there (.there .here))) (Shift.done ?_))
        refine Ow.shift (Shift.pull (.there (.there (.there .here))) (Shift.done ?_))
        have hs617 := (hs608).mono hK613
        have hs618 := (hs609).mono hK613
        have hs619 := (hs610).mono hK613
        refine Ow_cons rfl (OpW_call rfl Try.call79 rfl rfl (c_M_model_Could_1_freeblk29blk38blk41 (Result.mk 1 i604 0 false 0) b200 p0 vp0 b201 p1 vp1_cases vp1_draws b202 x606 v611 x615 hx616 _ _ hs617 hs618 hs619 hs614) ?_)
        rintro _ K621 _ hK622 ⟨v620, rfl, rfl, hs623⟩
        refine Ow_nil ?_
        refine Cw_join (fun env' K' G' => ∃ (v645 : SV) (l646 : List Result), [(2, (.pointer (some ((⟨b200, 0, none⟩ : Addr).add 0)))), (3, (.pointer (some ((⟨b201, 0, none⟩ : Addr).add 0)))), (5, (.pointer (some ((⟨b202, 0, none⟩ : Addr).add 0)))), (6, (.func (.func 79) #[] #[(.pointer (some ((⟨b200, 0, none⟩ : Addr).add 0))), (.pointer (some ((⟨b201, 0, none⟩ : Addr).add 0))), (.pointer (some ((⟨b202, 0, none⟩ : Addr).add 0)))])), (7, (.int .i64 i604)), (23, (sv v384)), (24, (.int .i64 (x382.length : Int))), (25, (.int .i64 i522))] = env' ∧ (.blk b202 41 [(sv v645)]) :: (.blk b201 38 (Op.cells p1 vp1_cases vp1_draws)) :: (.blk b200 29 [(sv vp0)]) :: (.tok 25 5 [(sv v645)]) :: G = G' ∧ M_model_Could_J3 i604 x382 i522 p1 p0 k530 l646 = some y0 ∧ Slr TyResult K' (sv v645) l646) ?_ ?_
        · skip
          refine Cw_seq ?_
          refine Cw_region ?_
          refine Ow_q rfl rfl rfl (Qt_load1 (v := (sv vp0)) rfl rfl rfl (Rdc.blk (.head _) rfl)) ?_
          refine Ow_q rfl rfl rfl (Qt_fieldAddr (m := 1) rfl rfl rfl rfl rfl) ?_
          refine Ow_q rfl rfl rfl (Qt_load1 (v := (.int .i64 x596.channel)) rfl rfl rfl (Rdc.blk (.tail _ (.tail _ (.tail _ (.tail _ (.head _))))) rfl)) ?_
          obtain ⟨x648, x649, hx650, H⟩ := bnd2 H
          have hs651 := (hs617).mono hK622
          refine Ow_cons rfl (OpW_call rfl Try.call55 rfl rfl (c_M_model_find p0 vp0 x596.channel x648 x649 hx650 _ _ hs651) ?_)
          rintro _ _ _ - ⟨v652, rfl, rfl, rfl, hs653⟩
          refine Ow_q rfl rfl rfl (Qt_move rfl) ?_
          refine Ow_q rfl rfl rfl (Qt_extract rfl rfl) ?_
          refine Ow_q rfl rfl rfl (Qt_extract rfl rfl) ?_
          refine Ow_cons rfl (OpW_alloc (cs := (Chan.cells (Chan.mk 0 [] false) nilS)) rfl rfl rfl rfl (fun b654 => ?_))
          refine Ow_cons rfl (OpW_store (vs := (Chan.cells x648 v652)) (all' := (Chan.cells x648 v652)) rfl rfl rfl rfl rfl .here rfl rfl rfl ?_)
          refine Ow_q rfl rfl rfl (Qt_assign rfl) ?_
          refine Ow_nil ?_
          refine Cw_seq ?_
          refine Cw_region ?_
          refine Ow_q rfl rfl rfl (Qt_fieldAddr (m := 1) rfl rfl rfl rfl rfl) ?_
          refine Ow_q rfl rfl rfl (Qt_load1 (v := (sv v652)) rfl rfl rfl (Rdc.blk (.head _) rfl)) ?_
          refine Ow_q rfl rfl rfl (Q_len (T := Ty.u64) hs653 rfl rfl) ?_
          refine Ow_q rfl rfl rfl (Qt_cmp rfl rfl rfl) ?_
          refine Ow_nil ?_
          refine Cw_cond rfl ?_ ?_
          · intro h655
            have h655 := dcd_t (h655)
            have H := ift h655 H
            refine Cw_region ?_
            refine Ow_q rfl rfl rfl (Qt_move rfl) ?_
            refine Ow_q rfl rfl rfl (Qt_move rfl) ?_
            refine Ow_q rfl rfl rfl (Qt_fieldAddr (m := 1) rfl rfl rfl rfl rfl) ?_
            refine Ow_q rfl rfl rfl (Qt_load1 (v := (sv v652)) rfl rfl rfl (Rdc.blk (.head _) rfl)) ?_
            obtain ⟨x656, hx657, H⟩ := bnd H
            obtain ⟨r658, hr659, hk660⟩ := Slr.at hs653 hx657
            obtain rfl := hr659
            refine Ow_q rfl rfl rfl (Q_ix (T := Ty.u64) hs653 hx657 rfl rfl rfl rfl rfl) ?_
            refine Ow_q rfl rfl rfl (Qt_load1 (v := (.int .u64 x656)) rfl rfl rfl (Rdc.k hk660 rfl)) ?_
            refine Ow_q rfl rfl rfl (Qt_build (cs := (Result.cells (Result.mk 2 i604 x656 true 0))) rfl rfl rfl rfl rfl rfl) ?_
            obtain ⟨x661, hx662, H⟩ := bnd H
            refine Ow.shift (Shift.pull (.there (.there (.there (.there .here)))) (Shift.done ?_))
            refine Ow.shift (Shift.pull (.there (.there (.there (.there .here)))) (Shift.done ?_))
            refine Ow.shift (Shift.pull (.there (.there (.there (.there .here)))) (Shift.done ?_))
            refine Ow.shift (Shift.pull (.there (.there (.there (.there .here)))) (Shift.done ?_))
            have hs663 := (hs618).mono hK622
            have hs664 := (hs619).mono hK622
            refine Ow_cons rfl (OpW_call rfl Try.call79 rfl rfl (c_M_model_Could_1_freeblk29blk38blk41 (Result.mk 2 i604 x656 true 0) b200 p0 vp0 b201 p1 vp1_cases vp1_draws b202 x615 v620 x661 hx662 _ _ hs651 hs663 hs664 hs623) ?_)
            rintro _ K666 _ hK667 ⟨v665, rfl, rfl, hs668⟩
            refine Ow_nil ?_
            refine Shift.pull (.there (.there (.there .here))) ?_
            refine Shift.pull (.there .here) ?_
            refine Shift.pull (.there (.there .here)) ?_
            refine Shift.pull (.there (.there (.there .here))) ?_
            refine Shift.rem (.there (.there (.there (.there .here)))) ?_
            refine Shift.rem (.there (.there (.there (.there .here)))) ?_
            refine Shift.done ?_
            exact ⟨[(2, (.pointer (some ((⟨b200, 0, none⟩ : Addr).add 0)))), (3, (.pointer (some ((⟨b201, 0, none⟩ : Addr).add 0)))), (5, (.pointer (some ((⟨b202, 0, none⟩ : Addr).add 0)))), (6, (.func (.func 79) #[] #[(.pointer (some ((⟨b200, 0, none⟩ : Addr).add 0))), (.pointer (some ((⟨b201, 0, none⟩ : Addr).add 0))), (.pointer (some ((⟨b202, 0, none⟩ : Addr).add 0)))])), (7, (.int .i64 i604)), (23, (sv v384)), (24, (.int .i64 (x382.length : Int))), (25, (.int .i64 i522))], ⟨rfl, rfl, rfl, rfl, rfl, rfl, rfl, rfl, trivial⟩, v665, x661, rfl, rfl, H, hs668⟩
          · intro h655
            have h655 := dcd_f (h655)
            have H := iff_ h655 H
            refine Cw_skip ?_
            refine Shift.pull (.there (.there (.there (.there .here)))) ?_
            refine Shift.pull (.there (.there .here)) ?_
            refine Shift.pull (.there (.there (.there .here))) ?_
            refine Shift.pull (.there (.there (.there (.there .here)))) ?_
            refine Shift.rem (.there (.there (.there (.there .here)))) ?_
            refine Shift.rem (.there (.there (.there (.there .here)))) ?_
            refine Shift.done ?_
            exact ⟨[(2, (.pointer (some ((⟨b200, 0, none⟩ : Addr).add 0)))), (3, (.pointer (some ((⟨b201, 0, none⟩ : Addr).add 0)))), (5, (.pointer (some ((⟨b202, 0, none⟩ : Addr).add 0)))), (6, (.func (.func 79) #[] #[(.pointer (some ((⟨b200, 0, none⟩ : Addr).add 0))), (.pointer (some ((⟨b201, 0, none⟩ : Addr).add 0))), (.pointer (some ((⟨b202, 0, none⟩ : Addr).add 0)))])), (7, (.int .i64 i604)), (23, (sv v384)), (24, (.int .i64 (x382.length : Int))), (25, (.int .i64 i522))], ⟨rfl, rfl, rfl, rfl, rfl, rfl, rfl, rfl, trivial⟩, v620, x615, rfl, rfl, H, hs623⟩
        rintro _ K669 _ hK670 ⟨v645, l646, rfl, rfl, H, hs647⟩
        unfold M_model_Could_J3 at H
        refine Cw_region ?_
        refine Ow_q rfl rfl rfl (Qt_move rfl) ?_
        refine Ow_q rfl rfl rfl (Qt_move rfl) ?_
        refine Ow_q rfl rfl rfl (Qt_build (cs := (Result.cells (Result.mk 2 i604 0 false 0))) rfl rfl rfl rfl rfl rfl) ?_
        obtain ⟨x671, hx672, H⟩ := bnd H
        refine Ow.shift (Shift.pull (.there (.there (.there .here))) (Shift.done ?_))
        refine Ow.shift (Shift.pull (.there .here) (Shift.done ?_))
        refine Ow.shift (Shift.pull (.there (.there .here)) (Shift.done ?_))
        refine Ow.shift (Shift.pull (.there (.there (.there .here))) (Shift.done ?_))
        have hs673 := ((hs617).mono hK622).mono hK670
        have hs674 := ((hs618).mono hK622).mono hK670
        have hs675 := ((hs619).mono hK622).mono hK670
        refine Ow_cons rfl (OpW_call rfl Try.call79 rfl rfl (c_M_model_Could_1_freeblk29blk38blk41 (Result.mk 2 i604 0 false 0) b200 p0 vp0 b201 p1 vp1_cases vp1_draws b202 l646 v645 x671 hx672 _ _ hs673 hs674 hs675 hs647) ?_)
        rintro _ K677 _ hK678 ⟨v676, rfl, rfl, hs679⟩
        refine Ow_nil ?_
        refine Cw_region ?_
        refine Ow_q rfl rfl rfl (Qt_arith (e := wI (i522 + 1)) rfl rfl rfl rfl) ?_
        refine Ow_q rfl rfl rfl (Qt_move rfl) ?_
        refine Ow_nil ?_
        refine Shift.pull (.there (.there (.there .here))) ?_
        refine Shift.pull (.there .here) ?_
        refine Shift.pull (.there (.there .here)) ?_
        refine Shift.pull (.there (.there (.there .here))) ?_
        refine Shift.done ?_
        exact ⟨[(2, (.pointer (some ((⟨b200, 0, none⟩ : Addr).add 0)))), (3, (.pointer (some ((⟨b201, 0, none⟩ : Addr).add 0)))), (5, (.pointer (some ((⟨b202, 0, none⟩ : Addr).add 0)))), (6, (.func (.func 79) #[] #[(.pointer (some ((⟨b200, 0, none⟩ : Addr).add 0))), (.pointer (some ((⟨b201, 0, none⟩ : Addr).add 0))), (.pointer (some ((⟨b202, 0, none⟩ : Addr).add 0)))])), (23, (sv v384)), (24, (.int .i64 (x382.length : Int))), (25, (.int .i64 (wI (i522 + 1))))], ⟨rfl, rfl, rfl, rfl, rfl, rfl, rfl, trivial⟩, _, Nat.lt_succ_self _, (wI (i522 + 1)), v676, x671, rfl, rfl, (hkk531 ▸ H), hs679⟩
      · intro h533
        have h533 := dcd_f (h533)
        have H := iff_ h533 H
        refine Cw_exit ?_
        refine Shift.pull (.there (.there (.there .here))) ?_
        refine Shift.pull (.there .here) ?_
        refine Shift.rem (.there (.there .here)) ?_
        refine Shift.rem (.there (.there .here)) ?_
        refine Shift.done ?_
        exact ⟨[(5, (.pointer (some ((⟨b202, 0, none⟩ : Addr).add 0))))], ⟨rfl, trivial⟩, v523, l524, rfl, rfl, H, hs525⟩
    rintro _ K680 _ hK681 ⟨v379, l380, rfl, rfl, H, hs381⟩
    unfold M_model_Could_J1 at H
    refine Cw_seq ?_
    refine Cw_region ?_
    refine Ow_q rfl rfl rfl (Qt_load1 (v := (sv v379)) rfl rfl rfl (Rdc.blk (.head _) rfl)) ?_
    refine Ow_q rfl rfl rfl (Qt_assign rfl) ?_
    refine Ow_nil ?_
    refine Cw_ret ?_
    obtain ey0 := inj1 H
    subst y0
    refine ⟨(by first | exact .inl rfl | exact .inr rfl), [(sv v379)], ⟨(sv v379), _, rfl, rfl, rfl⟩, ?_⟩
    refine Shift.pull (.there .here) ?_
    refine Shift.rem (.there .here) ?_
    refine Shift.done ?_
    exact ⟨v379, rfl, rfl, hs381⟩

set_option maxHeartbeats 1000000 in
theorem c_M_model_Meets (p0 : List Chan) (vp0 : SV) (p1 : Op) (vp1_cases : SV) (vp1_draws : SV) (p2 : Op) (vp2_cases : SV) (vp2_draws : SV) (y0 : Bool) (H : M_model_Meets p0 p1 p2 = some y0) (K : Kp) (G : List Ent) (hp0 : Slr TyChan K (sv vp0) p0) (hp1_cases : Slr TyCase K (sv vp1_cases) p1.cases) (hp1_draws : Slr Ty.i64 K (sv vp1_draws) p1.draws) (hp2_cases : Slr TyCase K (sv vp2_cases) p2.cases) (hp2_draws : Slr Ty.i64 K (sv vp2_draws) p2.draws) :
    Fc Try.prog 47 #[(sv vp0), (.agg (Op.cells p1 vp1_cases vp1_draws).toArray), (.agg (Op.cells p2 vp2_cases vp2_draws).toArray)] K (G) (fun v K' G' => v = (.bool y0) ∧ G = G') := by
  refine Fc_body Try.func47 rfl Try.ntmps47 Try.results47 rfl ?_
  unfold M_model_Meets at H
  refine Cw_seq ?_
  refine Cw_region ?_
  refine Ow_cons rfl (OpW_box (cs := (Op.cells p1 vp1_cases vp1_draws)) rfl rfl rfl (fun b196 => ?_))
  refine Ow_cons rfl (OpW_box (cs := (Op.cells p2 vp2_cases vp2_draws)) rfl rfl rfl (fun b197 => ?_))
  refine Ow_q rfl rfl rfl (Qt_assign rfl) ?_
  refine Ow_nil ?_
  refine Cw_join (fun env' K' G' => [] = env' ∧ G = G' ∧ M_model_Meets_J1 = some y0) ?_ ?_
  · skip
    refine Cw_seq ?_
    refine Cw_region ?_
    refine Ow_q rfl rfl rfl (Qt_loadA (m := 7) (cs := (Op.cells p1 vp1_cases vp1_draws)) rfl rfl rfl rfl ⟨rfl, Rdc.blk (.tail _ (.head _)) rfl⟩) ?_
    obtain ⟨x342, hx343, H⟩ := bnd H
    refine Ow_cons rfl (OpW_call rfl Try.call60 rfl rfl (c_M_model_all p1 vp1_cases vp1_draws x342 hx343 _ _ hp1_cases hp1_draws) ?_)
    rintro _ K345 _ hK346 ⟨v344, rfl, rfl, hs347⟩
    refine Ow_q rfl rfl rfl (Q_len (T := TyCase) hs347 rfl rfl) ?_
    refine Ow_q rfl rfl rfl (Qt_move rfl) ?_
    refine Ow_nil ?_
    refine Cw_block ?_
    refine Cw_loopM (fun n486 env' K' G' => ∃ (i485 : Int), [(0, (sv vp0)), (5, (.pointer (some ((⟨b197, 0, none⟩ : Addr).add 0)))), (14, (sv v344)), (15, (.int .i64 (x342.length : Int))), (16, (.int .i64 i485))] = env' ∧ (.blk b197 38 (Op.cells p2 vp2_cases vp2_draws)) :: G = G' ∧ lp1 (M_model_Meets_L1 p0 x342 p2) n486 i485 = some y0) BIG ?_ ?_
    · skip
      refine Shift.rem (.there .here) ?_
      refine Shift.done ?_
      exact ⟨[(0, (sv vp0)), (5, (.pointer (some ((⟨b197, 0, none⟩ : Addr).add 0)))), (14, (sv v344)), (15, (.int .i64 (x342.length : Int))), (16, (.int .i64 0))], ⟨rfl, rfl, rfl, rfl, rfl, trivial⟩, 0, rfl, rfl, H⟩
    rintro n486 _ K487 _ hK488 ⟨i485, rfl, rfl, H⟩
    obtain ⟨m489, k490, rfl, hkk491, H⟩ := lps1 H
    unfold M_model_Meets_L1 at H
    refine Cw_seq ?_
    refine Cw_region ?_
    refine Ow_q rfl rfl rfl (Qt_cmp rfl rfl rfl) ?_
    refine Ow_nil ?_
    refine Cw_seq ?_
    refine Cw_cond rfl ?_ ?_
    · intro h493
      have h493 := dcd_t (h493)
      have H := ift h493 H
      refine Cw_skip ?_
      refine Cw_join (fun env' K' G' => [(0, (sv vp0)), (5, (.pointer (some ((⟨b197, 0, none⟩ : Addr).add 0)))), (14, (sv v344)), (15, (.int .i64 (x342.length : Int))), (16, (.int .i64 i485))] = env' ∧ (.blk b197 38 (Op.cells p2 vp2_cases vp2_draws)) :: G = G' ∧ M_model_Meets_J2 p0 x342 i485 p2 k490 = some y0) ?_ ?_
      · skip
        refine Cw_block ?_
        refine Cw_seq ?_
        refine Cw_region ?_
        obtain ⟨x557, hx558, H⟩ := bnd H
        have hs559 := (hs347).mono hK488
        obtain ⟨r560, hr561, hk562⟩ := Slr.at hs559 hx558
        obtain rfl := hr561
        refine Ow_q rfl rfl rfl (Q_ix (T := TyCase) hs559 hx558 rfl rfl rfl rfl rfl) ?_
        refine Ow_q rfl rfl rfl (Qt_loadA (m := 3) (cs := (Case.cells x557)) rfl rfl rfl rfl ⟨rfl, Rdc.k hk562 rfl⟩) ?_
        refine Ow_cons rfl (OpW_alloc (cs := (Case.cells (Case.mk false 0 0))) rfl rfl rfl rfl (fun b563 => ?_))
        refine Ow_cons rfl (OpW_store (vs := (Case.cells x557)) (all' := (Case.cells x557)) rfl rfl rfl rfl rfl .here rfl rfl rfl ?_)
        refine Ow_nil ?_
        refine Cw_seq ?_
        refine Cw_region ?_
        refine Ow_q rfl rfl rfl (Qt_loadA (m := 7) (cs := (Op.cells p2 vp2_cases vp2_draws)) rfl rfl rfl rfl ⟨rfl, Rdc.blk (.tail _ (.head _)) rfl⟩) ?_
        obtain ⟨x564, hx565, H⟩ := bnd H
        have hs566 := ((hp2_cases).mono hK346).mono hK488
        have hs567 := ((hp2_draws).mono hK346).mono hK488
        refine Ow_cons rfl (OpW_call rfl Try.call60 rfl rfl (c_M_model_all p2 vp2_cases vp2_draws x564 hx565 _ _ hs566 hs567) ?_)
        rintro _ K569 _ hK570 ⟨v568, rfl, rfl, hs571⟩
        refine Ow_q rfl rfl rfl (Q_len (T := TyCase) hs571 rfl rfl) ?_
        refine Ow_q rfl rfl rfl (Qt_move rfl) ?_
        refine Ow_nil ?_
        refine Cw_block ?_
        refine Cw_loopM (fun n620 env' K' G' => ∃ (i619 : Int), [(0, (sv vp0)), (5, (.pointer (some ((⟨b197, 0, none⟩ : Addr).add 0)))), (8, (.pointer (some ((⟨b563, 0, none⟩ : Addr).add 0)))), (14, (sv v344)), (15, (.int .i64 (x342.length : Int))), (16, (.int .i64 i485)), (21, (sv v568)), (22, (.int .i64 (x564.length : Int))), (23, (.int .i64 i619))] = env' ∧ K569 = K' ∧ (.blk b563 73 (Case.cells x557)) :: (.blk b197 38 (Op.cells p2 vp2_cases vp2_draws)) :: G = G' ∧ lp1 (M_model_Meets_L2 p0 x342 i485 x564 x557 p2 k490) n620 i619 = some y0) BIG ?_ ?_
        · skip
          refine Shift.pull (.there .here) ?_
          refine Shift.pull (.there .here) ?_
          refine Shift.done ?_
          exact ⟨[(0, (sv vp0)), (5, (.pointer (some ((⟨b197, 0, none⟩ : Addr).add 0)))), (8, (.pointer (some ((⟨b563, 0, none⟩ : Addr).add 0)))), (14, (sv v344)), (15, (.int .i64 (x342.length : Int))), (16, (.int .i64 i485)), (21, (sv v568)), (22, (.int .i64 (x564.length : Int))), (23, (.int .i64 0))], ⟨rfl, rfl, rfl, rfl, rfl, rfl, rfl, rfl, rfl, trivial⟩, 0, rfl, rfl, rfl, H⟩
        rintro n620 _ _ _ - ⟨i619, rfl, rfl, rfl, H⟩
        obtain ⟨m621, k622, rfl, hkk623, H⟩ := lps1 H
        unfold M_model_Meets_L2 at H
        refine Cw_seq ?_
        refine Cw_region ?_
        refine Ow_q rfl rfl rfl (Qt_cmp rfl rfl rfl) ?_
        refine Ow_nil ?_
        refine Cw_seq ?_
        refine Cw_cond rfl ?_ ?_
        · intro h625
          have h625 := dcd_t (h625)
          have H := ift h625 H
          refine Cw_skip ?_
          refine Cw_seq ?_
          refine Cw_block ?_
          refine Cw_seq ?_
          refine Cw_region ?_
          obtain ⟨x645, hx646, H⟩ := bnd H
          obtain ⟨r647, hr648, hk649⟩ := Slr.at hs571 hx646
          obtain rfl := hr648
          refine Ow_q rfl rfl rfl (Q_ix (T := TyCase) hs571 hx646 rfl rfl rfl rfl rfl) ?_
          refine Ow_q rfl rfl rfl (Qt_loadA (m := 3) (cs := (Case.cells x645)) rfl rfl rfl rfl ⟨rfl, Rdc.k hk649 rfl⟩) ?_
          refine Ow_cons rfl (OpW_alloc (cs := (Case.cells (Case.mk false 0 0))) rfl rfl rfl rfl (fun b650 => ?_))
          refine Ow_cons rfl (OpW_store (vs := (Case.cells x645)) (all' := (Case.cells x645)) rfl rfl rfl rfl rfl .here rfl rfl rfl ?_)
          refine Ow_nil ?_
          refine Cw_seq ?_
          refine Cw_region ?_
          refine Ow_q rfl rfl rfl (Qt_move rfl) ?_
          refine Ow_q rfl rfl rfl (Qt_fieldAddr (m := 1) rfl rfl rfl rfl rfl) ?_
          refine Ow_q rfl rfl rfl (Qt_load1 (v := (.int .i64 x557.channel)) rfl rfl rfl (Rdc.blk (.tail _ (.head _)) rfl)) ?_
          obtain ⟨x651, x652, hx653, H⟩ := bnd2 H
          have hs654 := (((hp0).mono hK346).mono hK488).mono hK570
          refine Ow_cons rfl (OpW_call rfl Try.call55 rfl rfl (c_M_model_find p0 vp0 x557.channel x651 x652 hx653 _ _ hs654) ?_)
          rintro _ _ _ - ⟨v655, rfl, rfl, rfl, hs656⟩
          refine Ow_q rfl rfl rfl (Qt_move rfl) ?_
          refine Ow_q rfl rfl rfl (Qt_extract rfl rfl) ?_
          refine Ow_q rfl rfl rfl (Qt_extract rfl rfl) ?_
          refine Ow_cons rfl (OpW_alloc (cs := (Chan.cells (Chan.mk 0 [] false) nilS)) rfl rfl rfl rfl (fun b657 => ?_))
          refine Ow_cons rfl (OpW_store (vs := (Chan.cells x651 v655)) (all' := (Chan.cells x651 v655)) rfl rfl rfl rfl rfl .here rfl rfl rfl ?_)
          refine Ow_q rfl rfl rfl (Qt_assign rfl) ?_
          refine Ow_nil ?_
          refine Cw_join (fun env' K' G' => ∃ (t662 : Bool), [(0, (sv vp0)), (5, (.pointer (some ((⟨b197, 0, none⟩ : Addr).add 0)))), (8, (.pointer (some ((⟨b563, 0, none⟩ : Addr).add 0)))), (14, (sv v344)), (15, (.int .i64 (x342.length : Int))), (16, (.int .i64 i485)), (21, (sv v568)), (22, (.int .i64 (x564.length : Int))), (23, (.int .i64 i619)), (58, (.bool t662))] = env' ∧ K569 = K' ∧ (.blk b563 73 (Case.cells x557)) :: (.blk b197 38 (Op.cells p2 vp2_cases vp2_draws)) :: G = G' ∧ M_model_Meets_J3 p0 x342 i485 x564 i619 x557 p2 k490 k622 t662 = some y0) ?_ ?_
          · skip
            refine Cw_region ?_
            refine Ow_q rfl rfl rfl (Qt_move rfl) ?_
            refine Ow_q rfl rfl rfl (Qt_move rfl) ?_
            refine Ow_caseG rfl rfl rfl ?_ ?_
            · intro h663
              have H := ift h663 H
              refine Ow_qw rfl rfl rfl rfl rfl rfl (Qt_fieldAddr (m := 1) rfl rfl rfl rfl rfl) ?_
              refine Ow_qw rfl rfl rfl rfl rfl rfl (Qt_load1 (v := (.int .i64 x557.channel)) rfl rfl rfl (Rdc.blk (.tail _ (.tail _ (.head _))) rfl)) ?_
              refine Ow_qw rfl rfl rfl rfl rfl rfl (Qt_fieldAddr (m := 1) rfl rfl rfl rfl rfl) ?_
              refine Ow_qw rfl rfl rfl rfl rfl rfl (Qt_load1 (v := (.int .i64 x645.channel)) rfl rfl rfl (Rdc.blk (.tail _ (.head _)) rfl)) ?_
              refine Ow_qw rfl rfl rfl rfl rfl rfl (Qt_cmp rfl rfl rfl) ?_
              refine Ow_q rfl rfl rfl (Qt_pick_t rfl rfl) ?_
              refine Ow_q rfl rfl rfl (Qt_move rfl) ?_
              refine Ow_caseG rfl rfl rfl ?_ ?_
              · intro h664
                have h664 := dcd_t (h664)
                have H := ift h664 H
                refine Ow_qw rfl rfl rfl rfl rfl rfl (Qt_fieldAddr (m := 0) rfl rfl rfl rfl rfl) ?_
                refine Ow_qw rfl rfl rfl rfl rfl rfl (Qt_load1 (v := (.bool x557.send)) rfl rfl rfl (Rdc.blk (.tail _ (.tail _ (.head _))) rfl)) ?_
                refine Ow_qw rfl rfl rfl rfl rfl rfl (Qt_fieldAddr (m := 0) rfl rfl rfl rfl rfl) ?_
                refine Ow_qw rfl rfl rfl rfl rfl rfl (Qt_load1 (v := (.bool x645.send)) rfl rfl rfl (Rdc.blk (.tail _ (.head _)) rfl)) ?_
                refine Ow_qw rfl rfl rfl rfl rfl rfl (Qt_neB rfl rfl rfl) ?_
                refine Ow_q rfl rfl rfl (Qt_pick_t rfl rfl) ?_
                refine Ow_q rfl rfl rfl (Qt_move rfl) ?_
                refine Ow_caseG rfl rfl rfl ?_ ?_
                · intro h665
                  have h665 := nt_t (h665)
                  have H := iff_ (btf h665) H
                  refine Ow_qw rfl rfl rfl rfl rfl rfl (Qt_fieldAddr (m := 2) rfl rfl rfl rfl rfl) ?_
                  refine Ow_qw rfl rfl rfl rfl rfl rfl (Qt_load1 (v := (.bool x651.closed)) rfl rfl rfl (Rdc.blk (.head _) rfl)) ?_
                  refine Ow_qw rfl rfl rfl rfl rfl rfl (Qt_not rfl) ?_
                  refine Ow_q rfl rfl rfl (Qt_pick_t rfl rfl) ?_
                  refine Ow_q rfl rfl rfl (Qt_move rfl) ?_
                  refine Ow_caseG rfl rfl rfl ?_ ?_
                  · intro h666
                    have h666 := nt_t (h666)
                    have H := iff_ (btf h666) H
                    refine Ow_qw rfl rfl rfl rfl rfl rfl (Qt_fieldAddr (m := 0) rfl rfl rfl rfl rfl) ?_
                    refine Ow_qw rfl rfl rfl rfl rfl rfl (Qt_load1 (v := (.int .i64 x651.capacity)) rfl rfl rfl (Rdc.blk (.head _) rfl)) ?_
                    refine Ow_qw rfl rfl rfl rfl rfl rfl (Qt_cmp rfl rfl rfl) ?_
                    refine Ow_q rfl rfl rfl (Qt_pick_t rfl rfl) ?_
                    refine Ow_nil ?_
                    refine Shift.pull (.there (.there (.there .here))) ?_
                    refine Shift.pull (.there (.there (.there .here))) ?_
                    refine Shift.rem (.there (.there .here)) ?_
                    refine Shift.rem (.there (.there .here)) ?_
                    refine Shift.done ?_
                    exact ⟨[(0, (sv vp0)), (5, (.pointer (some ((⟨b197, 0, none⟩ : Addr).add 0)))), (8, (.pointer (some ((⟨b563, 0, none⟩ : Addr).add 0)))), (14, (sv v344)), (15, (.int .i64 (x342.length : Int))), (16, (.int .i64 i485)), (21, (sv v568)), (22, (.int .i64 (x564.length : Int))), (23, (.int .i64 i619)), (58, (.bool (dcd (x651.capacity ≤ 0))))], ⟨rfl, rfl, rfl, rfl, rfl, rfl, rfl, rfl, rfl, rfl, trivial⟩, (dcd (x651.capacity ≤ 0)), rfl, rfl, rfl, H⟩
                  · intro h666
                    have h666 := nt_f (h666)
                    have H := ift h666 H
                    refine Ow_pass rfl rfl rfl rfl rfl rfl rfl ?_
                    refine Ow_pass rfl rfl rfl rfl rfl rfl rfl ?_
                    refine Ow_pass rfl rfl rfl rfl rfl rfl rfl ?_
                    refine Ow_q rfl rfl rfl (Qt_pick_f rfl rfl) ?_
                    refine Ow_nil ?_
                    refine Shift.pull (.there (.there (.there .here))) ?_
                    refine Shift.pull (.there (.there (.there .here))) ?_
                    refine Shift.rem (.there (.there .here)) ?_
                    refine Shift.rem (.there (.there .here)) ?_
                    refine Shift.done ?_
                    exact ⟨[(0, (sv vp0)), (5, (.pointer (some ((⟨b197, 0, none⟩ : Addr).add 0)))), (8, (.pointer (some ((⟨b563, 0, none⟩ : Addr).add 0)))), (14, (sv v344)), (15, (.int .i64 (x342.length : Int))), (16, (.int .i64 i485)), (21, (sv v568)), (22, (.int .i64 (x564.length : Int))), (23, (.int .i64 i619)), (58, (.bool false))], ⟨rfl, rfl, rfl, rfl, rfl, rfl, rfl, rfl, rfl, rfl, trivial⟩, false, rfl, rfl, rfl, H⟩
                · intro h665
                  have h665 := nt_f (h665)
                  have H := ift h665 H
                  refine Ow_pass rfl rfl rfl rfl rfl rfl rfl ?_
                  refine Ow_pass rfl rfl rfl rfl rfl rfl rfl ?_
                  refine Ow_pass rfl rfl rfl rfl rfl rfl rfl ?_
                  refine Ow_q rfl rfl rfl (Qt_pick_f rfl rfl) ?_
                  refine Ow_q rfl rfl rfl (Qt_move rfl) ?_
                  refine Ow_pass rfl rfl rfl rfl rfl rfl rfl ?_
                  refine Ow_pass rfl rfl rfl rfl rfl rfl rfl ?_
                  refine Ow_pass rfl rfl rfl rfl rfl rfl rfl ?_
                  refine Ow_q rfl rfl rfl (Qt_pick_f rfl rfl) ?_
                  refine Ow_nil ?_
                  refine Shift.pull (.there (.there (.there .here))) ?_
                  refine Shift.pull (.there (.there (.there .here))) ?_
                  refine Shift.rem (.there (.there .here)) ?_
                  refine Shift.rem (.there (.there .here)) ?_
                  refine Shift.done ?_
                  exact ⟨[(0, (sv vp0)), (5, (.pointer (some ((⟨b197, 0, none⟩ : Addr).add 0)))), (8, (.pointer (some ((⟨b563, 0, none⟩ : Addr).add 0)))), (14, (sv v344)), (15, (.int .i64 (x342.length : Int))), (16, (.int .i64 i485)), (21, (sv v568)), (22, (.int .i64 (x564.length : Int))), (23, (.int .i64 i619)), (58, (.bool false))], ⟨rfl, rfl, rfl, rfl, rfl, rfl, rfl, rfl, rfl, rfl, trivial⟩, false, rfl, rfl, rfl, H⟩
              · intro h664
                have h664 := dcd_f (h664)
                have H := iff_ h664 H
                refine Ow_pass rfl rfl rfl rfl rfl rfl rfl ?_
                refine Ow_pass rfl rfl rfl rfl rfl rfl rfl ?_
                refine Ow_pass rfl rfl rfl rfl rfl rfl rfl ?_
                refine Ow_pass rfl rfl rfl rfl rfl rfl rfl ?_
                refine Ow_pass rfl rfl rfl rfl rfl rfl rfl ?_
                refine Ow_q rfl rfl rfl (Qt_pick_f rfl rfl) ?_
                refine Ow_q rfl rfl rfl (Qt_move rfl) ?_
                refine Ow_pass rfl rfl rfl rfl rfl rfl rfl ?_
                refine Ow_pass rfl rfl rfl rfl rfl rfl rfl ?_
                refine Ow_pass rfl rfl rfl rfl rfl rfl rfl ?_
                refine Ow_q rfl rfl rfl (Qt_pick_f rfl rfl) ?_
                refine Ow_q rfl rfl rfl (Qt_move rfl) ?_
                refine Ow_pass rfl rfl rfl rfl rfl rfl rfl ?_
                refine Ow_pass rfl rfl rfl rfl rfl rfl rfl ?_
                refine Ow_pass rfl rfl rfl rfl rfl rfl rfl ?_
                refine Ow_q rfl rfl rfl (Qt_pick_f rfl rfl) ?_
                refine Ow_nil ?_
                refine Shift.pull (.there (.there (.there .here))) ?_
                refine Shift.pull (.there (.there (.there .here))) ?_
                refine Shift.rem (.there (.there .here)) ?_
                refine Shift.rem (.there (.there .here)) ?_
                refine Shift.done ?_
                exact ⟨[(0, (sv vp0)), (5, (.pointer (some ((⟨b197, 0, none⟩ : Addr).add 0)))), (8, (.pointer (some ((⟨b563, 0, none⟩ : Addr).add 0)))), (14, (sv v344)), (15, (.int .i64 (x342.length : Int))), (16, (.int .i64 i485)), (21, (sv v568)), (22, (.int .i64 (x564.length : Int))), (23, (.int .i64 i619)), (58, (.bool false))], ⟨rfl, rfl, rfl, rfl, rfl, rfl, rfl, rfl, rfl, rfl, trivial⟩, false, rfl, rfl, rfl, H⟩
            · intro h663
              have H := iff_ (btf h663) H
              refine Ow_pass rfl rfl rfl rfl rfl rfl rfl ?_
              refine Ow_pass rfl rfl rfl rfl rfl rfl rfl ?_
              refine Ow_pass rfl rfl rfl rfl rfl rfl rfl ?_
              refine Ow_pass rfl rfl rfl rfl rfl rfl rfl ?_
              refine Ow_pass rfl rfl rfl rfl rfl rfl rfl ?_
              refine Ow_q rfl rfl rfl (Qt_pick_f rfl rfl) ?_
              refine Ow_q rfl rfl rfl (Qt_move rfl) ?_
              refine Ow_pass rfl rfl rfl rfl rfl rfl rfl ?_
              refine Ow_pass rfl rfl rfl rfl rfl rfl rfl ?_
              refine Ow_pass rfl rfl rfl rfl rfl rfl rfl ?_
              refine Ow_pass rfl rfl rfl rfl rfl rfl rfl ?_
              refine Ow_pass rfl rfl rfl rfl rfl rfl rfl ?_
              refine Ow_q rfl rfl rfl (Qt_pick_f rfl rfl) ?_
              refine Ow_q rfl rfl rfl (Qt_move rfl) ?_
              refine Ow_pass rfl rfl rfl rfl rfl rfl rfl ?_
              refine Ow_pass rfl rfl rfl rfl rfl rfl rfl ?_
              refine Ow_pass rfl rfl rfl rfl rfl rfl rfl ?_
              refine Ow_q rfl rfl rfl (Qt_pick_f rfl rfl) ?_
              refine Ow_q rfl rfl rfl (Qt_move rfl) ?_
              refine Ow_pass rfl rfl rfl rfl rfl rfl rfl ?_
              refine Ow_pass rfl rfl rfl rfl rfl rfl rfl ?_
              refine Ow_pass rfl rfl rfl rfl rfl rfl rfl ?_
              refine Ow_q rfl rfl rfl (Qt_pick_f rfl rfl) ?_
              refine Ow_nil ?_
              refine Shift.pull (.there (.there (.there .here))) ?_
              refine Shift.pull (.there (.there (.there .here))) ?_
              refine Shift.rem (.there (.there .here)) ?_
              refine Shift.rem (.there (.there .here)) ?_
              refine Shift.done ?_
              exact ⟨[(0, (sv vp0)), (5, (.pointer (some ((⟨b197, 0, none⟩ : Addr).add 0)))), (8, (.pointer (some ((⟨b563, 0, none⟩ : Addr).add 0)))), (14, (sv v344)), (15, (.int .i64 (x342.length : Int))), (16, (.int .i64 i485)), (21, (sv v568)), (22, (.int .i64 (x564.length : Int))), (23, (.int .i64 i619)), (58, (.bool false))], ⟨rfl, rfl, rfl, rfl, rfl, rfl, rfl, rfl, rfl, rfl, trivial⟩, false, rfl, rfl, rfl, H⟩
          rintro _ _ _ - ⟨t662, rfl, rfl, rfl, H⟩
          unfold M_model_Meets_J3 at H
          refine Cw_cond rfl ?_ ?_
          · intro h667
            have H := ift h667 H
            refine Cw_seq ?_
            refine Cw_region ?_
            refine Ow_q rfl rfl rfl (Qt_assign rfl) ?_
            refine Ow_nil ?_
            refine Cw_ret ?_
            obtain ey0 := inj1 H
            subst y0
            refine ⟨(by first | exact .inl rfl | exact .inr rfl), [(.bool true)], ⟨(.bool true), _, rfl, rfl, rfl⟩, ?_⟩
            refine Shift.rem .here ?_
            refine Shift.rem .here ?_
            refine Shift.done ?_
            exact ⟨rfl, rfl⟩
          · intro h667
            have H := iff_ (btf h667) H
            refine Cw_skip ?_
            refine Cw_region ?_
            refine Ow_q rfl rfl rfl (Qt_arith (e := wI (i619 + 1)) rfl rfl rfl rfl) ?_
            refine Ow_q rfl rfl rfl (Qt_move rfl) ?_
            refine Ow_nil ?_
            refine Shift.pull (.there .here) ?_
            refine Shift.pull (.there .here) ?_
            refine Shift.done ?_
            exact ⟨[(0, (sv vp0)), (5, (.pointer (some ((⟨b197, 0, none⟩ : Addr).add 0)))), (8, (.pointer (some ((⟨b563, 0, none⟩ : Addr).add 0)))), (14, (sv v344)), (15, (.int .i64 (x342.length : Int))), (16, (.int .i64 i485)), (21, (sv v568)), (22, (.int .i64 (x564.length : Int))), (23, (.int .i64 (wI (i619 + 1))))], ⟨rfl, rfl, rfl, rfl, rfl, rfl, rfl, rfl, rfl, trivial⟩, _, Nat.lt_succ_self _, (wI (i619 + 1)), rfl, rfl, rfl, (hkk623 ▸ H)⟩
        · intro h625
          have h625 := dcd_f (h625)
          have H := iff_ h625 H
          refine Cw_exit ?_
          refine Shift.pull (.there .here) ?_
          refine Shift.rem (.there .here) ?_
          refine Shift.done ?_
          exact ⟨[(0, (sv vp0)), (5, (.pointer (some ((⟨b197, 0, none⟩ : Addr).add 0)))), (14, (sv v344)), (15, (.int .i64 (x342.length : Int))), (16, (.int .i64 i485))], ⟨rfl, rfl, rfl, rfl, rfl, trivial⟩, rfl, rfl, H⟩
      rintro _ K668 _ hK669 ⟨rfl, rfl, H⟩
      unfold M_model_Meets_J2 at H
      refine Cw_region ?_
      refine Ow_q rfl rfl rfl (Qt_arith (e := wI (i485 + 1)) rfl rfl rfl rfl) ?_
      refine Ow_q rfl rfl rfl (Qt_move rfl) ?_
      refine Ow_nil ?_
      refine Shift.done ?_
      exact ⟨[(0, (sv vp0)), (5, (.pointer (some ((⟨b197, 0, none⟩ : Addr).add 0)))), (14, (sv v344)), (15, (.int .i64 (x342.length : Int))), (16, (.int .i64 (wI (i485 + 1))))], ⟨rfl, rfl, rfl, rfl, rfl, trivial⟩, _, Nat.lt_succ_self _, (wI (i485 + 1)), rfl, rfl, (hkk491 ▸ H)⟩
    · intro h493
      have h493 := dcd_f (h493)
      have H := iff_ h493 H
      refine Cw_exit ?_
      refine Shift.rem .here ?_
      refine Shift.done ?_
      exact ⟨[], trivial, rfl, rfl, H⟩
  rintro _ K670 _ hK671 ⟨rfl, rfl, H⟩
  unfold M_model_Meets_J1 at H
  refine Cw_seq ?_
  refine Cw_region ?_
  refine Ow_q rfl rfl rfl (Qt_assign rfl) ?_
  refine Ow_nil ?_
  refine Cw_ret ?_
  obtain ey0 := inj1 H
  subst y0
  refine ⟨(by first | exact .inl rfl | exact .inr rfl), [(.bool false)], ⟨(.bool false), _, rfl, rfl, rfl⟩, ?_⟩
  refine Shift.done ?_
  exact ⟨rfl, rfl⟩

set_option maxHeartbeats 1000000 in
theorem c_M_model_Enabled (p0 : List Chan) (vp0 : SV) (p1 : List Waiter) (vp1 : SV) (y0 : Bool) (H : M_model_Enabled p0 p1 = some y0) (K : Kp) (G : List Ent) (hp0 : Slr TyChan K (sv vp0) p0) (hp1 : Slr TyWaiter K (sv vp1) p1) :
    Fc Try.prog 45 #[(sv vp0), (sv vp1)] K (G) (fun v K' G' => v = (.bool y0) ∧ G = G') := by
  refine Fc_body Try.func45 rfl Try.ntmps45 Try.results45 rfl ?_
  unfold M_model_Enabled at H
  refine Cw_seq ?_
  refine Cw_region ?_
  refine Ow_q rfl rfl rfl (Qt_assign rfl) ?_
  refine Ow_nil ?_
  refine Cw_join (fun env' K' G' => [] = env' ∧ G = G' ∧ M_model_Enabled_J1 = some y0) ?_ ?_
  · skip
    refine Cw_seq ?_
    refine Cw_region ?_
    refine Ow_q rfl rfl rfl (Qt_move rfl) ?_
    refine Ow_q rfl rfl rfl (Q_len (T := TyWaiter) hp1 rfl rfl) ?_
    refine Ow_q rfl rfl rfl (Qt_move rfl) ?_
    refine Ow_nil ?_
    refine Cw_block ?_
    refine Cw_loopM (fun n530 env' K' G' => ∃ (i529 : Int), [(0, (sv vp0)), (1, (sv vp1)), (9, (sv vp1)), (10, (.int .i64 (p1.length : Int))), (11, (.int .i64 i529))] = env' ∧ G = G' ∧ lp1 (M_model_Enabled_L1 p0 p1) n530 i529 = some y0) BIG ?_ ?_
    · skip
      refine Shift.done ?_
      exact ⟨[(0, (sv vp0)), (1, (sv vp1)), (9, (sv vp1)), (10, (.int .i64 (p1.length : Int))), (11, (.int .i64 0))], ⟨rfl, rfl, rfl, rfl, rfl, trivial⟩, 0, rfl, rfl, H⟩
    rintro n530 _ K531 _ hK532 ⟨i529, rfl, rfl, H⟩
    obtain ⟨m533, k534, rfl, hkk535, H⟩ := lps1 H
    unfold M_model_Enabled_L1 at H
    refine Cw_seq ?_
    refine Cw_region ?_
    refine Ow_q rfl rfl rfl (Qt_cmp rfl rfl rfl) ?_
    refine Ow_nil ?_
    refine Cw_seq ?_
    refine Cw_cond rfl ?_ ?_
    · intro h537
      have h537 := dcd_t (h537)
      have H := ift h537 H
      refine Cw_skip ?_
      refine Cw_join (fun env' K' G' => [(0, (sv vp0)), (1, (sv vp1)), (9, (sv vp1)), (10, (.int .i64 (p1.length : Int))), (11, (.int .i64 i529))] = env' ∧ G = G' ∧ M_model_Enabled_J2 p0 p1 i529 k534 = some y0) ?_ ?_
      · skip
        refine Cw_block ?_
        refine Cw_seq ?_
        refine Cw_region ?_
        refine Ow_q rfl rfl rfl (Qt_move rfl) ?_
        obtain ⟨x615, hx616, H⟩ := bnd H
        have hs617 := (hp1).mono hK532
        obtain ⟨r618, hr619, hk620⟩ := Slr.at hs617 hx616
        obtain ⟨v621, v622, rfl, hs623, hs624⟩ := hr619
        refine Ow_q rfl rfl rfl (Q_ix (T := TyWaiter) hs617 hx616 rfl rfl rfl rfl rfl) ?_
        refine Ow_q rfl rfl rfl (Qt_loadA (m := 8) (cs := (Waiter.cells x615 v621 v622)) rfl rfl rfl rfl ⟨rfl, Rdc.k hk620 rfl⟩) ?_
        refine Ow_cons rfl (OpW_alloc (cs := (Waiter.cells (Waiter.mk 0 (Op.mk 0 0 0 0 0 [] [])) nilS nilS)) rfl rfl rfl rfl (fun b625 => ?_))
        refine Ow_q rfl rfl rfl (Qt_assign rfl) ?_
        refine Ow_cons rfl (OpW_store (vs := (Waiter.cells x615 v621 v622)) (all' := (Waiter.cells x615 v621 v622)) rfl rfl rfl rfl rfl .here rfl rfl rfl ?_)
        refine Ow_nil ?_
        refine Cw_seq ?_
        refine Cw_seq ?_
        refine Cw_region ?_
        refine Ow_q rfl rfl rfl (Qt_move rfl) ?_
        refine Ow_q rfl rfl rfl (Qt_fieldAddr (m := 1) rfl rfl rfl rfl rfl) ?_
        refine Ow_q rfl rfl rfl (Qt_loadA (m := 7) (cs := (Op.cells x615.op v621 v622)) rfl rfl rfl rfl ⟨rfl, Rdc.blk (.head _) rfl⟩) ?_
        obtain ⟨x634, hx635, H⟩ := bnd H
        have hs636 := (hp0).mono hK532
        refine Ow_cons rfl (OpW_call rfl Try.call34 rfl rfl (c_M_model_Could p0 vp0 x615.op v621 v622 x634 hx635 _ _ hs636 hs623 hs624) ?_)
        rintro _ K638 _ hK639 ⟨v637, rfl, rfl, hs640⟩
        refine Ow_q rfl rfl rfl (Q_len (T := TyResult) hs640 rfl rfl) ?_
        refine Ow_q rfl rfl rfl (Qt_cmp rfl rfl rfl) ?_
        refine Ow_nil ?_
        refine Cw_cond rfl ?_ ?_
        · intro h641
          have h641 := dcd_t (h641)
          have H := ift h641 H
          refine Cw_seq ?_
          refine Cw_region ?_
          refine Ow_q rfl rfl rfl (Qt_assign rfl) ?_
          refine Ow_nil ?_
          refine Cw_ret ?_
          obtain ey0 := inj1 H
          subst y0
          refine ⟨(by first | exact .inl rfl | exact .inr rfl), [(.bool true)], ⟨(.bool true), _, rfl, rfl, rfl⟩, ?_⟩
          refine Shift.rem .here ?_
          refine Shift.rem .here ?_
          refine Shift.done ?_
          exact ⟨rfl, rfl⟩
        · intro h641
          have h641 := dcd_f (h641)
          have H := iff_ h641 H
          refine Cw_skip ?_
          refine Cw_seq ?_
          refine Cw_region ?_
          refine Ow_q rfl rfl rfl (Qt_move rfl) ?_
          refine Ow_q rfl rfl rfl (Qt_move rfl) ?_
          obtain ⟨x642, hx643, H⟩ := bnd H
          have hs644 := (hs617).mono hK639
          have hs645 := Slr.cut hs644 hx643
          refine Ow_q rfl rfl rfl (Q_cutH (T := TyWaiter) hs644 hx643 rfl rfl rfl rfl) ?_
          refine Ow_q rfl rfl rfl (Q_len (T := TyWaiter) hs645 rfl rfl) ?_
          refine Ow_q rfl rfl rfl (Qt_move rfl) ?_
          refine Ow_nil ?_
          refine Cw_block ?_
          refine Cw_loopM (fun n700 env' K' G' => ∃ (i699 : Int), [(0, (sv vp0)), (1, (sv vp1)), (6, (.pointer (some ((⟨b625, 0, none⟩ : Addr).add 0)))), (9, (sv vp1)), (10, (.int .i64 (p1.length : Int))), (11, (.int .i64 i529)), (24, (sv (cutS vp1 8 0 i529.toNat))), (25, (.int .i64 (x642.length : Int))), (26, (.int .i64 i699))] = env' ∧ (.blk b625 77 (Waiter.cells x615 v621 v622)) :: G = G' ∧ lp1 (M_model_Enabled_L2 p0 p1 i529 x642 x615 k534) n700 i699 = some y0) BIG ?_ ?_
          · skip
            refine Shift.pull (.there .here) ?_
            refine Shift.rem (.there .here) ?_
            refine Shift.done ?_
            exact ⟨[(0, (sv vp0)), (1, (sv vp1)), (6, (.pointer (some ((⟨b625, 0, none⟩ : Addr).add 0)))), (9, (sv vp1)), (10, (.int .i64 (p1.length : Int))), (11, (.int .i64 i529)), (24, (sv (cutS vp1 8 0 i529.toNat))), (25, (.int .i64 (x642.length : Int))), (26, (.int .i64 0))], ⟨rfl, rfl, rfl, rfl, rfl, rfl, rfl, rfl, rfl, trivial⟩, 0, rfl, rfl, H⟩
          rintro n700 _ K701 _ hK702 ⟨i699, rfl, rfl, H⟩
          obtain ⟨m703, k704, rfl, hkk705, H⟩ := lps1 H
          unfold M_model_Enabled_L2 at H
          refine Cw_seq ?_
          refine Cw_region ?_
          refine Ow_q rfl rfl rfl (Qt_cmp rfl rfl rfl) ?_
          refine Ow_nil ?_
          refine Cw_seq ?_
          refine Cw_cond rfl ?_ ?_
          · intro h707
            have h707 := dcd_t (h707)
            have H := ift h707 H
            refine Cw_skip ?_
            refine Cw_seq ?_
            refine Cw_block ?_
            refine Cw_seq ?_
            refine Cw_region ?_
            obtain ⟨x731, hx732, H⟩ := bnd H
            have hs733 := (hs645).mono hK702
            obtain ⟨r734, hr735, hk736⟩ := Slr.at hs733 hx732
            obtain ⟨v737, v738, rfl, hs739, hs740⟩ := hr735
            refine Ow_q rfl rfl rfl (Q_ix (T := TyWaiter) hs733 hx732 rfl rfl rfl rfl rfl) ?_
            refine Ow_q rfl rfl rfl (Qt_loadA (m := 8) (cs := (Waiter.cells x731 v737 v738)) rfl rfl rfl rfl ⟨rfl, Rdc.k hk736 rfl⟩) ?_
            refine Ow_cons rfl (OpW_alloc (cs := (Waiter.cells (Waiter.mk 0 (Op.mk 0 0 0 0 0 [] [])) nilS nilS)) rfl rfl rfl rfl (fun b741 => ?_))
            refine Ow_cons rfl (OpW_store (vs := (Waiter.cells x731 v737 v738)) (all' := (Waiter.cells x731 v737 v738)) rfl rfl rfl rfl rfl .here rfl rfl rfl ?_)
            refine Ow_nil ?_
            refine Cw_join (fun env' K' G' => ∃ (t750 : Bool), [(0, (sv vp0)), (1, (sv vp1)), (6, (.pointer (some ((⟨b625, 0, none⟩ : Addr).add 0)))), (9, (sv vp1)), (10, (.int .i64 (p1.length : Int))), (11, (.int .i64 i529)), (24, (sv (cutS vp1 8 0 i529.toNat))), (25, (.int .i64 (x642.length : Int))), (26, (.int .i64 i699)), (42, (.bool t750))] = env' ∧ (.blk b625 77 (Waiter.cells x615 v621 v622)) :: G = G' ∧ M_model_Enabled_J3 p0 p1 i529 x642 i699 x615 k534 k704 t750 = some y0) ?_ ?_
            · skip
              refine Cw_region ?_
              refine Ow_q rfl rfl rfl (Qt_fieldAddr (m := 0) rfl rfl rfl rfl rfl) ?_
              refine Ow_q rfl rfl rfl (Qt_load1 (v := (.int .i64 x615.thread)) rfl rfl rfl (Rdc.blk (.tail _ (.head _)) rfl)) ?_
              refine Ow_q rfl rfl rfl (Qt_fieldAddr (m := 0) rfl rfl rfl rfl rfl) ?_
              refine Ow_q rfl rfl rfl (Qt_load1 (v := (.int .i64 x731.thread)) rfl rfl rfl (Rdc.blk (.head _) rfl)) ?_
              refine Ow_q rfl rfl rfl (Qt_cmp rfl rfl rfl) ?_
              refine Ow_q rfl rfl rfl (Qt_move rfl) ?_
              refine Ow_caseG rfl rfl rfl ?_ ?_
              · intro h751
                have h751 := dcd_f (nt_t (h751))
                have H := iff_ h751 H
                refine Ow_qw rfl rfl rfl rfl rfl rfl (Qt_move rfl) ?_
                refine Ow_qw rfl rfl rfl rfl rfl rfl (Qt_fieldAddr (m := 1) rfl rfl rfl rfl rfl) ?_
                refine Ow_qw rfl rfl rfl rfl rfl rfl (Qt_loadA (m := 7) (cs := (Op.cells x615.op v621 v622)) rfl rfl rfl rfl ⟨rfl, Rdc.blk (.tail _ (.head _)) rfl⟩) ?_
                refine Ow_qw rfl rfl rfl rfl rfl rfl (Qt_fieldAddr (m := 1) rfl rfl rfl rfl rfl) ?_
                refine Ow_qw rfl rfl rfl rfl rfl rfl (Qt_loadA (m := 7) (cs := (Op.cells x731.op v737 v738)) rfl rfl rfl rfl ⟨rfl, Rdc.blk (.head _) rfl⟩) ?_
                obtain ⟨x752, hx753, H⟩ := bnd H
                have hs754 := ((hs636).mono hK639).mono hK702
                have hs755 := ((hs623).mono hK639).mono hK702
                have hs756 := ((hs624).mono hK639).mono hK702
                refine Ow_want rfl rfl rfl rfl (OpW_call rfl Try.call47 rfl rfl (c_M_model_Meets p0 vp0 x615.op v621 v622 x731.op v737 v738 x752 hx753 _ _ hs754 hs755 hs756 hs739 hs740) ?_)
                rintro _ K757 _ hK758 ⟨rfl, rfl⟩
                refine Ow_q rfl rfl rfl (Qt_pick_t rfl rfl) ?_
                refine Ow_nil ?_
                refine Shift.pull (.there .here) ?_
                refine Shift.rem (.there .here) ?_
                refine Shift.done ?_
                exact ⟨[(0, (sv vp0)), (1, (sv vp1)), (6, (.pointer (some ((⟨b625, 0, none⟩ : Addr).add 0)))), (9, (sv vp1)), (10, (.int .i64 (p1.length : Int))), (11, (.int .i64 i529)), (24, (sv (cutS vp1 8 0 i529.toNat))), (25, (.int .i64 (x642.length : Int))), (26, (.int .i64 i699)), (42, (.bool x752))], ⟨rfl, rfl, rfl, rfl, rfl, rfl, rfl, rfl, rfl, rfl, trivial⟩, x752, rfl, rfl, H⟩
              · intro h751
                have h751 := dcd_t (nt_f (h751))
                have H := ift h751 H
                refine Ow_pass rfl rfl rfl rfl rfl rfl rfl ?_
                refine Ow_pass rfl rfl rfl rfl rfl rfl rfl ?_
                refine Ow_pass rfl rfl rfl rfl rfl rfl rfl ?_
                refine Ow_pass rfl rfl rfl rfl rfl rfl rfl ?_
                refine Ow_pass rfl rfl rfl rfl rfl rfl rfl ?_
                refine Ow_pass rfl rfl rfl rfl rfl rfl rfl ?_
                refine Ow_q rfl rfl rfl (Qt_pick_f rfl rfl) ?_
                refine Ow_nil ?_
                refine Shift.pull (.there .here) ?_
                refine Shift.rem (.there .here) ?_
                refine Shift.done ?_
                exact ⟨[(0, (sv vp0)), (1, (sv vp1)), (6, (.pointer (some ((⟨b625, 0, none⟩ : Addr).add 0)))), (9, (sv vp1)), (10, (.int .i64 (p1.length : Int))), (11, (.int .i64 i529)), (24, (sv (cutS vp1 8 0 i529.toNat))), (25, (.int .i64 (x642.length : Int))), (26, (.int .i64 i699)), (42, (.bool false))], ⟨rfl, rfl, rfl, rfl, rfl, rfl, rfl, rfl, rfl, rfl, trivial⟩, false, rfl, rfl, H⟩
            rintro _ K759 _ hK760 ⟨t750, rfl, rfl, H⟩
            unfold M_model_Enabled_J3 at H
            refine Cw_cond rfl ?_ ?_
            · intro h761
              have H := ift h761 H
              refine Cw_seq ?_
              refine Cw_region ?_
              refine Ow_q rfl rfl rfl (Qt_assign rfl) ?_
              refine Ow_nil ?_
              refine Cw_ret ?_
              obtain ey0 := inj1 H
              subst y0
              refine ⟨(by first | exact .inl rfl | exact .inr rfl), [(.bool true)], ⟨(.bool true), _, rfl, rfl, rfl⟩, ?_⟩
              refine Shift.rem .here ?_
              refine Shift.done ?_
              exact ⟨rfl, rfl⟩
            · intro h761
              have H := iff_ (btf h761) H
              refine Cw_skip ?_
              refine Cw_region ?_
              refine Ow_q rfl rfl rfl (Qt_arith (e := wI (i699 + 1)) rfl rfl rfl rfl) ?_
              refine Ow_q rfl rfl rfl (Qt_move rfl) ?_
              refine Ow_nil ?_
              refine Shift.done ?_
              exact ⟨[(0, (sv vp0)), (1, (sv vp1)), (6, (.pointer (some ((⟨b625, 0, none⟩ : Addr).add 0)))), (9, (sv vp1)), (10, (.int .i64 (p1.length : Int))), (11, (.int .i64 i529)), (24, (sv (cutS vp1 8 0 i529.toNat))), (25, (.int .i64 (x642.length : Int))), (26, (.int .i64 (wI (i699 + 1))))], ⟨rfl, rfl, rfl, rfl, rfl, rfl, rfl, rfl, rfl, trivial⟩, _, Nat.lt_succ_self _, (wI (i699 + 1)), rfl, rfl, (hkk705 ▸ H)⟩
          · intro h707
            have h707 := dcd_f (h707)
            have H := iff_ h707 H
            refine Cw_exit ?_
            refine Shift.rem .here ?_
            refine Shift.done ?_
            exact ⟨[(0, (sv vp0)), (1, (sv vp1)), (9, (sv vp1)), (10, (.int .i64 (p1.length : Int))), (11, (.int .i64 i529))], ⟨rfl, rfl, rfl, rfl, rfl, trivial⟩, rfl, rfl, H⟩
      rintro _ K762 _ hK763 ⟨rfl, rfl, H⟩
      unfold M_model_Enabled_J2 at H
      refine Cw_region ?_
      refine Ow_q rfl rfl rfl (Qt_arith (e := wI (i529 + 1)) rfl rfl rfl rfl) ?_
      refine Ow_q rfl rfl rfl (Qt_move rfl) ?_
      refine Ow_nil ?_
      refine Shift.done ?_
      exact ⟨[(0, (sv vp0)), (1, (sv vp1)), (9, (sv vp1)), (10, (.int .i64 (p1.length : Int))), (11, (.int .i64 (wI (i529 + 1))))], ⟨rfl, rfl, rfl, rfl, rfl, trivial⟩, _, Nat.lt_succ_self _, (wI (i529 + 1)), rfl, rfl, (hkk535 ▸ H)⟩
    · intro h537
      have h537 := dcd_f (h537)
      have H := iff_ h537 H
      refine Cw_exit ?_
      refine Shift.done ?_
      exact ⟨[], trivial, rfl, rfl, H⟩
  rintro _ K764 _ hK765 ⟨rfl, rfl, H⟩
  unfold M_model_Enabled_J1 at H
  refine Cw_seq ?_
  refine Cw_region ?_
  refine Ow_q rfl rfl rfl (Qt_assign rfl) ?_
  refine Ow_nil ?_
  refine Cw_ret ?_
  obtain ey0 := inj1 H
  subst y0
  refine ⟨(by first | exact .inl rfl | exact .inr rfl), [(.bool false)], ⟨(.bool false), _, rfl, rfl, rfl⟩, ?_⟩
  refine Shift.done ?_
  exact ⟨rfl, rfl⟩


end Go.Hx
