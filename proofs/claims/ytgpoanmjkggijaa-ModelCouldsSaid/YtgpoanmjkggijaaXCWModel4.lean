/- Printed by program. -/
import Derived.Test.YtgpoanmjkggijaaXCM
import Derived.Test.YtgpoanmjkggijaaXCWModel
import Derived.Test.YtgpoanmjkggijaaXCWModel1
import Derived.Test.YtgpoanmjkggijaaXCWModel2
import Derived.Test.YtgpoanmjkggijaaXCWModel3
namespace Go.Hx
open Go Go.Proofs
set_option linter.unusedSimpArgs false
set_option linter.unusedVariables false
set_option maxRecDepth 10000
set_option maxHeartbeats 1000000 in
theorem c_M_model_Could_1_freeblk29blk38blk41 (p0 : Result) (bp1 : Nat) (p1 : List Chan) (vp1 : SV) (bp2 : Nat) (p2 : Op) (vp2_cases : SV) (vp2_draws : SV) (bp3 : Nat) (p3 : List Result) (vp3 : SV) (z2_v : List Result) (H : M_model_Could_1_freeblk29blk38blk41 p0 p1 p2 p3 = some z2_v) (K : Kp) (G : List Ent) (hp1 : Slr TyChan K (sv vp1) p1) (hp2_cases : Slr TyCase K (sv vp2_cases) p2.cases) (hp2_draws : Slr Ty.i64 K (sv vp2_draws) p2.draws) (hp3 : Slr TyResult K (sv vp3) p3) :
    Fc Try.prog 79 #[(.agg (Result.cells p0).toArray), (.pointer (some ((⟨bp1, 0, none⟩ : Addr).add 0))), (.pointer (some ((⟨bp2, 0, none⟩ : Addr).add 0))), (.pointer (some ((⟨bp3, 0, none⟩ : Addr).add 0)))] K ((.blk bp1 29 [(sv vp1)]) :: (.blk bp2 38 (Op.cells p2 vp2_cases vp2_draws)) :: (.blk bp3 41 [(sv vp3)]) :: (.tok 25 5 [(sv vp3)]) :: G) (fun v K' G' => ∃ (wz2_v : SV), v = (.tuple #[]) ∧ (.blk bp1 29 [(sv vp1)]) :: (.blk bp2 38 (Op.cells p2 vp2_cases vp2_draws)) :: (.blk bp3 41 [(sv wz2_v)]) :: (.tok 25 5 [(sv wz2_v)]) :: G = G' ∧ Slr TyResult K' (sv wz2_v) z2_v) := by
  refine Fc_body Try.func79 rfl Try.ntmps79 Try.results79 rfl ?_
  unfold M_model_Could_1_freeblk29blk38blk41 at H
  refine Cw_seq ?_
  refine Cw_region ?_
  refine Ow_cons rfl (OpW_box (cs := (Result.cells p0)) rfl rfl rfl (fun b19 => ?_))
  refine Ow_nil ?_
  refine Cw_seq ?_
  refine Cw_region ?_
  refine Ow_q rfl rfl rfl (Qt_load1 (v := (sv vp1)) rfl rfl rfl (Rdc.blk (.tail _ (.head _)) rfl)) ?_
  refine Ow_q rfl rfl rfl (Qt_loadA (m := 7) (cs := (Op.cells p2 vp2_cases vp2_draws)) rfl rfl rfl rfl ⟨rfl, Rdc.blk (.tail _ (.tail _ (.head _))) rfl⟩) ?_
  refine Ow_q rfl rfl rfl (Qt_loadA (m := 5) (cs := (Result.cells p0)) rfl rfl rfl rfl ⟨rfl, Rdc.blk (.head _) rfl⟩) ?_
  obtain ⟨x20, x21, hx22, H⟩ := bnd2 H
  refine Ow_cons rfl (OpW_call rfl Try.call19 rfl rfl (c_M_model_Apply p1 vp1 p2 vp2_cases vp2_draws p0 x20 x21 hx22 _ _ hp1 hp2_cases hp2_draws) ?_)
  rintro _ K24 _ hK25 ⟨v23, rfl, rfl, hs26⟩
  refine Ow_q rfl rfl rfl (Qt_move rfl) ?_
  refine Ow_q rfl rfl rfl (Qt_extract rfl rfl) ?_
  refine Ow_q rfl rfl rfl (Qt_extract rfl rfl) ?_
  refine Ow_q rfl rfl rfl (Qt_assign rfl) ?_
  refine Ow_q rfl rfl rfl (Qt_assign rfl) ?_
  refine Ow_nil ?_
  refine Cw_seq ?_
  refine Cw_region ?_
  refine Ow_q rfl rfl rfl (Qt_move rfl) ?_
  refine Ow_nil ?_
  refine Cw_cond rfl ?_ ?_
  · intro h27
    have H := ift h27 H
    refine Cw_region ?_
    refine Ow_q rfl rfl rfl (Qt_load1 (v := (sv vp3)) rfl rfl rfl (Rdc.blk (.tail _ (.tail _ (.tail _ (.head _)))) rfl)) ?_
    refine Ow_q rfl rfl rfl (Qt_loadA (m := 5) (cs := (Result.cells p0)) rfl rfl rfl rfl ⟨rfl, Rdc.blk (.head _) rfl⟩) ?_
    have hR29 : RowR TyResult K24 [(Result.cells p0)] [p0] := RowR.cons rfl (RowR.nil)
    refine Ow_cons rfl (O_lit (T := TyResult) (rows := [(Result.cells p0)]) (l := [p0]) rfl rfl rfl hR29 rfl rfl rfl rfl rfl rfl rfl rfl (fun v28 => ?_))
    obtain ⟨x30, hx31, H⟩ := bnd H
    have hs36 := (hp3).mono hK25
    refine Ow_cons rfl (O_appTok (T := TyResult) (bytes := 40) (q := 0) rfl rfl rfl hs36 (.tail _ (.tail _ (.tail _ (.tail _ (.tail _ (.head _)))))) rfl (SrcT.row (.head _) hR29 rfl) hx31 rfl rfl rfl rfl rfl rfl rfl rfl (fun v32 K33 hK34 hs35 => ⟨_, (.there (.there (.there (.there (.there .here))))), ?_⟩))
    refine Ow.shift (Shift.rem .here (Shift.done ?_))
    refine Ow_cons rfl (OpW_store (vs := [(sv v32)]) (all' := [(sv v32)]) rfl rfl rfl rfl rfl (.there (.there (.there .here))) rfl rfl rfl ?_)
    refine Ow_nil ?_
    obtain ez2_v := inj1 H
    subst z2_v
    refine ⟨(by first | exact .inl rfl | exact .inr rfl), [], rfl, ?_⟩
    refine Shift.pull (.there (.there (.there (.there .here)))) ?_
    refine Shift.pull (.there (.there (.there (.there .here)))) ?_
    refine Shift.pull (.there (.there (.there (.there .here)))) ?_
    refine Shift.pull (.there (.there (.there (.there .here)))) ?_
    refine Shift.rem (.there (.there (.there (.there .here)))) ?_
    refine Shift.done ?_
    exact ⟨v32, rfl, rfl, hs35⟩
  · intro h27
    have H := iff_ (btf h27) H
    refine Cw_skip ?_
    obtain ez2_v := inj1 H
    subst z2_v
    refine ⟨(by first | exact .inl rfl | exact .inr rfl), [], rfl, ?_⟩
    refine Shift.pull (.there (.there (.there (.there .here)))) ?_
    refine Shift.pull (.there (.there (.there (.there .here)))) ?_
    refine Shift.pull (.there (.there (.there (.there .here)))) ?_
    refine Shift.pull (.there (.there (.there (.there .here)))) ?_
    refine Shift.rem (.there (.there (.there (.there .here)))) ?_
    have hs37 := (hp3).mono hK25
    refine Shift.done ?_
    exact ⟨vp3, rfl, rfl, hs37⟩

set_option maxHeartbeats 1000000 in
theorem c_M_model_Could (p0 : List Chan) (vp0 : SV) (p1 : Op) (vp1_cases : SV) (vp1_draws : SV) (y0 : List Result) (H : M_model_Could p0 p1 = some y0) (K : Kp) (G : List Ent) (hp0 : Slr TyChan K (sv vp0) p0) (hp1_cases : Slr TyCase K (sv vp1_cases) p1.cases) (hp1_draws : Slr Ty.i64 K (sv vp1_draws) p1.draws) :
    Fc Try.prog 34 #[(sv vp0), (.agg (Op.cells p1 vp1_cases vp1_draws).toArray)] K (G) (fun v K' G' => ∃ (wy0 : SV), v = (sv wy0) ∧ (.tok 25 5 [(sv wy0)]) :: G = G' ∧ Slr TyResult K' (sv wy0) y0) := by
  refine Fc_body Try.func34 rfl Try.ntmps34 Try.results34 rfl ?_
  unfold M_model_Could at H
  refine Cw_seq ?_
  refine Cw_region ?_
  refine Ow_cons rfl (OpW_box (cs := [(sv vp0)]) rfl rfl rfl (fun b200 => ?_))
  refine Ow_cons rfl (OpW_box (cs := (Op.cells p1 vp1_cases vp1_draws)) rfl rfl rfl (fun b201 => ?_))
  refine Ow_q rfl rfl rfl (Qt_assign rfl) ?_
  refine Ow_nil ?_
  refine Cw_seq ?_
  refine Cw_region ?_
  refine Ow_cons rfl (OpW_alloc (cs := [(sv nilS)]) rfl rfl rfl rfl (fun b202 => ?_))
  refine Ow_nil ?_
  refine Cw_seq ?_
  refine Cw_region ?_
  refine Ow_q rfl rfl rfl (Qt_makeFunc rfl rfl) ?_
  refine Ow_q rfl rfl rfl (Qt_assign rfl) ?_
  refine Ow_nil ?_
  refine Cw_seq ?_
  refine Cw_seq ?_
  refine Cw_region ?_
  refine Ow_q rfl rfl rfl (Qt_fieldAddr (m := 0) rfl rfl rfl rfl rfl) ?_
  refine Ow_q rfl rfl rfl (Qt_load1 (v := (.int .i64 p1.kind)) rfl rfl rfl (Rdc.blk (.tail _ (.head _)) rfl)) ?_
  refine Ow_q rfl rfl rfl (Qt_cmp rfl rfl rfl) ?_
  refine Ow_nil ?_
  refine Cw_cond rfl ?_ ?_
  · intro h219
    have h219 := dcd_t (h219)
    have H := ift h219 H
    refine Cw_seq ?_
    refine Cw_region ?_
    refine Ow_q rfl rfl rfl (Qt_move rfl) ?_
    refine Ow_q rfl rfl rfl (Qt_build (cs := (Result.cells (Result.mk 6 (-1) 0 false 0))) rfl rfl rfl rfl rfl rfl) ?_
    obtain ⟨x220, hx221, H⟩ := bnd H
    refine Ow.shift (Shift.nilTok1 25 5 (Shift.done ?_))
    refine Ow.shift (Shift.pull (.there .here) (Shift.done ?_))
    refine Ow.shift (Shift.pull (.there (.there .here)) (Shift.done ?_))
    refine Ow.shift (Shift.pull (.there (.there (.there .here))) (Shift.done ?_))
    refine Ow_cons rfl (OpW_call rfl Try.call79 rfl rfl (c_M_model_Could_1_freeblk29blk38blk41 (Result.mk 6 (-1) 0 false 0) b200 p0 vp0 b201 p1 vp1_cases vp1_draws b202 ([] : List Result) nilS x220 hx221 _ _ hp0 hp1_cases hp1_draws (Slr.nil TyResult _)) ?_)
    rintro _ K223 _ hK224 ⟨v222, rfl, rfl, hs225⟩
    refine Ow_nil ?_
    refine Cw_seq ?_
    refine Cw_region ?_
    refine Ow_q rfl rfl rfl (Qt_move rfl) ?_
    refine Ow_q rfl rfl rfl (Qt_build (cs := (Result.cells (Result.mk 5 (-1) 0 false 0))) rfl rfl rfl rfl rfl rfl) ?_
    obtain ⟨x226, hx227, H⟩ := bnd H
    refine Ow.shift (Shift.pull (.there (.there (.there .here))) (Shift.done ?_))
    refine Ow.shift (Shift.pull (.there (.there (.there .here))) (Shift.done ?_))
    refine Ow.shift (Shift.pull (.there (.there (.there .here))) (Shift.done ?_))
    refine Ow.shift (Shift.pull (.there (.there (.there .here))) (Shift.done ?_))
    have hs228 := (hp0).mono hK224
    have hs229 := (hp1_cases).mono hK224
    have hs230 := (hp1_draws).mono hK224
    refine Ow_cons rfl (OpW_call rfl Try.call79 rfl rfl (c_M_model_Could_1_freeblk29blk38blk41 (Result.mk 5 (-1) 0 false 0) b200 p0 vp0 b201 p1 vp1_cases vp1_draws b202 x220 v222 x226 hx227 _ _ hs228 hs229 hs230 hs225) ?_)
    rintro _ K232 _ hK233 ⟨v231, rfl, rfl, hs234⟩
    refine Ow_nil ?_
    refine Cw_seq ?_
    refine Cw_region ?_
    refine Ow_q rfl rfl rfl (Qt_load1 (v := (sv v231)) rfl rfl rfl (Rdc.blk (.tail _ (.tail _ (.head _))) rfl)) ?_
    refine Ow_q rfl rfl rfl (Qt_assign rfl) ?_
    refine Ow_nil ?_
    refine Cw_ret ?_
    obtain ey0 := inj1 H
    subst y0
    refine ⟨(by first | exact .inl rfl | exact .inr rfl), [(sv v231)], ⟨(sv v231), _, rfl, rfl, rfl⟩, ?_⟩
    refine Shift.pull (.there (.there (.there .here))) ?_
    refine Shift.rem (.there .here) ?_
    refine Shift.rem (.there .here) ?_
    refine Shift.rem (.there .here) ?_
    refine Shift.done ?_
    exact ⟨v231, rfl, rfl, hs234⟩
  · intro h219
    have h219 := dcd_f (h219)
    have H := iff_ h219 H
    refine Cw_skip ?_
    refine Cw_join (fun env' K' G' => ∃ (v379 : SV) (l380 : List Result), [(5, (.pointer (some ((⟨b202, 0, none⟩ : Addr).add 0))))] = env' ∧ (.blk b202 41 [(sv v379)]) :: (.tok 25 5 [(sv v379)]) :: G = G' ∧ M_model_Could_J1 l380 = some y0 ∧ Slr TyResult K' (sv v379) l380) ?_ ?_
    · skip
      refine Cw_seq ?_
      refine Cw_region ?_
      refine Ow_q rfl rfl rfl (Qt_loadA (m := 7) (cs := (Op.cells p1 vp1_cases vp1_draws)) rfl rfl rfl rfl ⟨rfl, Rdc.blk (.tail _ (.head _)) rfl⟩) ?_
      obtain ⟨x382, hx383, H⟩ := bnd H
      refine Ow_cons rfl (OpW_call rfl Try.call60 rfl rfl (c_M_model_all p1 vp1_cases vp1_draws x382 hx383 _ _ hp1_cases hp1_draws) ?_)
      rintro _ K385 _ hK386 ⟨v384, rfl, rfl, hs387⟩
      refine Ow_q rfl rfl rfl (Q_len (T := TyCase) hs387 rfl rfl) ?_
      refine Ow_q rfl rfl rfl (Qt_move rfl) ?_
      refine Ow_nil ?_
      refine Cw_block ?_
      refine Cw_loopM (fun n526 env' K' G' => ∃ (i522 : Int) (v523 : SV) (l524 : List Result), [(2, (.pointer (some ((⟨b200, 0, none⟩ : Addr).add 0)))), (3, (.pointer (some ((⟨b201, 0, none⟩ : Addr).add 0)))), (5, (.pointer (some ((⟨b202, 0, none⟩ : Addr).add 0)))), (6, (.func (.func 79) #[] #[(.pointer (some ((⟨b200, 0, none⟩ : Addr).add 0))), (.pointer (some ((⟨b201, 0, none⟩ : Addr).add 0))), (.pointer (some ((⟨b202, 0, none⟩ : Addr).add 0)))])), (23, (sv v384)), (24, (.int .i64 (x382.length : Int))), (25, (.int .i64 i522))] = env' ∧ (.blk b202 41 [(sv v523)]) :: (.blk b201 38 (Op.cells p1 vp1_cases vp1_draws)) :: (.blk b200 29 [(sv vp0)]) :: (.tok 25 5 [(sv v523)]) :: G = G' ∧ lp2 (M_model_Could_L1 x382 p1 p0) n526 i522 l524 = some y0 ∧ Slr TyResult K' (sv v523) l524) BIG ?_ ?_
      · skip
        refine Shift.nilTok1 25 5 ?_
        refine Shift.pull (.there (.there (.there .here))) ?_
        refine Shift.pull (.there (.there (.there .here))) ?_
        refine Shift.pull (.there (.there (.there .here))) ?_
        refine Shift.done ?_
        exact ⟨[(2, (.pointer (some ((⟨b200, 0, none⟩ : Addr).add 0)))), (3, (.pointer (some ((⟨b201, 0, none⟩ : Addr).add 0)))), (5, (.pointer (some ((⟨b202, 0, none⟩ : Addr).add 0)))), (6, (.func (.func 79) #[] #[(.pointer (some ((⟨b200, 0, none⟩ : Addr).add 0))), (.pointer (some ((⟨b201, 0, none⟩ : Addr).add 0))), (.pointer (some ((⟨b202, 0, none⟩ : Addr).add 0)))])), (23, (sv v384)), (24, (.int .i64 (x382.length : Int))), (25, (.int .i64 0))], ⟨rfl, rfl, rfl, rfl, rfl, rfl, rfl, trivial⟩, 0, nilS, ([] : List Result), rfl, rfl, H, (Slr.nil TyResult _)⟩
      rintro n526 _ K527 _ hK528 ⟨i522, v523, l524, rfl, rfl, H, hs525⟩
      obtain ⟨m529, k530, rfl, hkk531, H⟩ := lps2 H
      unfold M_model_Could_L1 at H
      refine Cw_seq ?_
      refine Cw_region ?_
      refine Ow_q rfl rfl rfl (Qt_cmp rfl rfl rfl) ?_
      refine Ow_nil ?_
      refine Cw_seq ?_
      refine Cw_cond rfl ?_ ?_
      · intro h533
        have h533 := dcd_t (h533)
        have H := ift h533 H
        refine Cw_skip ?_
        refine Cw_seq ?_
        refine Cw_block ?_
        refine Cw_seq ?_
        refine Cw_region ?_
        refine Ow_q rfl rfl rfl (Qt_move rfl) ?_
        obtain ⟨x596, hx597, H⟩ := bnd H
        have hs598 := (hs387).mono hK528
        obtain ⟨r599, hr600, hk601⟩ := Slr.at hs598 hx597
        obtain rfl := hr600
        refine Ow_q rfl rfl rfl (Q_ix (T := TyCase) hs598 hx597 rfl rfl rfl rfl rfl) ?_
        refine Ow_q rfl rfl rfl (Qt_loadA (m := 3) (cs := (Case.cells x596)) rfl rfl rfl rfl ⟨rfl, Rdc.k hk601 rfl⟩) ?_
        refine Ow_cons rfl (OpW_alloc (cs := (Case.cells (Case.mk false 0 0))) rfl rfl rfl rfl (fun b602 => ?_))
        refine Ow_q rfl rfl rfl (Qt_assign rfl) ?_
        refine Ow_cons rfl (OpW_store (vs := (Case.cells x596)) (all' := (Case.cells x596)) rfl rfl rfl rfl rfl .here rfl rfl rfl ?_)
        refine Ow_nil ?_
        refine Cw_join (fun env' K' G' => ∃ (i604 : Int), [(2, (.pointer (some ((⟨b200, 0, none⟩ : Addr).add 0)))), (3, (.pointer (some ((⟨b201, 0, none⟩ : Addr).add 0)))), (5, (.pointer (some ((⟨b202, 0, none⟩ : Addr).add 0)))), (6, (.func (.func 79) #[] #[(.pointer (some ((⟨b200, 0, none⟩ : Addr).add 0))), (.pointer (some ((⟨b201, 0, none⟩ : Addr).add 0))), (.pointer (some ((⟨b202, 0, none⟩ : Addr).add 0)))])), (7, (.int .i64 i604)), (8, (.pointer (some ((⟨b602, 0, none⟩ : Addr).add 0)))), (23, (sv v384)), (24, (.int .i64 (x382.length : Int))), (25, (.int .i64 i522))] = env' ∧ K527 = K' ∧ (.blk b602 73 (Case.cells x596)) :: (.blk b202 41 [(sv v523)]) :: (.blk b201 38 (Op.cells p1 vp1_cases vp1_draws)) :: (.blk b200 29 [(sv vp0)]) :: (.tok 25 5 [(sv v523)]) :: G = G' ∧ M_model_Could_J2 x382 i522 x596 l524 p1 p0 k530 i604 = some y0) ?_ ?_
        · skip
          refine Cw_seq ?_
          refine Cw_region ?_
          refine Ow_q rfl rfl rfl (Qt_fieldAddr (m := 0) rfl rfl rfl rfl rfl) ?_
          refine Ow_q rfl rfl rfl (Qt_load1 (v := (.int .i64 p1.kind)) rfl rfl rfl (Rdc.blk (.tail _ (.tail _ (.head _))) rfl)) ?_
          refine Ow_q rfl rfl rfl (Qt_cmp rfl rfl rfl) ?_
          refine Ow_nil ?_
          refine Cw_cond rfl ?_ ?_
          · intro h605
            have h605 := dcd_f (nt_t (h605))
            have H := iff_ h605 H
            refine Cw_region ?_
            refine Ow_q rfl rfl rfl (Qt_assign rfl) ?_
            refine Ow_nil ?_
            refine Shift.pull (.there (.there (.there (.there .here)))) ?_
            refine Shift.pull (.there (.there (.there (.there .here)))) ?_
            refine Shift.pull (.there (.there (.there (.there .here)))) ?_
            refine Shift.pull (.there (.there (.there (.there .here)))) ?_
            refine Shift.pull (.there (.there (.there (.there .here)))) ?_
            refine Shift.done ?_
            exact ⟨[(2, (.pointer (some ((⟨b200, 0, none⟩ : Addr).add 0)))), (3, (.pointer (some ((⟨b201, 0, none⟩ : Addr).add 0)))), (5, (.pointer (some ((⟨b202, 0, none⟩ : Addr).add 0)))), (6, (.func (.func 79) #[] #[(.pointer (some ((⟨b200, 0, none⟩ : Addr).add 0))), (.pointer (some ((⟨b201, 0, none⟩ : Addr).add 0))), (.pointer (some ((⟨b202, 0, none⟩ : Addr).add 0)))])), (7, (.int .i64 (-1))), (8, (.pointer (some ((⟨b602, 0, none⟩ : Addr).add 0)))), (23, (sv v384)), (24, (.int .i64 (x382.length : Int))), (25, (.int .i64 i522))], ⟨rfl, rfl, rfl, rfl, rfl, rfl, rfl, rfl, rfl, trivial⟩, (-1), rfl, rfl, rfl, H⟩
          · intro h605
            have h605 := dcd_t (nt_f (h605))
            have H := ift h605 H
            refine Cw_skip ?_
            refine Shift.pull (.there (.there (.there (.there .here)))) ?_
            refine Shift.pull (.there (.there (.there (.there .here)))) ?_
            refine Shift.pull (.there (.there (.there (.there .here)))) ?_
            refine Shift.pull (.there (.there (.there (.there .here)))) ?_
            refine Shift.pull (.there (.there (.there (.there .here)))) ?_
            refine Shift.done ?_
            exact ⟨[(2, (.pointer (some ((⟨b200, 0, none⟩ : Addr).add 0)))), (3, (.pointer (some ((⟨b201, 0, none⟩ : Addr).add 0)))), (5, (.pointer (some ((⟨b202, 0, none⟩ : Addr).add 0)))), (6, (.func (.func 79) #[] #[(.pointer (some ((⟨b200, 0, none⟩ : Addr).add 0))), (.pointer (some ((⟨b201, 0, none⟩ : Addr).add 0))), (.pointer (some ((⟨b202, 0, none⟩ : Addr).add 0)))])), (7, (.int .i64 i522)), (8, (.pointer (some ((⟨b602, 0, none⟩ : Addr).add 0)))), (23, (sv v384)), (24, (.int .i64 (x382.length : Int))), (25, (.int .i64 i522))], ⟨rfl, rfl, rfl, rfl, rfl, rfl, rfl, rfl, rfl, trivial⟩, i522, rfl, rfl, rfl, H⟩
        rintro _ _ _ - ⟨i604, rfl, rfl, rfl, H⟩
        unfold M_model_Could_J2 at H
        refine Cw_seq ?_
        refine Cw_region ?_
        refine Ow_q rfl rfl rfl (Qt_move rfl) ?_
        refine Ow_q rfl rfl rfl (Qt_move rfl) ?_
        refine Ow_q rfl rfl rfl (Qt_build (cs := (Result.cells (Result.mk 5 i604 0 false 0))) rfl rfl rfl rfl rfl rfl) ?_
        obtain ⟨x606, hx607, H⟩ := bnd H
        refine Ow.shift (Shift.pull (.there (.there (.there (.there .here)))) (Shift.done ?_))
        refine Ow.shift (Shift.pull (.there (.there .here)) (Shift.done ?_))
        refine Ow.shift (Shift.pull (.there (.there (.there .here))) (Shift.done ?_))
        refine Ow.shift (Shift.pull (.there (.there (.there (.there .here)))) (Shift.done ?_))
        have hs608 := ((hp0).mono hK386).mono hK528
        have hs609 := ((hp1_cases).mono hK386).mono hK528
        have hs610 := ((hp1_draws).mono hK386).mono hK528
        refine Ow_cons rfl (OpW_call rfl Try.call79 rfl rfl (c_M_model_Could_1_freeblk29blk38blk41 (Result.mk 5 i604 0 false 0) b200 p0 vp0 b201 p1 vp1_cases vp1_draws b202 l524 v523 x606 hx607 _ _ hs608 hs609 hs610 hs525) ?_)
        rintro _ K612 _ hK613 ⟨v611, rfl, rfl, hs614⟩
        refine Ow_nil ?_
        refine Cw_seq ?_
        refine Cw_region ?_
        refine Ow_q rfl rfl rfl (Qt_move rfl) ?_
        refine Ow_q rfl rfl rfl (Qt_move rfl) ?_
        refine Ow_q rfl rfl rfl (Qt_build (cs := (Result.cells (Result.mk 1 i604 0 false 0))) rfl rfl rfl rfl rfl rfl) ?_
        obtain ⟨x615, hx616, H⟩ := bnd H
        refine Ow.shift (Shift.pull (.there (.there (.there .here))) (Shift.done ?_))
        refine Ow.shift (Shift.pull (.there (.there (.there .here))) (Shift.done ?_))
        refine Ow.shift (Shift.pull (.there (.there (.there .here))) (Shift.done ?_))
        refine Ow.shift (Shift.pull (.there (.there (.there .here))) (Shift.done ?_))
        have hs617 := (hs608).mono hK613
        have hs618 := (hs609).mono hK613
        have hs619 := (hs610).mono hK613
        refine Ow_cons rfl (OpW_call rfl Try.call79 rfl rfl (c_M_model_Could_1_freeblk29blk38blk41 (Result.mk 1 i604 0 false 0) b200 p0 vp0 b201 p1 vp1_cases vp1_draws b202 x606 v611 x615 hx616 _ _ hs617 hs618 hs619 hs614) ?_)
        rintro _ K621 _ hK622 ⟨v620, rfl, rfl, hs623⟩
        refine Ow_nil ?_
        refine Cw_join (fun env' K' G' => ∃ (v645 : SV) (l646 : List Result), [(2, (.pointer (some ((⟨b200, 0, none⟩ : Addr).add 0)))), (3, (.pointer (some ((⟨b201, 0, none⟩ : Addr).add 0)))), (5, (.pointer (some ((⟨b202, 0, none⟩ : Addr).add 0)))), (6, (.func (.func 79) #[] #[(.pointer (some ((⟨b200, 0, none⟩ : Addr).add 0))), (.pointer (some ((⟨b201, 0, none⟩ : Addr).add 0))), (.pointer (some ((⟨b202, 0, none⟩ : Addr).add 0)))])), (7, (.int .i64 i604)), (23, (sv v384)), (24, (.int .i64 (x382.length : Int))), (25, (.int .i64 i522))] = env' ∧ (.blk b202 41 [(sv v645)]) :: (.blk b201 38 (Op.cells p1 vp1_cases vp1_draws)) :: (.blk b200 29 [(sv vp0)]) :: (.tok 25 5 [(sv v645)]) :: G = G' ∧ M_model_Could_J3 i604 x382 i522 p1 p0 k530 l646 = some y0 ∧ Slr TyResult K' (sv v645) l646) ?_ ?_
        · skip
          refine Cw_seq ?_
          refine Cw_region ?_
          refine Ow_q rfl rfl rfl (Qt_load1 (v := (sv vp0)) rfl rfl rfl (Rdc.blk (.head _) rfl)) ?_
          refine Ow_q rfl rfl rfl (Qt_fieldAddr (m := 1) rfl rfl rfl rfl rfl) ?_
          refine Ow_q rfl rfl rfl (Qt_load1 (v := (.int .i64 x596.channel)) rfl rfl rfl (Rdc.blk (.tail _ (.tail _ (.tail _ (.tail _ (.head _))))) rfl)) ?_
          obtain ⟨x648, x649, hx650, H⟩ := bnd2 H
          have hs651 := (hs617).mono hK622
          refine Ow_cons rfl (OpW_call rfl Try.call55 rfl rfl (c_M_model_find p0 vp0 x596.channel x648 x649 hx650 _ _ hs651) ?_)
          rintro _ _ _ - ⟨v652, rfl, rfl, rfl, hs653⟩
          refine Ow_q rfl rfl rfl (Qt_move rfl) ?_
          refine Ow_q rfl rfl rfl (Qt_extract rfl rfl) ?_
          refine Ow_q rfl rfl rfl (Qt_extract rfl rfl) ?_
          refine Ow_cons rfl (OpW_alloc (cs := (Chan.cells (Chan.mk 0 [] false) nilS)) rfl rfl rfl rfl (fun b654 => ?_))
          refine Ow_cons rfl (OpW_store (vs := (Chan.cells x648 v652)) (all' := (Chan.cells x648 v652)) rfl rfl rfl rfl rfl .here rfl rfl rfl ?_)
          refine Ow_q rfl rfl rfl (Qt_assign rfl) ?_
          refine Ow_nil ?_
          refine Cw_seq ?_
          refine Cw_region ?_
          refine Ow_q rfl rfl rfl (Qt_fieldAddr (m := 1) rfl rfl rfl rfl rfl) ?_
          refine Ow_q rfl rfl rfl (Qt_load1 (v := (sv v652)) rfl rfl rfl (Rdc.blk (.head _) rfl)) ?_
          refine Ow_q rfl rfl rfl (Q_len (T := Ty.u64) hs653 rfl rfl) ?_
          refine Ow_q rfl rfl rfl (Qt_cmp rfl rfl rfl) ?_
          refine Ow_nil ?_
          refine Cw_cond rfl ?_ ?_
          · intro h655
            have h655 := dcd_t (h655)
            have H := ift h655 H
            refine Cw_region ?_
            refine Ow_q rfl rfl rfl (Qt_move rfl) ?_
            refine Ow_q rfl rfl rfl (Qt_move rfl) ?_
            refine Ow_q rfl rfl rfl (Qt_fieldAddr (m := 1) rfl rfl rfl rfl rfl) ?_
            refine Ow_q rfl rfl rfl (Qt_load1 (v := (sv v652)) rfl rfl rfl (Rdc.blk (.head _) rfl)) ?_
            obtain ⟨x656, hx657, H⟩ := bnd H
            obtain ⟨r658, hr659, hk660⟩ := Slr.at hs653 hx657
            obtain rfl := hr659
            refine Ow_q rfl rfl rfl (Q_ix (T := Ty.u64) hs653 hx657 rfl rfl rfl rfl rfl) ?_
            refine Ow_q rfl rfl rfl (Qt_load1 (v := (.int .u64 x656)) rfl rfl rfl (Rdc.k hk660 rfl)) ?_
            refine Ow_q rfl rfl rfl (Qt_build (cs := (Result.cells (Result.mk 2 i604 x656 true 0))) rfl rfl rfl rfl rfl rfl) ?_
            obtain ⟨x661, hx662, H⟩ := bnd H
            refine Ow.shift (Shift.pull (.there (.there (.there (.there .here)))) (Shift.done ?_))
            refine Ow.shift (Shift.pull (.there (.there (.there (.there .here)))) (Shift.done ?_))
            refine Ow.shift (Shift.pull (.there (.there (.there (.there .here)))) (Shift.done ?_))
            refine Ow.shift (Shift.pull (.there (.there (.there (.there .here)))) (Shift.done ?_))
            have hs663 := (hs618).mono hK622
            have hs664 := (hs619).mono hK622
            refine Ow_cons rfl (OpW_call rfl Try.call79 rfl rfl (c_M_model_Could_1_freeblk29blk38blk41 (Result.mk 2 i604 x656 true 0) b200 p0 vp0 b201 p1 vp1_cases vp1_draws b202 x615 v620 x661 hx662 _ _ hs651 hs663 hs664 hs623) ?_)
            rintro _ K666 _ hK667 ⟨v665, rfl, rfl, hs668⟩
            refine Ow_nil ?_
            refine Shift.pull (.there (.there (.there .here))) ?_
            refine Shift.pull (.there .here) ?_
            refine Shift.pull (.there (.there .here)) ?_
            refine Shift.pull (.there (.there (.there .here))) ?_
            refine Shift.rem (.there (.there (.there (.there .here)))) ?_
            refine Shift.rem (.there (.there (.there (.there .here)))) ?_
            refine Shift.done ?_
            exact ⟨[(2, (.pointer (some ((⟨b200, 0, none⟩ : Addr).add 0)))), (3, (.pointer (some ((⟨b201, 0, none⟩ : Addr).add 0)))), (5, (.pointer (some ((⟨b202, 0, none⟩ : Addr).add 0)))), (6, (.func (.func 79) #[] #[(.pointer (some ((⟨b200, 0, none⟩ : Addr).add 0))), (.pointer (some ((⟨b201, 0, none⟩ : Addr).add 0))), (.pointer (some ((⟨b202, 0, none⟩ : Addr).add 0)))])), (7, (.int .i64 i604)), (23, (sv v384)), (24, (.int .i64 (x382.length : Int))), (25, (.int .i64 i522))], ⟨rfl, rfl, rfl, rfl, rfl, rfl, rfl, rfl, trivial⟩, v665, x661, rfl, rfl, H, hs668⟩
          · intro h655
            have h655 := dcd_f (h655)
            have H := iff_ h655 H
            refine Cw_skip ?_
            refine Shift.pull (.there (.there (.there (.there .here)))) ?_
            refine Shift.pull (.there (.there .here)) ?_
            refine Shift.pull (.there (.there (.there .here))) ?_
            refine Shift.pull (.there (.there (.there (.there .here)))) ?_
            refine Shift.rem (.there (.there (.there (.there .here)))) ?_
            refine Shift.rem (.there (.there (.there (.there .here)))) ?_
            refine Shift.done ?_
            exact ⟨[(2, (.pointer (some ((⟨b200, 0, none⟩ : Addr).add 0)))), (3, (.pointer (some ((⟨b201, 0, none⟩ : Addr).add 0)))), (5, (.pointer (some ((⟨b202, 0, none⟩ : Addr).add 0)))), (6, (.func (.func 79) #[] #[(.pointer (some ((⟨b200, 0, none⟩ : Addr).add 0))), (.pointer (some ((⟨b201, 0, none⟩ : Addr).add 0))), (.pointer (some ((⟨b202, 0, none⟩ : Addr).add 0)))])), (7, (.int .i64 i604)), (23, (sv v384)), (24, (.int .i64 (x382.length : Int))), (25, (.int .i64 i522))], ⟨rfl, rfl, rfl, rfl, rfl, rfl, rfl, rfl, trivial⟩, v620, x615, rfl, rfl, H, hs623⟩
        rintro _ K669 _ hK670 ⟨v645, l646, rfl, rfl, H, hs647⟩
        unfold M_model_Could_J3 at H
        refine Cw_region ?_
        refine Ow_q rfl rfl rfl (Qt_move rfl) ?_
        refine Ow_q rfl rfl rfl (Qt_move rfl) ?_
        refine Ow_q rfl rfl rfl (Qt_build (cs := (Result.cells (Result.mk 2 i604 0 false 0))) rfl rfl rfl rfl rfl rfl) ?_
        obtain ⟨x671, hx672, H⟩ := bnd H
        refine Ow.shift (Shift.pull (.there (.there (.there .here))) (Shift.done ?_))
        refine Ow.shift (Shift.pull (.there .here) (Shift.done ?_))
        refine Ow.shift (Shift.pull (.there (.there .here)) (Shift.done ?_))
        refine Ow.shift (Shift.pull (.there (.there (.there .here))) (Shift.done ?_))
        have hs673 := ((hs617).mono hK622).mono hK670
        have hs674 := ((hs618).mono hK622).mono hK670
        have hs675 := ((hs619).mono hK622).mono hK670
        refine Ow_cons rfl (OpW_call rfl Try.call79 rfl rfl (c_M_model_Could_1_freeblk29blk38blk41 (Result.mk 2 i604 0 false 0) b200 p0 vp0 b201 p1 vp1_cases vp1_draws b202 l646 v645 x671 hx672 _ _ hs673 hs674 hs675 hs647) ?_)
        rintro _ K677 _ hK678 ⟨v676, rfl, rfl, hs679⟩
        refine Ow_nil ?_
        refine Cw_region ?_
        refine Ow_q rfl rfl rfl (Qt_arith (e := wI (i522 + 1)) rfl rfl rfl rfl) ?_
        refine Ow_q rfl rfl rfl (Qt_move rfl) ?_
        refine Ow_nil ?_
        refine Shift.pull (.there (.there (.there .here))) ?_
        refine Shift.pull (.there .here) ?_
        refine Shift.pull (.there (.there .here)) ?_
        refine Shift.pull (.there (.there (.there .here))) ?_
        refine Shift.done ?_
        exact ⟨[(2, (.pointer (some ((⟨b200, 0, none⟩ : Addr).add 0)))), (3, (.pointer (some ((⟨b201, 0, none⟩ : Addr).add 0)))), (5, (.pointer (some ((⟨b202, 0, none⟩ : Addr).add 0)))), (6, (.func (.func 79) #[] #[(.pointer (some ((⟨b200, 0, none⟩ : Addr).add 0))), (.pointer (some ((⟨b201, 0, none⟩ : Addr).add 0))), (.pointer (some ((⟨b202, 0, none⟩ : Addr).add 0)))])), (23, (sv v384)), (24, (.int .i64 (x382.length : Int))), (25, (.int .i64 (wI (i522 + 1))))], ⟨rfl, rfl, rfl, rfl, rfl, rfl, rfl, trivial⟩, _, Nat.lt_succ_self _, (wI (i522 + 1)), v676, x671, rfl, rfl, (hkk531 ▸ H), hs679⟩
      · intro h533
        have h533 := dcd_f (h533)
        have H := iff_ h533 H
        refine Cw_exit ?_
        refine Shift.pull (.there (.there (.there .here))) ?_
        refine Shift.pull (.there .here) ?_
        refine Shift.rem (.there (.there .here)) ?_
        refine Shift.rem (.there (.there .here)) ?_
        refine Shift.done ?_
        exact ⟨[(5, (.pointer (some ((⟨b202, 0, none⟩ : Addr).add 0))))], ⟨rfl, trivial⟩, v523, l524, rfl, rfl, H, hs525⟩
    rintro _ K680 _ hK681 ⟨v379, l380, rfl, rfl, H, hs381⟩
    unfold M_model_Could_J1 at H
    refine Cw_seq ?_
    refine Cw_region ?_
    refine Ow_q rfl rfl rfl (Qt_load1 (v := (sv v379)) rfl rfl rfl (Rdc.blk (.head _) rfl)) ?_
    refine Ow_q rfl rfl rfl (Qt_assign rfl) ?_
    refine Ow_nil ?_
    refine Cw_ret ?_
    obtain ey0 := inj1 H
    subst y0
    refine ⟨(by first | exact .inl rfl | exact .inr rfl), [(sv v379)], ⟨(sv v379), _, rfl, rfl, rfl⟩, ?_⟩
    refine Shift.pull (.there .here) ?_
    refine Shift.rem (.there .here) ?_
    refine Shift.done ?_
    exact ⟨v379, rfl, rfl, hs381⟩


end Go.Hx
