/- Printed by program. -/
import Derived.Test.YtlegagccaeoidaaXFM
import Derived.Test.YtlegagccaeoidaaXFWCases2
import Derived.Test.YtlegagccaeoidaaXFWCases3
import Derived.Test.YtlegagccaeoidaaXFWDraw2
import Derived.Test.YtlegagccaeoidaaXFWLaw3
import Derived.Test.YtlegagccaeoidaaXFWRef2
namespace Go.Hx
open Go Go.Proofs
set_option linter.unusedSimpArgs false
set_option linter.unusedVariables false
set_option maxRecDepth 10000
set_option maxHeartbeats 1000000 in
theorem c_M_law3_CasesFair (p0 : Int) (p1 : Int) (y0 : Bool) (H : M_law3_CasesFair p0 p1 = some y0) (K : Kp) (G : List Ent)  :
    Fc Try.prog 5 #[(.int .i64 p0), (.int .u8 p1)] K (G) (fun v K' G' => v = (.bool y0) ∧ G = G') := by
  refine Fc_body Try.func5 rfl Try.ntmps5 Try.results5 rfl ?_
  unfold M_law3_CasesFair at H
  refine Cw_seq ?_
  refine Cw_region ?_
  refine Ow_q rfl rfl rfl (Qt_assign rfl) ?_
  refine Ow_nil ?_
  refine Cw_seq ?_
  refine Cw_seq ?_
  refine Cw_region ?_
  obtain ⟨x374, hx375, H⟩ := bnd H
  refine Ow_cons rfl (OpW_call rfl Try.call7 rfl rfl (c_M_law3_awake  x374 hx375 _ _ ) ?_)
  rintro _ K376 _ hK377 ⟨rfl, rfl⟩
  refine Ow_q rfl rfl rfl (Qt_not rfl) ?_
  refine Ow_nil ?_
  refine Cw_cond rfl ?_ ?_
  · intro h378
    have h378 := nt_t (h378)
    have H := iff_ (btf h378) H
    refine Cw_seq ?_
    refine Cw_region ?_
    refine Ow_q rfl rfl rfl (Qt_assign rfl) ?_
    refine Ow_nil ?_
    refine Cw_ret ?_
    obtain ey0 := inj1 H
    subst y0
    refine ⟨(by first | exact .inl rfl | exact .inr rfl), [(.bool false)], ⟨(.bool false), _, rfl, rfl, rfl⟩, ?_⟩
    refine Shift.done ?_
    exact ⟨rfl, rfl⟩
  · intro h378
    have h378 := nt_f (h378)
    have H := ift h378 H
    refine Cw_skip ?_
    refine Cw_seq ?_
    refine Cw_region ?_
    refine Ow_q rfl rfl rfl (Qt_move rfl) ?_
    obtain ⟨x379, hx380, H⟩ := bnd H
    refine Ow_cons rfl (OpW_call rfl Try.call19 rfl rfl (c_M_draw_Mod p0 4 x379 hx380 _ _ ) ?_)
    rintro _ _ _ - ⟨rfl, rfl, rfl⟩
    refine Ow_q rfl rfl rfl (Qt_arith (e := wI (1 + x379)) rfl rfl rfl rfl) ?_
    refine Ow_q rfl rfl rfl (Qt_assign rfl) ?_
    refine Ow_nil ?_
    refine Cw_seq ?_
    refine Cw_region ?_
    refine Ow_q rfl rfl rfl (Qt_move rfl) ?_
    obtain ⟨x381, hx382, H⟩ := bnd H
    refine Ow_cons rfl (O_make (T := Ty.i64) (r := [(.int .i64 0)]) rfl rfl rfl hx382 rfl rfl rfl rfl rfl rfl rfl rfl rfl rfl (fun v383 rs384 hR385 hz386 => ?_))
    refine Ow_q rfl rfl rfl (Qt_assign rfl) ?_
    refine Ow_q rfl rfl rfl (Qt_assign rfl) ?_
    refine Ow_q rfl rfl rfl (Qt_assign rfl) ?_
    refine Ow_nil ?_
    refine Cw_join (fun env' K' G' => ∃ (i401 : Int), [(0, (.int .i64 (wI (1 + x379)))), (1, (.int .u8 p1)), (5, (sv v383)), (6, (.int .i64 0)), (7, (.int .i64 i401))] = env' ∧ (.row (sv v383) 3 1 rs384.flatten) :: G = G' ∧ M_law3_CasesFair_J1 x379 p1 x381 i401 = some y0) ?_ ?_
    · skip
      refine Cw_seq ?_
      refine Cw_region ?_
      refine Ow_q rfl rfl rfl (Qt_assign rfl) ?_
      refine Ow_nil ?_
      refine Cw_block ?_
      refine Cw_loopM (fun n416 env' K' G' => ∃ (i414 : Int) (i415 : Int), [(0, (.int .i64 (wI (1 + x379)))), (1, (.int .u8 p1)), (5, (sv v383)), (6, (.int .i64 0)), (7, (.int .i64 i414)), (8, (.int .i64 i415))] = env' ∧ K376 = K' ∧ (.row (sv v383) 3 1 rs384.flatten) :: G = G' ∧ lp2 (M_law3_CasesFair_L1 x379 p1 x381) n416 i414 i415 = some y0) BIG ?_ ?_
      · skip
        refine Shift.done ?_
        exact ⟨[(0, (.int .i64 (wI (1 + x379)))), (1, (.int .u8 p1)), (5, (sv v383)), (6, (.int .i64 0)), (7, (.int .i64 0)), (8, (.int .i64 0))], ⟨rfl, rfl, rfl, rfl, rfl, rfl, trivial⟩, 0, 0, rfl, rfl, rfl, H⟩
      rintro n416 _ _ _ - ⟨i414, i415, rfl, rfl, rfl, H⟩
      obtain ⟨m417, k418, rfl, hkk419, H⟩ := lps2 H
      unfold M_law3_CasesFair_L1 at H
      refine Cw_seq ?_
      refine Cw_seq ?_
      refine Cw_region ?_
      refine Ow_q rfl rfl rfl (Qt_move rfl) ?_
      refine Ow_q rfl rfl rfl (Qt_move rfl) ?_
      refine Ow_q rfl rfl rfl (Qt_cmp rfl rfl rfl) ?_
      refine Ow_nil ?_
      refine Cw_cond rfl ?_ ?_
      · intro h421
        have h421 := dcd_t (h421)
        have H := ift h421 H
        refine Cw_skip ?_
        refine Cw_seq ?_
        refine Cw_block ?_
        refine Cw_seq ?_
        refine Cw_region ?_
        refine Ow_q rfl rfl rfl (Qt_move rfl) ?_
        refine Ow_q rfl rfl rfl (Qt_move rfl) ?_
        refine Ow_q rfl rfl rfl (Qt_conv (c := wU i415) rfl rfl rfl rfl) ?_
        obtain ⟨x425, hx426, H⟩ := bnd H
        refine Ow_q rfl rfl rfl (Qt_shr (posO_some hx426).1 rfl rfl) ?_
        refine Ow_q rfl rfl rfl (Qt_and rfl rfl) ?_
        refine Ow_q rfl rfl rfl (Qt_cmp rfl rfl rfl) ?_
        refine Ow_nil ?_
        refine Cw_cond rfl ?_ ?_
        · intro h427
          have h427 := dcd_t (h427)
          have H := ift h427 H
          refine Cw_region ?_
          refine Ow_q rfl rfl rfl (Qt_move rfl) ?_
          refine Ow_q rfl rfl rfl (Qt_arith (e := wI (i414 + 1)) rfl rfl rfl rfl) ?_
          refine Ow_q rfl rfl rfl (Qt_assign rfl) ?_
          refine Ow_nil ?_
          refine Cw_region ?_
          refine Ow_q rfl rfl rfl (Qt_move rfl) ?_
          refine Ow_q rfl rfl rfl (Qt_arith (e := wI (i415 + 1)) rfl rfl rfl rfl) ?_
          refine Ow_q rfl rfl rfl (Qt_assign rfl) ?_
          refine Ow_nil ?_
          refine Shift.done ?_
          exact ⟨[(0, (.int .i64 (wI (1 + x379)))), (1, (.int .u8 p1)), (5, (sv v383)), (6, (.int .i64 0)), (7, (.int .i64 (wI (i414 + 1)))), (8, (.int .i64 (wI (i415 + 1))))], ⟨rfl, rfl, rfl, rfl, rfl, rfl, trivial⟩, _, Nat.lt_succ_self _, (wI (i414 + 1)), (wI (i415 + 1)), rfl, rfl, rfl, (hkk419 ▸ H)⟩
        · intro h427
          have h427 := dcd_f (h427)
          have H := iff_ h427 H
          refine Cw_skip ?_
          refine Cw_region ?_
          refine Ow_q rfl rfl rfl (Qt_move rfl) ?_
          refine Ow_q rfl rfl rfl (Qt_arith (e := wI (i415 + 1)) rfl rfl rfl rfl) ?_
          refine Ow_q rfl rfl rfl (Qt_assign rfl) ?_
          refine Ow_nil ?_
          refine Shift.done ?_
          exact ⟨[(0, (.int .i64 (wI (1 + x379)))), (1, (.int .u8 p1)), (5, (sv v383)), (6, (.int .i64 0)), (7, (.int .i64 i414)), (8, (.int .i64 (wI (i415 + 1))))], ⟨rfl, rfl, rfl, rfl, rfl, rfl, trivial⟩, _, Nat.lt_succ_self _, i414, (wI (i415 + 1)), rfl, rfl, rfl, (hkk419 ▸ H)⟩
      · intro h421
        have h421 := dcd_f (h421)
        have H := iff_ h421 H
        refine Cw_exit ?_
        refine Shift.done ?_
        exact ⟨[(0, (.int .i64 (wI (1 + x379)))), (1, (.int .u8 p1)), (5, (sv v383)), (6, (.int .i64 0)), (7, (.int .i64 i414))], ⟨rfl, rfl, rfl, rfl, rfl, trivial⟩, i414, rfl, rfl, H⟩
    rintro _ K428 _ hK429 ⟨i401, rfl, rfl, H⟩
    unfold M_law3_CasesFair_J1 at H
    refine Cw_join (fun env' K' G' => ∃ (l728 : List Int) (rs730 : List (List Value)) (i731 : Int), [(0, (.int .i64 (wI (1 + x379)))), (1, (.int .u8 p1)), (5, (sv v383)), (6, (.int .i64 i731)), (7, (.int .i64 i401))] = env' ∧ (.row (sv v383) 3 1 rs730.flatten) :: G = G' ∧ M_law3_CasesFair_J2 x379 p1 i401 l728 i731 = some y0 ∧ RowR Ty.i64 K' rs730 l728) ?_ ?_
    · skip
      refine Cw_seq ?_
      refine Cw_region ?_
      refine Ow_q rfl rfl rfl (Qt_assign rfl) ?_
      refine Ow_nil ?_
      refine Cw_block ?_
      refine Cw_loopM (fun n1030 env' K' G' => ∃ (l1026 : List Int) (rs1028 : List (List Value)) (i1029 : Int), [(0, (.int .i64 (wI (1 + x379)))), (1, (.int .u8 p1)), (5, (sv v383)), (6, (.int .i64 i1029)), (7, (.int .i64 i401)), (9, (.int .i64 i1029))] = env' ∧ (.row (sv v383) 3 1 rs1028.flatten) :: G = G' ∧ lp2 (M_law3_CasesFair_L2 x379 p1 i401) n1030 l1026 i1029 = some y0 ∧ RowR Ty.i64 K' rs1028 l1026) BIG ?_ ?_
      · skip
        have hs1031 := (hR385).mono hK429
        refine Shift.done ?_
        exact ⟨[(0, (.int .i64 (wI (1 + x379)))), (1, (.int .u8 p1)), (5, (sv v383)), (6, (.int .i64 0)), (7, (.int .i64 i401)), (9, (.int .i64 0))], ⟨rfl, rfl, rfl, rfl, rfl, rfl, trivial⟩, x381, rs384, 0, rfl, rfl, H, hs1031⟩
      rintro n1030 _ K1032 _ hK1033 ⟨l1026, rs1028, i1029, rfl, rfl, H, hR1027⟩
      obtain ⟨m1034, k1035, rfl, hkk1036, H⟩ := lps2 H
      unfold M_law3_CasesFair_L2 at H
      refine Cw_seq ?_
      refine Cw_seq ?_
      refine Cw_region ?_
      refine Ow_q rfl rfl rfl (Qt_move rfl) ?_
      refine Ow_q rfl rfl rfl (Qt_move rfl) ?_
      obtain ⟨x1042, hx1043, H⟩ := bnd H
      refine Ow_cons rfl (OpW_call rfl Try.call22 rfl rfl (c_M_ref2_Count (wI (1 + x379)) x1042 hx1043 _ _ ) ?_)
      rintro _ K1044 _ hK1045 ⟨rfl, rfl⟩
      refine Ow_q rfl rfl rfl (Qt_cmp rfl rfl rfl) ?_
      refine Ow_nil ?_
      refine Cw_cond rfl ?_ ?_
      · intro h1046
        have h1046 := dcd_t (h1046)
        have H := ift h1046 H
        refine Cw_skip ?_
        refine Cw_join (fun env' K' G' => ∃ (l1180 : List Int) (rs1182 : List (List Value)), [(0, (.int .i64 (wI (1 + x379)))), (1, (.int .u8 p1)), (5, (sv v383)), (6, (.int .i64 (wI (i1029 + 1)))), (7, (.int .i64 i401)), (9, (.int .i64 i1029))] = env' ∧ (.row (sv v383) 3 1 rs1182.flatten) :: G = G' ∧ M_law3_CasesFair_J3 x379 p1 i1029 i401 k1035 l1180 = some y0 ∧ RowR Ty.i64 K' rs1182 l1180) ?_ ?_
        · skip
          refine Cw_block ?_
          refine Cw_seq ?_
          refine Cw_region ?_
          refine Ow_q rfl rfl rfl (Qt_move rfl) ?_
          refine Ow_q rfl rfl rfl (Qt_move rfl) ?_
          obtain ⟨x1183, x1184, hx1185, H⟩ := bnd2 H
          refine Ow_cons rfl (OpW_call rfl Try.call23 rfl rfl (c_M_ref2_Nth (wI (1 + x379)) i1029 x1183 x1184 hx1185 _ _ ) ?_)
          rintro _ K1188 _ hK1189 ⟨v1186, rs1187, rfl, rfl, hs1190⟩
          refine Ow_q rfl rfl rfl (Qt_move rfl) ?_
          refine Ow_q rfl rfl rfl (Qt_extract rfl rfl) ?_
          refine Ow_q rfl rfl rfl (Qt_extract rfl rfl) ?_
          refine Ow_q rfl rfl rfl (Qt_assign rfl) ?_
          refine Ow_q rfl rfl rfl (Qt_assign rfl) ?_
          refine Ow_nil ?_
          refine Cw_seq ?_
          refine Cw_region ?_
          refine Ow_q rfl rfl rfl (Qt_move rfl) ?_
          obtain ⟨x1191, hx1192, H⟩ := bnd H
          refine Ow_cons rfl (O_make (T := TyCase) (r := (Case.cells (Case.mk false 0 0))) rfl rfl rfl hx1192 rfl rfl rfl rfl rfl rfl rfl rfl rfl rfl (fun v1193 rs1194 hR1195 hz1196 => ?_))
          refine Ow_q rfl rfl rfl (Qt_move rfl) ?_
          refine Ow.shift (Shift.settle (T := TyCase) .here hR1195 rfl (fun K1197 hK1198 hs1199 => Shift.done ?_))
          have hs1203 := (hs1190).mono hK1198
          refine Ow.shift (Shift.settle (T := Ty.i64) (.there .here) hs1203 rfl (fun K1200 hK1201 hs1202 => Shift.done ?_))
          refine Ow_q rfl rfl rfl (Qt_build (cs := (Op.cells (Op.mk 4 0 0 0 0 x1191 x1183) v1193 v1186)) rfl rfl rfl rfl rfl rfl) ?_
          refine Ow_cons rfl (OpW_alloc (cs := (Op.cells (Op.mk 0 0 0 0 0 [] []) nilS nilS)) rfl rfl rfl rfl (fun b1204 => ?_))
          refine Ow_cons rfl (OpW_store (vs := (Op.cells (Op.mk 4 0 0 0 0 x1191 x1183) v1193 v1186)) (all' := (Op.cells (Op.mk 4 0 0 0 0 x1191 x1183) v1193 v1186)) rfl rfl rfl rfl rfl .here rfl rfl rfl ?_)
          refine Ow_nil ?_
          refine Cw_seq ?_
          refine Cw_region ?_
          refine Ow_q rfl rfl rfl (Qt_loadA (m := 7) (cs := (Op.cells (Op.mk 4 0 0 0 0 x1191 x1183) v1193 v1186)) rfl rfl rfl rfl ⟨rfl, Rdc.blk (.head _) rfl⟩) ?_
          obtain ⟨x1205, hx1206, H⟩ := bnd H
          have hs1207 := (hs1199).mono hK1201
          refine Ow_cons rfl (OpW_call rfl Try.call24 rfl rfl (c_M_cases_Order (Op.mk 4 0 0 0 0 x1191 x1183) v1193 v1186 x1205 hx1206 _ _ hs1207 hs1202) ?_)
          rintro _ K1210 _ hK1211 ⟨v1208, rs1209, rfl, rfl, hs1212⟩
          refine Ow_q rfl rfl rfl (Qt_assign rfl) ?_
          refine Ow_nil ?_
          refine Cw_seq ?_
          refine Cw_join (fun env' K' G' => ∃ (t1233 : Bool), [(0, (.int .i64 (wI (1 + x379)))), (1, (.int .u8 p1)), (5, (sv v383)), (6, (.int .i64 i1029)), (7, (.int .i64 i401)), (9, (.int .i64 i1029)), (13, (sv v1208)), (62, (.bool t1233))] = env' ∧ (.row (sv v1208) 3 1 rs1209.flatten) :: (.row (sv v383) 3 1 rs1028.flatten) :: G = G' ∧ M_law3_CasesFair_J4 x379 p1 l1026 i1029 i401 x1205 k1035 t1233 = some y0) ?_ ?_
          · skip
            refine Cw_region ?_
            refine Ow_q rfl rfl rfl (Qt_loadA (m := 7) (cs := (Op.cells (Op.mk 4 0 0 0 0 x1191 x1183) v1193 v1186)) rfl rfl rfl rfl ⟨rfl, Rdc.blk (.tail _ (.head _)) rfl⟩) ?_
            obtain ⟨x1234, hx1235, H⟩ := bnd H
            have hs1236 := (hs1207).mono hK1211
            have hs1237 := (hs1202).mono hK1211
            refine Ow_cons rfl (OpW_call rfl Try.call12 rfl rfl (c_M_cases_Check (Op.mk 4 0 0 0 0 x1191 x1183) v1193 v1186 x1234 hx1235 _ _ hs1236 hs1237) ?_)
            rintro _ K1238 _ hK1239 ⟨rfl, rfl⟩
            refine Ow_q rfl rfl rfl (Qt_cmp rfl rfl rfl) ?_
            refine Ow_q rfl rfl rfl (Qt_move rfl) ?_
            refine Ow_caseG rfl rfl rfl ?_ ?_
            · intro h1240
              have h1240 := dcd_f (nt_t (h1240))
              have H := iff_ h1240 H
              refine Ow_pass rfl rfl rfl rfl rfl rfl rfl ?_
              refine Ow_pass rfl rfl rfl rfl rfl rfl rfl ?_
              refine Ow_pass rfl rfl rfl rfl rfl rfl rfl ?_
              refine Ow_pass rfl rfl rfl rfl rfl rfl rfl ?_
              refine Ow_q rfl rfl rfl (Qt_pick_t rfl rfl) ?_
              refine Ow_nil ?_
              refine Shift.pull (.there (.there (.there (.there .here)))) ?_
              refine Shift.pull (.there .here) ?_
              refine Shift.rem (.there (.there .here)) ?_
              refine Shift.rem (.there (.there .here)) ?_
              refine Shift.rem (.there (.there .here)) ?_
              refine Shift.done ?_
              exact ⟨[(0, (.int .i64 (wI (1 + x379)))), (1, (.int .u8 p1)), (5, (sv v383)), (6, (.int .i64 i1029)), (7, (.int .i64 i401)), (9, (.int .i64 i1029)), (13, (sv v1208)), (62, (.bool true))], ⟨rfl, rfl, rfl, rfl, rfl, rfl, rfl, rfl, trivial⟩, true, rfl, rfl, H⟩
            · intro h1240
              have h1240 := dcd_t (nt_f (h1240))
              have H := ift h1240 H
              refine Ow_qw rfl rfl rfl rfl rfl rfl (Qt_move rfl) ?_
              have hs1241 := (hs1212).mono hK1239
              refine Ow_qw rfl rfl rfl rfl rfl rfl (Q_lenR (T := Ty.i64) (.head _) hs1241 rfl rfl rfl) ?_
              refine Ow_qw rfl rfl rfl rfl rfl rfl (Qt_move rfl) ?_
              refine Ow_qw rfl rfl rfl rfl rfl rfl (Qt_cmp rfl rfl rfl) ?_
              refine Ow_q rfl rfl rfl (Qt_pick_f rfl rfl) ?_
              refine Ow_nil ?_
              refine Shift.pull (.there (.there (.there (.there .here)))) ?_
              refine Shift.pull (.there .here) ?_
              refine Shift.rem (.there (.there .here)) ?_
              refine Shift.rem (.there (.there .here)) ?_
              refine Shift.rem (.there (.there .here)) ?_
              refine Shift.done ?_
              exact ⟨[(0, (.int .i64 (wI (1 + x379)))), (1, (.int .u8 p1)), (5, (sv v383)), (6, (.int .i64 i1029)), (7, (.int .i64 i401)), (9, (.int .i64 i1029)), (13, (sv v1208)), (62, (.bool (!(dcd ((x1205.length : Int) = (wI (1 + x379)))))))], ⟨rfl, rfl, rfl, rfl, rfl, rfl, rfl, rfl, trivial⟩, (!(dcd ((x1205.length : Int) = (wI (1 + x379))))), rfl, rfl, H⟩
          rintro _ K1242 _ hK1243 ⟨t1233, rfl, rfl, H⟩
          unfold M_law3_CasesFair_J4 at H
          refine Cw_cond rfl ?_ ?_
          · intro h1244
            have H := ift h1244 H
            refine Cw_seq ?_
            refine Cw_region ?_
            refine Ow_q rfl rfl rfl (Qt_assign rfl) ?_
            refine Ow_nil ?_
            refine Cw_ret ?_
            obtain ey0 := inj1 H
            subst y0
            refine ⟨(by first | exact .inl rfl | exact .inr rfl), [(.bool false)], ⟨(.bool false), _, rfl, rfl, rfl⟩, ?_⟩
            refine Shift.rem .here ?_
            refine Shift.rem .here ?_
            refine Shift.done ?_
            exact ⟨rfl, rfl⟩
          · intro h1244
            have H := iff_ (btf h1244) H
            refine Cw_skip ?_
            refine Cw_seq ?_
            refine Cw_region ?_
            refine Ow_q rfl rfl rfl (Qt_move rfl) ?_
            refine Ow_q rfl rfl rfl (Qt_arith (e := wI (i1029 + 1)) rfl rfl rfl rfl) ?_
            refine Ow_q rfl rfl rfl (Qt_assign rfl) ?_
            refine Ow_nil ?_
            refine Cw_seq ?_
            refine Cw_region ?_
            refine Ow_q rfl rfl rfl (Qt_move rfl) ?_
            have hs1245 := (hs1212).mono hK1243
            refine Ow_q rfl rfl rfl (Q_lenR (T := Ty.i64) (.head _) hs1245 rfl rfl rfl) ?_
            refine Ow_q rfl rfl rfl (Qt_move rfl) ?_
            refine Ow_nil ?_
            refine Cw_block ?_
            refine Cw_loopM (fun n1336 env' K' G' => ∃ (i1335 : Int), [(0, (.int .i64 (wI (1 + x379)))), (1, (.int .u8 p1)), (5, (sv v383)), (6, (.int .i64 (wI (i1029 + 1)))), (7, (.int .i64 i401)), (9, (.int .i64 i1029)), (13, (sv v1208)), (66, (.int .i64 (x1205.length : Int))), (67, (.int .i64 i1335))] = env' ∧ K1242 = K' ∧ (.row (sv v1208) 3 1 rs1209.flatten) :: (.row (sv v383) 3 1 rs1028.flatten) :: G = G' ∧ lp1 (M_law3_CasesFair_L3 x379 p1 l1026 i1029 i401 x1205 k1035) n1336 i1335 = some y0) BIG ?_ ?_
            · skip
              refine Shift.pull (.there .here) ?_
              refine Shift.pull (.there .here) ?_
              refine Shift.done ?_
              exact ⟨[(0, (.int .i64 (wI (1 + x379)))), (1, (.int .u8 p1)), (5, (sv v383)), (6, (.int .i64 (wI (i1029 + 1)))), (7, (.int .i64 i401)), (9, (.int .i64 i1029)), (13, (sv v1208)), (66, (.int .i64 (x1205.length : Int))), (67, (.int .i64 0))], ⟨rfl, rfl, rfl, rfl, rfl, rfl, rfl, rfl, rfl, trivial⟩, 0, rfl, rfl, rfl, H⟩
            rintro n1336 _ _ _ - ⟨i1335, rfl, rfl, rfl, H⟩
            obtain ⟨m1337, k1338, rfl, hkk1339, H⟩ := lps1 H
            unfold M_law3_CasesFair_L3 at H
            refine Cw_seq ?_
            refine Cw_region ?_
            refine Ow_q rfl rfl rfl (Qt_cmp rfl rfl rfl) ?_
            refine Ow_nil ?_
            refine Cw_seq ?_
            refine Cw_cond rfl ?_ ?_
            · intro h1341
              have h1341 := dcd_t (h1341)
              have H := ift h1341 H
              refine Cw_skip ?_
              refine Cw_seq ?_
              refine Cw_block ?_
              refine Cw_seq ?_
              refine Cw_region ?_
              refine Ow_q rfl rfl rfl (Qt_move rfl) ?_
              refine Ow_q rfl rfl rfl (Qt_assign rfl) ?_
              refine Ow_nil ?_
              refine Cw_seq ?_
              refine Cw_join (fun env' K' G' => ∃ (t1405 : Bool), [(0, (.int .i64 (wI (1 + x379)))), (1, (.int .u8 p1)), (5, (sv v383)), (6, (.int .i64 (wI (i1029 + 1)))), (7, (.int .i64 i401)), (9, (.int .i64 i1029)), (13, (sv v1208)), (14, (.int .i64 i1335)), (66, (.int .i64 (x1205.length : Int))), (67, (.int .i64 i1335)), (82, (.bool t1405))] = env' ∧ K1242 = K' ∧ (.row (sv v1208) 3 1 rs1209.flatten) :: (.row (sv v383) 3 1 rs1028.flatten) :: G = G' ∧ M_law3_CasesFair_J5 x379 p1 l1026 i1029 i401 x1205 i1335 k1035 k1338 t1405 = some y0) ?_ ?_
              · skip
                refine Cw_region ?_
                refine Ow_q rfl rfl rfl (Qt_move rfl) ?_
                refine Ow_q rfl rfl rfl (Qt_move rfl) ?_
                obtain ⟨x1406, hx1407, H⟩ := bnd H
                obtain ⟨r1408, hq1409, hr1410⟩ := RowR.at hs1245 hx1407
                obtain rfl := hr1410
                refine Ow_q rfl rfl rfl (Q_ixR (T := Ty.i64) (.head _) hs1245 hq1409 (getI_ix hx1407).1 rfl rfl rfl rfl rfl) ?_
                refine Ow_q rfl rfl rfl (Qt_load1 (v := (.int .i64 x1406)) rfl rfl rfl (Rd_row (T := Ty.i64) (.head _) hs1245 hq1409 rfl rfl)) ?_
                refine Ow_q rfl rfl rfl (Qt_cmp rfl rfl rfl) ?_
                refine Ow_q rfl rfl rfl (Qt_move rfl) ?_
                refine Ow_caseG rfl rfl rfl ?_ ?_
                · intro h1411
                  have h1411 := dcd_t (h1411)
                  have H := ift h1411 H
                  refine Ow_pass rfl rfl rfl rfl rfl rfl rfl ?_
                  refine Ow_pass rfl rfl rfl rfl rfl rfl rfl ?_
                  refine Ow_pass rfl rfl rfl rfl rfl rfl rfl ?_
                  refine Ow_pass rfl rfl rfl rfl rfl rfl rfl ?_
                  refine Ow_pass rfl rfl rfl rfl rfl rfl rfl ?_
                  refine Ow_pass rfl rfl rfl rfl rfl rfl rfl ?_
                  refine Ow_q rfl rfl rfl (Qt_pick_t rfl rfl) ?_
                  refine Ow_nil ?_
                  refine Shift.pull (.there .here) ?_
                  refine Shift.pull (.there .here) ?_
                  refine Shift.done ?_
                  exact ⟨[(0, (.int .i64 (wI (1 + x379)))), (1, (.int .u8 p1)), (5, (sv v383)), (6, (.int .i64 (wI (i1029 + 1)))), (7, (.int .i64 i401)), (9, (.int .i64 i1029)), (13, (sv v1208)), (14, (.int .i64 i1335)), (66, (.int .i64 (x1205.length : Int))), (67, (.int .i64 i1335)), (82, (.bool true))], ⟨rfl, rfl, rfl, rfl, rfl, rfl, rfl, rfl, rfl, rfl, rfl, trivial⟩, true, rfl, rfl, rfl, H⟩
                · intro h1411
                  have h1411 := dcd_f (h1411)
                  have H := iff_ h1411 H
                  refine Ow_qw rfl rfl rfl rfl rfl rfl (Qt_move rfl) ?_
                  refine Ow_qw rfl rfl rfl rfl rfl rfl (Qt_move rfl) ?_
                  obtain ⟨x1412, hx1413, H⟩ := bnd H
                  obtain ⟨r1414, hq1415, hr1416⟩ := RowR.at hs1245 hx1413
                  obtain rfl := hr1416
                  refine Ow_qw rfl rfl rfl rfl rfl rfl (Q_ixR (T := Ty.i64) (.head _) hs1245 hq1415 (getI_ix hx1413).1 rfl rfl rfl rfl rfl) ?_
                  refine Ow_qw rfl rfl rfl rfl rfl rfl (Qt_load1 (v := (.int .i64 x1412)) rfl rfl rfl (Rd_row (T := Ty.i64) (.head _) hs1245 hq1415 rfl rfl)) ?_
                  refine Ow_qw rfl rfl rfl rfl rfl rfl (Qt_move rfl) ?_
                  refine Ow_qw rfl rfl rfl rfl rfl rfl (Qt_cmp rfl rfl rfl) ?_
                  refine Ow_q rfl rfl rfl (Qt_pick_f rfl rfl) ?_
                  refine Ow_nil ?_
                  refine Shift.pull (.there .here) ?_
                  refine Shift.pull (.there .here) ?_
                  refine Shift.done ?_
                  exact ⟨[(0, (.int .i64 (wI (1 + x379)))), (1, (.int .u8 p1)), (5, (sv v383)), (6, (.int .i64 (wI (i1029 + 1)))), (7, (.int .i64 i401)), (9, (.int .i64 i1029)), (13, (sv v1208)), (14, (.int .i64 i1335)), (66, (.int .i64 (x1205.length : Int))), (67, (.int .i64 i1335)), (82, (.bool (dcd (x1412 ≥ (wI (1 + x379))))))], ⟨rfl, rfl, rfl, rfl, rfl, rfl, rfl, rfl, rfl, rfl, rfl, trivial⟩, (dcd (x1412 ≥ (wI (1 + x379)))), rfl, rfl, rfl, H⟩
              rintro _ _ _ - ⟨t1405, rfl, rfl, rfl, H⟩
              unfold M_law3_CasesFair_J5 at H
              refine Cw_cond rfl ?_ ?_
              · intro h1417
                have H := ift h1417 H
                refine Cw_seq ?_
                refine Cw_region ?_
                refine Ow_q rfl rfl rfl (Qt_assign rfl) ?_
                refine Ow_nil ?_
                refine Cw_ret ?_
                obtain ey0 := inj1 H
                subst y0
                refine ⟨(by first | exact .inl rfl | exact .inr rfl), [(.bool false)], ⟨(.bool false), _, rfl, rfl, rfl⟩, ?_⟩
                refine Shift.rem .here ?_
                refine Shift.rem .here ?_
                refine Shift.done ?_
                exact ⟨rfl, rfl⟩
              · intro h1417
                have H := iff_ (btf h1417) H
                refine Cw_skip ?_
                refine Cw_seq ?_
                refine Cw_region ?_
                refine Ow_q rfl rfl rfl (Qt_move rfl) ?_
                refine Ow_q rfl rfl rfl (Qt_move rfl) ?_
                refine Ow_q rfl rfl rfl (Qt_move rfl) ?_
                obtain ⟨x1418, hx1419, H⟩ := bnd H
                obtain ⟨r1420, hq1421, hr1422⟩ := RowR.at hs1245 hx1419
                obtain rfl := hr1422
                refine Ow_q rfl rfl rfl (Q_ixR (T := Ty.i64) (.head _) hs1245 hq1421 (getI_ix hx1419).1 rfl rfl rfl rfl rfl) ?_
                refine Ow_q rfl rfl rfl (Qt_load1 (v := (.int .i64 x1418)) rfl rfl rfl (Rd_row (T := Ty.i64) (.head _) hs1245 hq1421 rfl rfl)) ?_
                refine Ow_q rfl rfl rfl (Qt_conv (c := wU x1418) rfl rfl rfl rfl) ?_
                obtain ⟨x1423, hx1424, H⟩ := bnd H
                refine Ow_q rfl rfl rfl (Qt_shr (posO_some hx1424).1 rfl rfl) ?_
                refine Ow_q rfl rfl rfl (Qt_and rfl rfl) ?_
                refine Ow_q rfl rfl rfl (Qt_cmp rfl rfl rfl) ?_
                refine Ow_nil ?_
                refine Cw_cond rfl ?_ ?_
                · intro h1425
                  have h1425 := dcd_t (h1425)
                  have H := ift h1425 H
                  refine Cw_seq ?_
                  refine Cw_region ?_
                  refine Ow_q rfl rfl rfl (Qt_move rfl) ?_
                  refine Ow_q rfl rfl rfl (Qt_move rfl) ?_
                  refine Ow_q rfl rfl rfl (Qt_move rfl) ?_
                  obtain ⟨x1426, hx1427, H⟩ := bnd H
                  obtain ⟨r1428, hq1429, hr1430⟩ := RowR.at hs1245 hx1427
                  obtain rfl := hr1430
                  refine Ow_q rfl rfl rfl (Q_ixR (T := Ty.i64) (.head _) hs1245 hq1429 (getI_ix hx1427).1 rfl rfl rfl rfl rfl) ?_
                  refine Ow_q rfl rfl rfl (Qt_load1 (v := (.int .i64 x1426)) rfl rfl rfl (Rd_row (T := Ty.i64) (.head _) hs1245 hq1429 rfl rfl)) ?_
                  obtain ⟨x1431, hx1432, H⟩ := bnd H
                  have hs1433 := ((((((hR1027).mono hK1045).mono hK1189).mono hK1198).mono hK1201).mono hK1211).mono hK1243
                  obtain ⟨r1434, hq1435, hr1436⟩ := RowR.at hs1433 hx1432
                  obtain rfl := hr1436
                  refine Ow_q rfl rfl rfl (Q_ixR (T := Ty.i64) (.tail _ (.head _)) hs1433 hq1435 (getI_ix hx1432).1 rfl rfl rfl rfl rfl) ?_
                  refine Ow_q rfl rfl rfl (Qt_load1 (v := (.int .i64 x1431)) rfl rfl rfl (Rd_row (T := Ty.i64) (.tail _ (.head _)) hs1433 hq1435 rfl rfl)) ?_
                  refine Ow_q rfl rfl rfl (Qt_arith (e := wI (x1431 + 1)) rfl rfl rfl rfl) ?_
                  obtain ⟨x1437, hx1438, H⟩ := bnd H
                  obtain ⟨r1439, hq1440, hr1441⟩ := RowR.at hs1433 hx1438
                  obtain rfl := hr1441
                  refine Ow_q rfl rfl rfl (Q_ixR (T := Ty.i64) (.tail _ (.head _)) hs1433 hq1440 (getI_ix hx1438).1 rfl rfl rfl rfl rfl) ?_
                  refine Ow_cons rfl (O_storeR (T := Ty.i64) (vs := [(.int .i64 (wI (x1431 + 1)))]) (r' := [(.int .i64 (wI (x1431 + 1)))]) (l' := (setI l1026 x1426 (wI (x1431 + 1)))) rfl rfl rfl rfl rfl (.there .here) hs1433 hq1440 rfl rfl rfl (RowR.set x1426 hs1433 rfl) (fun hR1442 => ?_))
                  have hE1443 := set_at hq1440 (v := [(.int .i64 (wI (x1431 + 1)))])
                  refine Ow_nil ?_
                  refine Cw_exit ?_
                  refine Shift.pull (.there .here) ?_
                  refine Shift.rem (.there .here) ?_
                  refine Shift.done ?_
                  exact ⟨[(0, (.int .i64 (wI (1 + x379)))), (1, (.int .u8 p1)), (5, (sv v383)), (6, (.int .i64 (wI (i1029 + 1)))), (7, (.int .i64 i401)), (9, (.int .i64 i1029))], ⟨rfl, rfl, rfl, rfl, rfl, rfl, trivial⟩, (setI l1026 x1426 (wI (x1431 + 1))), (rs1028.set x1426.toNat [(.int .i64 (wI (x1431 + 1)))]), rfl, rfl, H, hR1442⟩
                · intro h1425
                  have h1425 := dcd_f (h1425)
                  have H := iff_ h1425 H
                  refine Cw_skip ?_
                  refine Cw_region ?_
                  refine Ow_q rfl rfl rfl (Qt_arith (e := wI (i1335 + 1)) rfl rfl rfl rfl) ?_
                  refine Ow_q rfl rfl rfl (Qt_move rfl) ?_
                  refine Ow_nil ?_
                  refine Shift.pull (.there .here) ?_
                  refine Shift.pull (.there .here) ?_
                  refine Shift.done ?_
                  exact ⟨[(0, (.int .i64 (wI (1 + x379)))), (1, (.int .u8 p1)), (5, (sv v383)), (6, (.int .i64 (wI (i1029 + 1)))), (7, (.int .i64 i401)), (9, (.int .i64 i1029)), (13, (sv v1208)), (66, (.int .i64 (x1205.length : Int))), (67, (.int .i64 (wI (i1335 + 1))))], ⟨rfl, rfl, rfl, rfl, rfl, rfl, rfl, rfl, rfl, trivial⟩, _, Nat.lt_succ_self _, (wI (i1335 + 1)), rfl, rfl, rfl, (hkk1339 ▸ H)⟩
            · intro h1341
              have h1341 := dcd_f (h1341)
              have H := iff_ h1341 H
              refine Cw_exit ?_
              refine Shift.pull (.there .here) ?_
              refine Shift.rem (.there .here) ?_
              have hs1444 := ((((((hR1027).mono hK1045).mono hK1189).mono hK1198).mono hK1201).mono hK1211).mono hK1243
              refine Shift.done ?_
              exact ⟨[(0, (.int .i64 (wI (1 + x379)))), (1, (.int .u8 p1)), (5, (sv v383)), (6, (.int .i64 (wI (i1029 + 1)))), (7, (.int .i64 i401)), (9, (.int .i64 i1029))], ⟨rfl, rfl, rfl, rfl, rfl, rfl, trivial⟩, l1026, rs1028, rfl, rfl, H, hs1444⟩
        rintro _ K1445 _ hK1446 ⟨l1180, rs1182, rfl, rfl, H, hR1181⟩
        unfold M_law3_CasesFair_J3 at H
        refine Cw_region ?_
        refine Ow_q rfl rfl rfl (Qt_move rfl) ?_
        refine Ow_q rfl rfl rfl (Qt_arith (e := wI (i1029 + 1)) rfl rfl rfl rfl) ?_
        refine Ow_q rfl rfl rfl (Qt_assign rfl) ?_
        refine Ow_nil ?_
        refine Shift.done ?_
        exact ⟨[(0, (.int .i64 (wI (1 + x379)))), (1, (.int .u8 p1)), (5, (sv v383)), (6, (.int .i64 (wI (i1029 + 1)))), (7, (.int .i64 i401)), (9, (.int .i64 (wI (i1029 + 1))))], ⟨rfl, rfl, rfl, rfl, rfl, rfl, trivial⟩, _, Nat.lt_succ_self _, l1180, rs1182, (wI (i1029 + 1)), rfl, rfl, (hkk1036 ▸ H), hR1181⟩
      · intro h1046
        have h1046 := dcd_f (h1046)
        have H := iff_ h1046 H
        refine Cw_exit ?_
        have hs1447 := (hR1027).mono hK1045
        refine Shift.done ?_
        exact ⟨[(0, (.int .i64 (wI (1 + x379)))), (1, (.int .u8 p1)), (5, (sv v383)), (6, (.int .i64 i1029)), (7, (.int .i64 i401))], ⟨rfl, rfl, rfl, rfl, rfl, trivial⟩, l1026, rs1028, i1029, rfl, rfl, H, hs1447⟩
    rintro _ K1448 _ hK1449 ⟨l728, rs730, i731, rfl, rfl, H, hR729⟩
    unfold M_law3_CasesFair_J2 at H
    refine Cw_join (fun env' K' G' => [] = env' ∧ G = G' ∧ M_law3_CasesFair_J6 = some y0) ?_ ?_
    · skip
      refine Cw_seq ?_
      refine Cw_region ?_
      refine Ow_q rfl rfl rfl (Qt_assign rfl) ?_
      refine Ow_nil ?_
      refine Cw_block ?_
      refine Cw_loopM (fun n1506 env' K' G' => ∃ (i1505 : Int), [(0, (.int .i64 (wI (1 + x379)))), (1, (.int .u8 p1)), (5, (sv v383)), (6, (.int .i64 i731)), (7, (.int .i64 i401)), (15, (.int .i64 i1505))] = env' ∧ K1448 = K' ∧ (.row (sv v383) 3 1 rs730.flatten) :: G = G' ∧ lp1 (M_law3_CasesFair_L4 x379 p1 l728 i731 i401) n1506 i1505 = some y0) BIG ?_ ?_
      · skip
        refine Shift.done ?_
        exact ⟨[(0, (.int .i64 (wI (1 + x379)))), (1, (.int .u8 p1)), (5, (sv v383)), (6, (.int .i64 i731)), (7, (.int .i64 i401)), (15, (.int .i64 0))], ⟨rfl, rfl, rfl, rfl, rfl, rfl, trivial⟩, 0, rfl, rfl, rfl, H⟩
      rintro n1506 _ _ _ - ⟨i1505, rfl, rfl, rfl, H⟩
      obtain ⟨m1507, k1508, rfl, hkk1509, H⟩ := lps1 H
      unfold M_law3_CasesFair_L4 at H
      refine Cw_seq ?_
      refine Cw_seq ?_
      refine Cw_region ?_
      refine Ow_q rfl rfl rfl (Qt_move rfl) ?_
      refine Ow_q rfl rfl rfl (Qt_move rfl) ?_
      refine Ow_q rfl rfl rfl (Qt_cmp rfl rfl rfl) ?_
      refine Ow_nil ?_
      refine Cw_cond rfl ?_ ?_
      · intro h1511
        have h1511 := dcd_t (h1511)
        have H := ift h1511 H
        refine Cw_skip ?_
        refine Cw_seq ?_
        refine Cw_block ?_
        refine Cw_join (fun env' K' G' => ∃ (t1530 : Bool), [(0, (.int .i64 (wI (1 + x379)))), (1, (.int .u8 p1)), (5, (sv v383)), (6, (.int .i64 i731)), (7, (.int .i64 i401)), (15, (.int .i64 i1505)), (122, (.bool t1530))] = env' ∧ K1448 = K' ∧ (.row (sv v383) 3 1 rs730.flatten) :: G = G' ∧ M_law3_CasesFair_J7 x379 p1 l728 i731 i401 i1505 k1508 t1530 = some y0) ?_ ?_
        · skip
          refine Cw_region ?_
          refine Ow_q rfl rfl rfl (Qt_move rfl) ?_
          refine Ow_q rfl rfl rfl (Qt_move rfl) ?_
          refine Ow_q rfl rfl rfl (Qt_conv (c := wU i1505) rfl rfl rfl rfl) ?_
          obtain ⟨x1531, hx1532, H⟩ := bnd H
          refine Ow_q rfl rfl rfl (Qt_shr (posO_some hx1532).1 rfl rfl) ?_
          refine Ow_q rfl rfl rfl (Qt_and rfl rfl) ?_
          refine Ow_q rfl rfl rfl (Qt_cmp rfl rfl rfl) ?_
          refine Ow_q rfl rfl rfl (Qt_move rfl) ?_
          refine Ow_caseG rfl rfl rfl ?_ ?_
          · intro h1533
            have h1533 := dcd_t (h1533)
            have H := ift h1533 H
            refine Ow_qw rfl rfl rfl rfl rfl rfl (Qt_move rfl) ?_
            refine Ow_qw rfl rfl rfl rfl rfl rfl (Qt_move rfl) ?_
            obtain ⟨x1534, hx1535, H⟩ := bnd H
            obtain ⟨r1536, hq1537, hr1538⟩ := RowR.at hR729 hx1535
            obtain rfl := hr1538
            refine Ow_qw rfl rfl rfl rfl rfl rfl (Q_ixR (T := Ty.i64) (.head _) hR729 hq1537 (getI_ix hx1535).1 rfl rfl rfl rfl rfl) ?_
            refine Ow_qw rfl rfl rfl rfl rfl rfl (Qt_load1 (v := (.int .i64 x1534)) rfl rfl rfl (Rd_row (T := Ty.i64) (.head _) hR729 hq1537 rfl rfl)) ?_
            refine Ow_qw rfl rfl rfl rfl rfl rfl (Qt_move rfl) ?_
            refine Ow_qw rfl rfl rfl rfl rfl rfl (Qt_arith (e := wI (x1534 * i401)) rfl rfl rfl rfl) ?_
            refine Ow_qw rfl rfl rfl rfl rfl rfl (Qt_move rfl) ?_
            refine Ow_qw rfl rfl rfl rfl rfl rfl (Qt_cmp rfl rfl rfl) ?_
            refine Ow_q rfl rfl rfl (Qt_pick_t rfl rfl) ?_
            refine Ow_nil ?_
            refine Shift.done ?_
            exact ⟨[(0, (.int .i64 (wI (1 + x379)))), (1, (.int .u8 p1)), (5, (sv v383)), (6, (.int .i64 i731)), (7, (.int .i64 i401)), (15, (.int .i64 i1505)), (122, (.bool (!(dcd ((wI (x1534 * i401)) = i731)))))], ⟨rfl, rfl, rfl, rfl, rfl, rfl, rfl, trivial⟩, (!(dcd ((wI (x1534 * i401)) = i731))), rfl, rfl, rfl, H⟩
          · intro h1533
            have h1533 := dcd_f (h1533)
            have H := iff_ h1533 H
            refine Ow_pass rfl rfl rfl rfl rfl rfl rfl ?_
            refine Ow_pass rfl rfl rfl rfl rfl rfl rfl ?_
            refine Ow_pass rfl rfl rfl rfl rfl rfl rfl ?_
            refine Ow_pass rfl rfl rfl rfl rfl rfl rfl ?_
            refine Ow_pass rfl rfl rfl rfl rfl rfl rfl ?_
            refine Ow_pass rfl rfl rfl rfl rfl rfl rfl ?_
            refine Ow_pass rfl rfl rfl rfl rfl rfl rfl ?_
            refine Ow_pass rfl rfl rfl rfl rfl rfl rfl ?_
            refine Ow_q rfl rfl rfl (Qt_pick_f rfl rfl) ?_
            refine Ow_nil ?_
            refine Shift.done ?_
            exact ⟨[(0, (.int .i64 (wI (1 + x379)))), (1, (.int .u8 p1)), (5, (sv v383)), (6, (.int .i64 i731)), (7, (.int .i64 i401)), (15, (.int .i64 i1505)), (122, (.bool false))], ⟨rfl, rfl, rfl, rfl, rfl, rfl, rfl, trivial⟩, false, rfl, rfl, rfl, H⟩
        rintro _ _ _ - ⟨t1530, rfl, rfl, rfl, H⟩
        unfold M_law3_CasesFair_J7 at H
        refine Cw_cond rfl ?_ ?_
        · intro h1539
          have H := ift h1539 H
          refine Cw_seq ?_
          refine Cw_region ?_
          refine Ow_q rfl rfl rfl (Qt_assign rfl) ?_
          refine Ow_nil ?_
          refine Cw_ret ?_
          obtain ey0 := inj1 H
          subst y0
          refine ⟨(by first | exact .inl rfl | exact .inr rfl), [(.bool false)], ⟨(.bool false), _, rfl, rfl, rfl⟩, ?_⟩
          refine Shift.rem .here ?_
          refine Shift.done ?_
          exact ⟨rfl, rfl⟩
        · intro h1539
          have H := iff_ (btf h1539) H
          refine Cw_skip ?_
          refine Cw_region ?_
          refine Ow_q rfl rfl rfl (Qt_move rfl) ?_
          refine Ow_q rfl rfl rfl (Qt_arith (e := wI (i1505 + 1)) rfl rfl rfl rfl) ?_
          refine Ow_q rfl rfl rfl (Qt_assign rfl) ?_
          refine Ow_nil ?_
          refine Shift.done ?_
          exact ⟨[(0, (.int .i64 (wI (1 + x379)))), (1, (.int .u8 p1)), (5, (sv v383)), (6, (.int .i64 i731)), (7, (.int .i64 i401)), (15, (.int .i64 (wI (i1505 + 1))))], ⟨rfl, rfl, rfl, rfl, rfl, rfl, trivial⟩, _, Nat.lt_succ_self _, (wI (i1505 + 1)), rfl, rfl, rfl, (hkk1509 ▸ H)⟩
      · intro h1511
        have h1511 := dcd_f (h1511)
        have H := iff_ h1511 H
        refine Cw_exit ?_
        refine Shift.rem .here ?_
        refine Shift.done ?_
        exact ⟨[], trivial, rfl, rfl, H⟩
    rintro _ K1540 _ hK1541 ⟨rfl, rfl, H⟩
    unfold M_law3_CasesFair_J6 at H
    refine Cw_seq ?_
    refine Cw_region ?_
    refine Ow_q rfl rfl rfl (Qt_assign rfl) ?_
    refine Ow_nil ?_
    refine Cw_ret ?_
    obtain ey0 := inj1 H
    subst y0
    refine ⟨(by first | exact .inl rfl | exact .inr rfl), [(.bool true)], ⟨(.bool true), _, rfl, rfl, rfl⟩, ?_⟩
    refine Shift.done ?_
    exact ⟨rfl, rfl⟩


end Go.Hx
