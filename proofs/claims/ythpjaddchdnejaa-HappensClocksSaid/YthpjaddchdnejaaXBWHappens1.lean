/- Printed by program. -/
import Derived.Test.YthpjaddchdnejaaXBM
import Derived.Test.YthpjaddchdnejaaXBWHappens
import Derived.Test.YthpjaddchdnejaaXBWSlices
namespace Go.Hx
open Go Go.Proofs
set_option linter.unusedSimpArgs false
set_option linter.unusedVariables false
set_option maxRecDepth 10000
set_option maxHeartbeats 1000000 in
theorem c_M_happens_Clocks (p0 : List Item) (vp0 : SV) (p1 : Int) (y0 : List (List Int)) (H : M_happens_Clocks p0 p1 = some y0) (K : Kp) (G : List Ent) (hp0 : Slr TyItem K (sv vp0) p0) :
    Fc Try.prog 35 #[(sv vp0), (.int .i64 p1)] K (G) (fun v K' G' => ∃ (wy0 : SV), v = (sv wy0) ∧ (.tok 44 1 [(sv wy0)]) :: G = G' ∧ Slr (Ty.sl Ty.i64) K' (sv wy0) y0) := by
  refine Fc_body Try.func35 rfl Try.ntmps35 Try.results35 rfl ?_
  unfold M_happens_Clocks at H
  refine Cw_seq ?_
  refine Cw_region ?_
  refine Ow_q rfl rfl rfl (Qt_assign rfl) ?_
  refine Ow_nil ?_
  refine Cw_seq ?_
  refine Cw_join (fun env' K' G' => ∃ (t352 : Bool), [(0, (sv vp0)), (1, (.int .i64 p1)), (18, (.bool t352))] = env' ∧ K = K' ∧ G = G' ∧ M_happens_Clocks_J1 p0 p1 t352 = some y0) ?_ ?_
  · skip
    refine Cw_region ?_
    refine Ow_q rfl rfl rfl (Qt_move rfl) ?_
    refine Ow_q rfl rfl rfl (Qt_cmp rfl rfl rfl) ?_
    refine Ow_q rfl rfl rfl (Qt_move rfl) ?_
    refine Ow_caseG rfl rfl rfl ?_ ?_
    · intro h353
      have h353 := dcd_t (h353)
      have H := ift h353 H
      refine Ow_pass rfl rfl rfl rfl rfl rfl rfl ?_
      refine Ow_pass rfl rfl rfl rfl rfl rfl rfl ?_
      refine Ow_q rfl rfl rfl (Qt_pick_t rfl rfl) ?_
      refine Ow_nil ?_
      refine Shift.done ?_
      exact ⟨[(0, (sv vp0)), (1, (.int .i64 p1)), (18, (.bool true))], ⟨rfl, rfl, rfl, trivial⟩, true, rfl, rfl, rfl, H⟩
    · intro h353
      have h353 := dcd_f (h353)
      have H := iff_ h353 H
      refine Ow_qw rfl rfl rfl rfl rfl rfl (Qt_move rfl) ?_
      refine Ow_qw rfl rfl rfl rfl rfl rfl (Qt_cmp rfl rfl rfl) ?_
      refine Ow_q rfl rfl rfl (Qt_pick_f rfl rfl) ?_
      refine Ow_nil ?_
      refine Shift.done ?_
      exact ⟨[(0, (sv vp0)), (1, (.int .i64 p1)), (18, (.bool (dcd (p1 > 8))))], ⟨rfl, rfl, rfl, trivial⟩, (dcd (p1 > 8)), rfl, rfl, rfl, H⟩
  rintro _ _ _ - ⟨t352, rfl, rfl, rfl, H⟩
  unfold M_happens_Clocks_J1 at H
  refine Cw_cond rfl ?_ ?_
  · intro h354
    have H := ift h354 H
    refine Cw_seq ?_
    refine Cw_region ?_
    refine Ow_q rfl rfl rfl (Qt_assign rfl) ?_
    refine Ow_nil ?_
    refine Cw_ret ?_
    obtain ey0 := inj1 H
    subst y0
    refine ⟨(by first | exact .inl rfl | exact .inr rfl), [(sv nilS)], ⟨(sv nilS), _, rfl, rfl, rfl⟩, ?_⟩
    refine Shift.nilTok1 44 1 ?_
    refine Shift.done ?_
    exact ⟨nilS, rfl, rfl, (Slr.nil (Ty.sl Ty.i64) _)⟩
  · intro h354
    have H := iff_ (btf h354) H
    refine Cw_skip ?_
    refine Cw_seq ?_
    refine Cw_region ?_
    refine Ow_q rfl rfl rfl (Qt_move rfl) ?_
    obtain ⟨x355, hx356, H⟩ := bnd H
    refine Ow_cons rfl (O_make (T := (Ty.sl Ty.i64)) (r := [(sv nilS)]) rfl rfl rfl hx356 rfl rfl rfl rfl rfl rfl rfl rfl rfl ⟨nilS, rfl, (Slr.nil Ty.i64 _)⟩ (fun v357 rs358 hR359 hz360 => ?_))
    obtain ⟨vs361, rss362, hv363, hr364, hN365⟩ := NestR.new Ty.i64 K hx356
    obtain rfl : rs358 = vs361.map one := by rw [hz360, hv363]; exact map_one_replicate.symm
    refine Ow.shift (Shift.nestNew hv363 hr364 3 1 (Shift.done ?_))
    refine Ow_q rfl rfl rfl (Qt_assign rfl) ?_
    refine Ow_nil ?_
    refine Cw_join (fun env' K' G' => ∃ (l415 : List (List Int)) (vs416 : List Value) (rss417 : List (List (List Value))), [(0, (sv vp0)), (1, (.int .i64 p1)), (5, (sv v357))] = env' ∧ (.row (sv v357) 44 1 (vs416.map one).flatten) :: (.rws 3 1 vs416 (rss417.map List.flatten)) :: G = G' ∧ M_happens_Clocks_J2 p0 p1 l415 = some y0 ∧ NestR Ty.i64 K' vs416 rss417 l415) ?_ ?_
    · skip
      refine Cw_seq ?_
      refine Cw_region ?_
      refine Ow_q rfl rfl rfl (Qt_move rfl) ?_
      refine Ow_q rfl rfl rfl (Q_lenN (.tail _ (.head _)) hN365 rfl rfl) ?_
      refine Ow_q rfl rfl rfl (Qt_move rfl) ?_
      refine Ow_nil ?_
      refine Cw_block ?_
      refine Cw_loopM (fun n468 env' K' G' => ∃ (l463 : List (List Int)) (vs464 : List Value) (rss465 : List (List (List Value))) (i467 : Int), [(0, (sv vp0)), (1, (.int .i64 p1)), (5, (sv v357)), (22, (.int .i64 (x355.length : Int))), (23, (.int .i64 i467))] = env' ∧ K = K' ∧ (.row (sv v357) 44 1 (vs464.map one).flatten) :: (.rws 3 1 vs464 (rss465.map List.flatten)) :: G = G' ∧ lp2 (M_happens_Clocks_L1 p0 p1 x355) n468 l463 i467 = some y0 ∧ NestR Ty.i64 K' vs464 rss465 l463) BIG ?_ ?_
      · skip
        refine Shift.pull (.there .here) ?_
        refine Shift.done ?_
        exact ⟨[(0, (sv vp0)), (1, (.int .i64 p1)), (5, (sv v357)), (22, (.int .i64 (x355.length : Int))), (23, (.int .i64 0))], ⟨rfl, rfl, rfl, rfl, rfl, trivial⟩, x355, vs361, rss362, 0, rfl, rfl, rfl, H, hN365⟩
      rintro n468 _ _ _ - ⟨l463, vs464, rss465, i467, rfl, rfl, rfl, H, hN466⟩
      obtain ⟨m469, k470, rfl, hkk471, H⟩ := lps2 H
      unfold M_happens_Clocks_L1 at H
      refine Cw_seq ?_
      refine Cw_region ?_
      refine Ow_q rfl rfl rfl (Qt_cmp rfl rfl rfl) ?_
      refine Ow_nil ?_
      refine Cw_seq ?_
      refine Cw_cond rfl ?_ ?_
      · intro h473
        have h473 := dcd_t (h473)
        have H := ift h473 H
        refine Cw_skip ?_
        refine Cw_seq ?_
        refine Cw_block ?_
        refine Cw_seq ?_
        refine Cw_region ?_
        refine Ow_q rfl rfl rfl (Qt_move rfl) ?_
        refine Ow_q rfl rfl rfl (Qt_assign rfl) ?_
        refine Ow_nil ?_
        refine Cw_region ?_
        refine Ow_q rfl rfl rfl (Qt_move rfl) ?_
        refine Ow_q rfl rfl rfl (Qt_move rfl) ?_
        refine Ow_q rfl rfl rfl (Qt_move rfl) ?_
        obtain ⟨x490, hx491, H⟩ := bnd H
        refine Ow_cons rfl (O_make (T := Ty.i64) (r := [(.int .i64 0)]) rfl rfl rfl hx491 rfl rfl rfl rfl rfl rfl rfl rfl rfl rfl (fun v492 rs493 hR494 hz495 => ?_))
        obtain ⟨x496, hx497, H⟩ := bnd H
        obtain ⟨s498, rs499, hq1500, hq501, hr502, hR503⟩ := NestR.at hN466 hx497
        refine Ow_q rfl rfl rfl (Q_ixR (T := rawT) (.tail _ (.head _)) hN466.heads hq1500 (getI_ix hx497).1 rfl rfl rfl rfl rfl) ?_
        refine Ow_cons rfl (O_storeR (T := rawT) (vs := [(sv v492)]) (r' := [(sv v492)]) (l' := setI vs464 i467 (sv v492)) rfl rfl rfl rfl rfl (.there .here) hN466.heads hq1500 rfl rfl rfl (RowR.set i467 hN466.heads ⟨rfl, _, rfl⟩) (fun _ => ?_))
        have hse := set_map_one vs464 i467.toNat (sv v492)
        rw [hse]
        clear hse
        have hN505 := NestR.set (s := v492) i467 hN466 hR494
        refine Ow.shift (Shift.nestPut .here (.there .here) (List.getElem?_eq_some_iff.1 hq501).1 (Shift.done ?_))
        refine Ow_nil ?_
        refine Cw_region ?_
        refine Ow_q rfl rfl rfl (Qt_arith (e := wI (i467 + 1)) rfl rfl rfl rfl) ?_
        refine Ow_q rfl rfl rfl (Qt_move rfl) ?_
        refine Ow_nil ?_
        refine Shift.pull (.there .here) ?_
        refine Shift.done ?_
        exact ⟨[(0, (sv vp0)), (1, (.int .i64 p1)), (5, (sv v357)), (22, (.int .i64 (x355.length : Int))), (23, (.int .i64 (wI (i467 + 1))))], ⟨rfl, rfl, rfl, rfl, rfl, trivial⟩, _, Nat.lt_succ_self _, (setI l463 i467 x490), (vs464.set i467.toNat (sv v492)), (rss465.set i467.toNat rs493), (wI (i467 + 1)), rfl, rfl, rfl, (hkk471 ▸ H), hN505⟩
      · intro h473
        have h473 := dcd_f (h473)
        have H := iff_ h473 H
        refine Cw_exit ?_
        refine Shift.pull (.there .here) ?_
        refine Shift.pull (.there .here) ?_
        refine Shift.done ?_
        exact ⟨[(0, (sv vp0)), (1, (.int .i64 p1)), (5, (sv v357))], ⟨rfl, rfl, rfl, trivial⟩, l463, vs464, rss465, rfl, rfl, H, hN466⟩
    rintro _ K506 _ hK507 ⟨l415, vs416, rss417, rfl, rfl, H, hN418⟩
    unfold M_happens_Clocks_J2 at H
    refine Cw_seq ?_
    refine Cw_region ?_
    refine Ow_cons rfl (O_makeMap (Ty.sl Ty.i64) (Value.int .i64) rfl (fun b508 es509 ck510 hM511 => ?_))
    refine Ow_q rfl rfl rfl (Qt_assign rfl) ?_
    refine Ow_nil ?_
    refine Cw_seq ?_
    refine Cw_region ?_
    refine Ow_q rfl rfl rfl (Qt_assign rfl) ?_
    refine Ow_nil ?_
    refine Cw_join (fun env' K' G' => ∃ (v780 : SV) (l781 : List (List Int)), [(8, (sv v780))] = env' ∧ (.tok 44 1 [(sv v780)]) :: G = G' ∧ M_happens_Clocks_J3 l781 = some y0 ∧ Slr (Ty.sl Ty.i64) K' (sv v780) l781) ?_ ?_
    · skip
      refine Cw_seq ?_
      refine Cw_region ?_
      refine Ow_q rfl rfl rfl (Qt_move rfl) ?_
      have hs783 := (hp0).mono hK507
      refine Ow_q rfl rfl rfl (Q_len (T := TyItem) hs783 rfl rfl) ?_
      refine Ow_q rfl rfl rfl (Qt_move rfl) ?_
      refine Ow_nil ?_
      refine Cw_block ?_
      refine Cw_loopM (fun n1051 env' K' G' => ∃ (l1039 : List (List Int)) (vs1040 : List Value) (rss1041 : List (List (List Value))) (es1043 : Array MapEntry) (ck1044 : Nat) (m1045 : Int → Option (List Int)) (v1047 : SV) (l1048 : List (List Int)) (i1050 : Int), [(1, (.int .i64 p1)), (5, (sv v357)), (7, (.map (some b508))), (8, (sv v1047)), (33, (sv vp0)), (34, (.int .i64 (p0.length : Int))), (35, (.int .i64 i1050))] = env' ∧ (.row (sv v357) 44 1 (vs1040.map one).flatten) :: (.rws 3 1 vs1040 (rss1041.map List.flatten)) :: (.obj b508 (.map es1043 ck1044)) :: (.tok 44 1 [(sv v1047)]) :: G = G' ∧ lp4 (M_happens_Clocks_L2 p1 p0) n1051 l1039 m1045 l1048 i1050 = some y0 ∧ NestR Ty.i64 K' vs1040 rss1041 l1039 ∧ MapR (Ty.sl Ty.i64) (Value.int .i64) K' es1043 m1045 ∧ Slr (Ty.sl Ty.i64) K' (sv v1047) l1048) BIG ?_ ?_
      · skip
        refine Shift.nilTok1 44 1 ?_
        refine Shift.pull (.there .here) ?_
        refine Shift.pull (.there (.there (.there .here))) ?_
        refine Shift.pull (.there (.there (.there .here))) ?_
        refine Shift.done ?_
        exact ⟨[(1, (.int .i64 p1)), (5, (sv v357)), (7, (.map (some b508))), (8, (sv nilS)), (33, (sv vp0)), (34, (.int .i64 (p0.length : Int))), (35, (.int .i64 0))], ⟨rfl, rfl, rfl, rfl, rfl, rfl, rfl, trivial⟩, l415, vs416, rss417, es509, ck510, (mEmpty Int (List Int)), nilS, ([] : List (List Int)), 0, rfl, rfl, H, hN418, hM511, (Slr.nil (Ty.sl Ty.i64) _)⟩
      rintro n1051 _ K1052 _ hK1053 ⟨l1039, vs1040, rss1041, es1043, ck1044, m1045, v1047, l1048, i1050, rfl, rfl, H, hN1042, hM1046, hs1049⟩
      obtain ⟨m1054, k1055, rfl, hkk1056, H⟩ := lps4 H
      unfold M_happens_Clocks_L2 at H
      refine Cw_seq ?_
      refine Cw_region ?_
      refine Ow_q rfl rfl rfl (Qt_cmp rfl rfl rfl) ?_
      refine Ow_nil ?_
      refine Cw_seq ?_
      refine Cw_cond rfl ?_ ?_
      · intro h1058
        have h1058 := dcd_t (h1058)
        have H := ift h1058 H
        refine Cw_skip ?_
        refine Cw_seq ?_
        refine Cw_block ?_
        refine Cw_seq ?_
        refine Cw_region ?_
        obtain ⟨x1174, hx1175, H⟩ := bnd H
        have hs1176 := (hs783).mono hK1053
        obtain ⟨r1177, hr1178, hk1179⟩ := Slr.at hs1176 hx1175
        obtain rfl := hr1178
        refine Ow_q rfl rfl rfl (Q_ix (T := TyItem) hs1176 hx1175 rfl rfl rfl rfl rfl) ?_
        refine Ow_q rfl rfl rfl (Qt_loadA (m := 8) (cs := (Item.cells x1174)) rfl rfl rfl rfl ⟨rfl, Rdc.k hk1179 rfl⟩) ?_
        refine Ow_cons rfl (OpW_alloc (cs := (Item.cells (Item.mk 0 (Access.mk 0 0 0 0 0) 0 false))) rfl rfl rfl rfl (fun b1180 => ?_))
        refine Ow_cons rfl (OpW_store (vs := (Item.cells x1174)) (all' := (Item.cells x1174)) rfl rfl rfl rfl rfl .here rfl rfl rfl ?_)
        refine Ow_nil ?_
        refine Cw_seq ?_
        refine Cw_join (fun env' K' G' => ∃ (t1185 : Bool), [(1, (.int .i64 p1)), (5, (sv v357)), (7, (.map (some b508))), (8, (sv v1047)), (10, (.pointer (some ((⟨b1180, 0, none⟩ : Addr).add 0)))), (33, (sv vp0)), (34, (.int .i64 (p0.length : Int))), (35, (.int .i64 i1050)), (47, (.bool t1185))] = env' ∧ K1052 = K' ∧ (.blk b1180 56 (Item.cells x1174)) :: (.row (sv v357) 44 1 (vs1040.map one).flatten) :: (.rws 3 1 vs1040 (rss1041.map List.flatten)) :: (.obj b508 (.map es1043 ck1044)) :: (.tok 44 1 [(sv v1047)]) :: G = G' ∧ M_happens_Clocks_J4 p1 l1039 l1048 p0 i1050 x1174 m1045 k1055 t1185 = some y0) ?_ ?_
        · skip
          refine Cw_region ?_
          refine Ow_q rfl rfl rfl (Qt_fieldAddr (m := 0) rfl rfl rfl rfl rfl) ?_
          refine Ow_q rfl rfl rfl (Qt_load1 (v := (.int .i64 x1174.thread)) rfl rfl rfl (Rdc.blk (.head _) rfl)) ?_
          refine Ow_q rfl rfl rfl (Qt_cmp rfl rfl rfl) ?_
          refine Ow_q rfl rfl rfl (Qt_move rfl) ?_
          refine Ow_caseG rfl rfl rfl ?_ ?_
          · intro h1186
            have h1186 := dcd_t (h1186)
            have H := ift h1186 H
            refine Ow_pass rfl rfl rfl rfl rfl rfl rfl ?_
            refine Ow_pass rfl rfl rfl rfl rfl rfl rfl ?_
            refine Ow_pass rfl rfl rfl rfl rfl rfl rfl ?_
            refine Ow_pass rfl rfl rfl rfl rfl rfl rfl ?_
            refine Ow_q rfl rfl rfl (Qt_pick_t rfl rfl) ?_
            refine Ow_nil ?_
            refine Shift.pull (.there (.there (.there (.there .here)))) ?_
            refine Shift.pull (.there (.there (.there (.there .here)))) ?_
            refine Shift.pull (.there (.there (.there (.there .here)))) ?_
            refine Shift.pull (.there (.there (.there (.there .here)))) ?_
            refine Shift.pull (.there (.there (.there (.there .here)))) ?_
            refine Shift.done ?_
            exact ⟨[(1, (.int .i64 p1)), (5, (sv v357)), (7, (.map (some b508))), (8, (sv v1047)), (10, (.pointer (some ((⟨b1180, 0, none⟩ : Addr).add 0)))), (33, (sv vp0)), (34, (.int .i64 (p0.length : Int))), (35, (.int .i64 i1050)), (47, (.bool true))], ⟨rfl, rfl, rfl, rfl, rfl, rfl, rfl, rfl, rfl, trivial⟩, true, rfl, rfl, rfl, H⟩
          · intro h1186
            have h1186 := dcd_f (h1186)
            have H := iff_ h1186 H
            refine Ow_qw rfl rfl rfl rfl rfl rfl (Qt_fieldAddr (m := 0) rfl rfl rfl rfl rfl) ?_
            refine Ow_qw rfl rfl rfl rfl rfl rfl (Qt_load1 (v := (.int .i64 x1174.thread)) rfl rfl rfl (Rdc.blk (.head _) rfl)) ?_
            refine Ow_qw rfl rfl rfl rfl rfl rfl (Qt_move rfl) ?_
            refine Ow_qw rfl rfl rfl rfl rfl rfl (Qt_cmp rfl rfl rfl) ?_
            refine Ow_q rfl rfl rfl (Qt_pick_f rfl rfl) ?_
            refine Ow_nil ?_
            refine Shift.pull (.there (.there (.there (.there .here)))) ?_
            refine Shift.pull (.there (.there (.there (.there .here)))) ?_
            refine Shift.pull (.there (.there (.there (.there .here)))) ?_
            refine Shift.pull (.there (.there (.there (.there .here)))) ?_
            refine Shift.pull (.there (.there (.there (.there .here)))) ?_
            refine Shift.done ?_
            exact ⟨[(1, (.int .i64 p1)), (5, (sv v357)), (7, (.map (some b508))), (8, (sv v1047)), (10, (.pointer (some ((⟨b1180, 0, none⟩ : Addr).add 0)))), (33, (sv vp0)), (34, (.int .i64 (p0.length : Int))), (35, (.int .i64 i1050)), (47, (.bool (dcd (x1174.thread ≥ p1))))], ⟨rfl, rfl, rfl, rfl, rfl, rfl, rfl, rfl, rfl, trivial⟩, (dcd (x1174.thread ≥ p1)), rfl, rfl, rfl, H⟩
        rintro _ _ _ - ⟨t1185, rfl, rfl, rfl, H⟩
        unfold M_happens_Clocks_J4 at H
        refine Cw_cond rfl ?_ ?_
        · intro h1187
          have H := ift h1187 H
          refine Cw_seq ?_
          refine Cw_region ?_
          refine Ow_q rfl rfl rfl (Qt_assign rfl) ?_
          refine Ow_nil ?_
          refine Cw_ret ?_
          obtain ey0 := inj1 H
          subst y0
          refine ⟨(by first | exact .inl rfl | exact .inr rfl), [(sv nilS)], ⟨(sv nilS), _, rfl, rfl, rfl⟩, ?_⟩
          refine Shift.nilTok1 44 1 ?_
          refine Shift.rem (.there .here) ?_
          refine Shift.rem (.there .here) ?_
          refine Shift.rem (.there .here) ?_
          refine Shift.rem (.there .here) ?_
          refine Shift.rem (.there .here) ?_
          refine Shift.done ?_
          exact ⟨nilS, rfl, rfl, (Slr.nil (Ty.sl Ty.i64) _)⟩
        · intro h1187
          have H := iff_ (btf h1187) H
          refine Cw_skip ?_
          refine Cw_seq ?_
          refine Cw_region ?_
          refine Ow_q rfl rfl rfl (Qt_move rfl) ?_
          refine Ow_q rfl rfl rfl (Qt_fieldAddr (m := 0) rfl rfl rfl rfl rfl) ?_
          refine Ow_q rfl rfl rfl (Qt_load1 (v := (.int .i64 x1174.thread)) rfl rfl rfl (Rdc.blk (.head _) rfl)) ?_
          obtain ⟨x1188, hx1189, H⟩ := bnd H
          obtain ⟨s1190, rs1191, hq11192, hq1193, hr1194, hR1195⟩ := NestR.at hN1042 hx1189
          refine Ow_q rfl rfl rfl (Q_ixR (T := rawT) (.tail _ (.head _)) hN1042.heads hq11192 (getI_ix hx1189).1 rfl rfl rfl rfl rfl) ?_
          refine Ow.shift (Shift.nestTake (.there (.there .here)) hq1193 hr1194 (Shift.done ?_))
          refine Ow_q rfl rfl rfl (Qt_load1 (v := (sv s1190)) rfl rfl rfl (Rd_row (T := rawT) (.tail _ (.tail _ (.tail _ (.head _)))) hN1042.heads hq11192 rfl rfl)) ?_
          refine Ow_q rfl rfl rfl (Qt_assign rfl) ?_
          refine Ow_nil ?_
          refine Cw_seq ?_
          refine Cw_region ?_
          refine Ow_q rfl rfl rfl (Qt_move rfl) ?_
          refine Ow_q rfl rfl rfl (Qt_fieldAddr (m := 0) rfl rfl rfl rfl rfl) ?_
          refine Ow_q rfl rfl rfl (Qt_load1 (v := (.int .i64 x1174.thread)) rfl rfl rfl (Rdc.blk (.tail _ (.tail _ (.head _))) rfl)) ?_
          obtain ⟨x1196, hx1197, H⟩ := bnd H
          obtain ⟨r1198, hq1199, hr1200⟩ := RowR.at hR1195 hx1197
          obtain rfl := hr1200
          refine Ow_q rfl rfl rfl (Q_ixR (T := Ty.i64) (.head _) hR1195 hq1199 (getI_ix hx1197).1 rfl rfl rfl rfl rfl) ?_
          refine Ow_q rfl rfl rfl (Qt_load1 (v := (.int .i64 x1196)) rfl rfl rfl (Rd_row (T := Ty.i64) (.head _) hR1195 hq1199 rfl rfl)) ?_
          refine Ow_q rfl rfl rfl (Qt_arith (e := wI (x1196 + 1)) rfl rfl rfl rfl) ?_
          obtain ⟨x1201, hx1202, H⟩ := bnd H
          obtain ⟨r1203, hq1204, hr1205⟩ := RowR.at hR1195 hx1202
          obtain rfl := hr1205
          refine Ow_q rfl rfl rfl (Q_ixR (T := Ty.i64) (.head _) hR1195 hq1204 (getI_ix hx1202).1 rfl rfl rfl rfl rfl) ?_
          refine Ow_cons rfl (O_storeR (T := Ty.i64) (vs := [(.int .i64 (wI (x1196 + 1)))]) (r' := [(.int .i64 (wI (x1196 + 1)))]) (l' := (setI x1188 x1174.thread (wI (x1196 + 1)))) rfl rfl rfl rfl rfl .here hR1195 hq1204 rfl rfl rfl (RowR.set x1174.thread hR1195 rfl) (fun hR1206 => ?_))
          have hE1207 := set_at hq1204 (v := [(.int .i64 (wI (x1196 + 1)))])
          refine Ow_nil ?_
          refine Cw_join (fun env' K' G' => ∃ (es1267 : Array MapEntry) (ck1268 : Nat) (m1269 : Int → Option (List Int)) (l1271 : List Int) (rs1273 : List (List Value)), [(1, (.int .i64 p1)), (5, (sv v357)), (7, (.map (some b508))), (8, (sv v1047)), (11, (sv s1190)), (33, (sv vp0)), (34, (.int .i64 (p0.length : Int))), (35, (.int .i64 i1050))] = env' ∧ (.obj b508 (.map es1267 ck1268)) :: (.row (sv s1190) 3 1 rs1273.flatten) :: (.rws 3 1 (vs1040.set x1174.thread.toNat (.slice none 0 0)) ((rss1041.set x1174.thread.toNat []).map List.flatten)) :: (.row (sv v357) 44 1 (vs1040.map one).flatten) :: (.tok 44 1 [(sv v1047)]) :: G = G' ∧ M_happens_Clocks_J5 p1 l1039 l1048 p0 i1050 x1174 k1055 m1269 l1271 = some y0 ∧ MapR (Ty.sl Ty.i64) (Value.int .i64) K' es1267 m1269 ∧ RowR Ty.i64 K' rs1273 l1271) ?_ ?_
          · skip
            refine Cw_seq ?_
            refine Cw_region ?_
            refine Ow_q rfl rfl rfl (Qt_fieldAddr (m := 1) rfl rfl rfl rfl rfl) ?_
            refine Ow_q rfl rfl rfl (Qt_fieldAddr (m := 1) rfl rfl rfl rfl rfl) ?_
            refine Ow_q rfl rfl rfl (Qt_load1 (v := (.int .i64 x1174.access.kind)) rfl rfl rfl (Rdc.blk (.tail _ (.tail _ (.head _))) rfl)) ?_
            refine Ow_q rfl rfl rfl (Qt_assign rfl) ?_
            refine Ow_nil ?_
            refine Cw_seq ?_
            refine Cw_region ?_
            refine Ow_q rfl rfl rfl (Qt_move rfl) ?_
            refine Ow_nil ?_
            refine Cw_block ?_
            refine Cw_join (fun env' K' G' => ∃ (t1276 : Bool), [(1, (.int .i64 p1)), (5, (sv v357)), (7, (.map (some b508))), (8, (sv v1047)), (10, (.pointer (some ((⟨b1180, 0, none⟩ : Addr).add 0)))), (11, (sv s1190)), (12, (.int .i64 x1174.access.kind)), (33, (sv vp0)), (34, (.int .i64 (p0.length : Int))), (35, (.int .i64 i1050)), (63, (.int .i64 x1174.access.kind)), (64, (.bool t1276))] = env' ∧ K1052 = K' ∧ (.blk b1180 56 (Item.cells x1174)) :: (.row (sv s1190) 3 1 (rs1191.set x1174.thread.toNat [(.int .i64 (wI (x1196 + 1)))]).flatten) :: (.rws 3 1 (vs1040.set x1174.thread.toNat (.slice none 0 0)) ((rss1041.set x1174.thread.toNat []).map List.flatten)) :: (.row (sv v357) 44 1 (vs1040.map one).flatten) :: (.obj b508 (.map es1043 ck1044)) :: (.tok 44 1 [(sv v1047)]) :: G = G' ∧ M_happens_Clocks_J6 p1 l1039 l1048 x1188 x1174 x1196 p0 i1050 m1045 k1055 t1276 = some y0) ?_ ?_
            · skip
              refine Cw_seq ?_
              refine Cw_region ?_
              refine Ow_q rfl rfl rfl (Qt_cmp rfl rfl rfl) ?_
              refine Ow_q rfl rfl rfl (Qt_assign rfl) ?_
              refine Ow_nil ?_
              refine Cw_cond rfl ?_ ?_
              · intro h1277
                have h1277 := dcd_t (h1277)
                have H := ift h1277 H
                refine Cw_skip ?_
                refine Shift.pull (.there (.there (.there (.there (.there .here))))) ?_
                refine Shift.pull (.there (.there (.there (.there (.there .here))))) ?_
                refine Shift.pull (.there (.there (.there (.there (.there .here))))) ?_
                refine Shift.pull (.there (.there (.there (.there .here)))) ?_
                refine Shift.pull (.there (.there (.there (.there .here)))) ?_
                refine Shift.pull (.there (.there (.there (.there (.there .here))))) ?_
                refine Shift.done ?_
                exact ⟨[(1, (.int .i64 p1)), (5, (sv v357)), (7, (.map (some b508))), (8, (sv v1047)), (10, (.pointer (some ((⟨b1180, 0, none⟩ : Addr).add 0)))), (11, (sv s1190)), (12, (.int .i64 x1174.access.kind)), (33, (sv vp0)), (34, (.int .i64 (p0.length : Int))), (35, (.int .i64 i1050)), (63, (.int .i64 x1174.access.kind)), (64, (.bool (dcd (x1174.access.kind = 1))))], ⟨rfl, rfl, rfl, rfl, rfl, rfl, rfl, rfl, rfl, rfl, rfl, rfl, trivial⟩, (dcd (x1174.access.kind = 1)), rfl, rfl, rfl, H⟩
              · intro h1277
                have h1277 := dcd_f (h1277)
                have H := iff_ h1277 H
                refine Cw_seq ?_
                refine Cw_region ?_
                refine Ow_q rfl rfl rfl (Qt_cmp rfl rfl rfl) ?_
                refine Ow_q rfl rfl rfl (Qt_assign rfl) ?_
                refine Ow_nil ?_
                refine Cw_cond rfl ?_ ?_
                · intro h1278
                  have h1278 := dcd_t (h1278)
                  have H := ift h1278 H
                  refine Cw_skip ?_
                  refine Shift.pull (.there (.there (.there (.there (.there .here))))) ?_
                  refine Shift.pull (.there (.there (.there (.there (.there .here))))) ?_
                  refine Shift.pull (.there (.there (.there (.there (.there .here))))) ?_
                  refine Shift.pull (.there (.there (.there (.there .here)))) ?_
                  refine Shift.pull (.there (.there (.there (.there .here)))) ?_
                  refine Shift.pull (.there (.there (.there (.there (.there .here))))) ?_
                  refine Shift.done ?_
                  exact ⟨[(1, (.int .i64 p1)), (5, (sv v357)), (7, (.map (some b508))), (8, (sv v1047)), (10, (.pointer (some ((⟨b1180, 0, none⟩ : Addr).add 0)))), (11, (sv s1190)), (12, (.int .i64 x1174.access.kind)), (33, (sv vp0)), (34, (.int .i64 (p0.length : Int))), (35, (.int .i64 i1050)), (63, (.int .i64 x1174.access.kind)), (64, (.bool (dcd (x1174.access.kind = 4))))], ⟨rfl, rfl, rfl, rfl, rfl, rfl, rfl, rfl, rfl, rfl, rfl, rfl, trivial⟩, (dcd (x1174.access.kind = 4)), rfl, rfl, rfl, H⟩
                · intro h1278
                  have h1278 := dcd_f (h1278)
                  have H := iff_ h1278 H
                  refine Cw_region ?_
                  refine Ow_q rfl rfl rfl (Qt_cmp rfl rfl rfl) ?_
                  refine Ow_q rfl rfl rfl (Qt_assign rfl) ?_
                  refine Ow_nil ?_
                  refine Shift.pull (.there (.there (.there (.there (.there .here))))) ?_
                  refine Shift.pull (.there (.there (.there (.there (.there .here))))) ?_
                  refine Shift.pull (.there (.there (.there (.there (.there .here))))) ?_
                  refine Shift.pull (.there (.there (.there (.there .here)))) ?_
                  refine Shift.pull (.there (.there (.there (.there .here)))) ?_
                  refine Shift.pull (.there (.there (.there (.there (.there .here))))) ?_
                  refine Shift.done ?_
                  exact ⟨[(1, (.int .i64 p1)), (5, (sv v357)), (7, (.map (some b508))), (8, (sv v1047)), (10, (.pointer (some ((⟨b1180, 0, none⟩ : Addr).add 0)))), (11, (sv s1190)), (12, (.int .i64 x1174.access.kind)), (33, (sv vp0)), (34, (.int .i64 (p0.length : Int))), (35, (.int .i64 i1050)), (63, (.int .i64 x1174.access.kind)), (64, (.bool (dcd (x1174.access.kind = 3))))], ⟨rfl, rfl, rfl, rfl, rfl, rfl, rfl, rfl, rfl, rfl, rfl, rfl, trivial⟩, (dcd (x1174.access.kind = 3)), rfl, rfl, rfl, H⟩
            rintro _ _ _ - ⟨t1276, rfl, rfl, rfl, H⟩
            unfold M_happens_Clocks_J6 at H
            refine Cw_cond rfl ?_ ?_
            · intro h1279
              have H := ift h1279 H
              refine Cw_seq ?_
              refine Cw_region ?_
              refine Ow_q rfl rfl rfl (Qt_move rfl) ?_
              refine Ow_q rfl rfl rfl (Qt_move rfl) ?_
              refine Ow_q rfl rfl rfl (Qt_fieldAddr (m := 1) rfl rfl rfl rfl rfl) ?_
              refine Ow_q rfl rfl rfl (Qt_fieldAddr (m := 2) rfl rfl rfl rfl rfl) ?_
              refine Ow_q rfl rfl rfl (Qt_load1 (v := (.int .i64 x1174.access.address)) rfl rfl rfl (Rdc.blk (.head _) rfl)) ?_
              have hs1280 := look_slr (T := Ty.i64) (kv := (Value.int .i64)) (P := Try.prog) (kt := 3) (kd := (.int .i64)) (KeyK.int rfl) hM1046 x1174.access.address
              refine Ow_q rfl rfl rfl (Q_lookS (T := Ty.i64) (kv := (Value.int .i64)) (k := x1174.access.address) (KeyK.int rfl) hM1046 (.tail _ (.tail _ (.tail _ (.tail _ (.head _))))) rfl rfl rfl rfl rfl) ?_
              obtain ⟨x1281, hx1282, H⟩ := bnd H
              refine Ow.shift (Shift.pull (.there .here) (Shift.done ?_))
              refine Ow_cons rfl (OpW_call rfl Try.call50 rfl rfl (c_M_happens_join_m0row (setI x1188 x1174.thread (wI (x1196 + 1))) s1190 (rs1191.set x1174.thread.toNat [(.int .i64 (wI (x1196 + 1)))]) (lookD m1045 x1174.access.address []) (mapS (.int .i64) es1043 (.int .i64 x1174.access.address)) x1281 hx1282 _ _ hR1206 hs1280) ?_)
              rintro _ K1284 _ hK1285 ⟨rs1283, rfl, rfl, hs1286⟩
              refine Ow_nil ?_
              refine Cw_join (fun env' K' G' => ∃ (t1288 : Bool), [(1, (.int .i64 p1)), (5, (sv v357)), (7, (.map (some b508))), (8, (sv v1047)), (10, (.pointer (some ((⟨b1180, 0, none⟩ : Addr).add 0)))), (11, (sv s1190)), (33, (sv vp0)), (34, (.int .i64 (p0.length : Int))), (35, (.int .i64 i1050)), (80, (.bool t1288))] = env' ∧ K1284 = K' ∧ (.blk b1180 56 (Item.cells x1174)) :: (.row (sv s1190) 3 1 rs1283.flatten) :: (.rws 3 1 (vs1040.set x1174.thread.toNat (.slice none 0 0)) ((rss1041.set x1174.thread.toNat []).map List.flatten)) :: (.row (sv v357) 44 1 (vs1040.map one).flatten) :: (.obj b508 (.map es1043 ck1044)) :: (.tok 44 1 [(sv v1047)]) :: G = G' ∧ M_happens_Clocks_J7 p1 l1039 l1048 x1281 p0 i1050 x1174 m1045 k1055 t1288 = some y0) ?_ ?_
              · skip
                refine Cw_region ?_
                refine Ow_q rfl rfl rfl (Qt_move rfl) ?_
                refine Ow_q rfl rfl rfl (Qt_cmp rfl rfl rfl) ?_
                refine Ow_q rfl rfl rfl (Qt_move rfl) ?_
                refine Ow_caseG rfl rfl rfl ?_ ?_
                · intro h1289
                  have h1289 := dcd_t (h1289)
                  have H := ift h1289 H
                  refine Ow_qw rfl rfl rfl rfl rfl rfl (Qt_fieldAddr (m := 7) rfl rfl rfl rfl rfl) ?_
                  refine Ow_qw rfl rfl rfl rfl rfl rfl (Qt_load1 (v := (.bool x1174.ok)) rfl rfl rfl (Rdc.blk (.tail _ (.head _)) rfl)) ?_
                  refine Ow_q rfl rfl rfl (Qt_pick_t rfl rfl) ?_
                  refine Ow_nil ?_
                  refine Shift.pull (.there (.there (.there (.there (.there .here))))) ?_
                  refine Shift.pull (.there (.there (.there (.there (.there .here))))) ?_
                  refine Shift.pull (.there (.there (.there (.there (.there .here))))) ?_
                  refine Shift.pull (.there (.there (.there (.there (.there .here))))) ?_
                  refine Shift.pull (.there (.there (.there (.there .here)))) ?_
                  refine Shift.pull (.there (.there (.there (.there (.there .here))))) ?_
                  refine Shift.done ?_
                  exact ⟨[(1, (.int .i64 p1)), (5, (sv v357)), (7, (.map (some b508))), (8, (sv v1047)), (10, (.pointer (some ((⟨b1180, 0, none⟩ : Addr).add 0)))), (11, (sv s1190)), (33, (sv vp0)), (34, (.int .i64 (p0.length : Int))), (35, (.int .i64 i1050)), (80, (.bool x1174.ok))], ⟨rfl, rfl, rfl, rfl, rfl, rfl, rfl, rfl, rfl, rfl, trivial⟩, x1174.ok, rfl, rfl, rfl, H⟩
                · intro h1289
                  have h1289 := dcd_f (h1289)
                  have H := iff_ h1289 H
                  refine Ow_pass rfl rfl rfl rfl rfl rfl rfl ?_
                  refine Ow_pass rfl rfl rfl rfl rfl rfl rfl ?_
                  refine Ow_q rfl rfl rfl (Qt_pick_f rfl rfl) ?_
                  refine Ow_nil ?_
                  refine Shift.pull (.there (.there (.there (.there (.there .here))))) ?_
                  refine Shift.pull (.there (.there (.there (.there (.there .here))))) ?_
                  refine Shift.pull (.there (.there (.there (.there (.there .here))))) ?_
                  refine Shift.pull (.there (.there (.there (.there (.there .here))))) ?_
                  refine Shift.pull (.there (.there (.there (.there .here)))) ?_
                  refine Shift.pull (.there (.there (.there (.there (.there .here))))) ?_
                  refine Shift.done ?_
                  exact ⟨[(1, (.int .i64 p1)), (5, (sv v357)), (7, (.map (some b508))), (8, (sv v1047)), (10, (.pointer (some ((⟨b1180, 0, none⟩ : Addr).add 0)))), (11, (sv s1190)), (33, (sv vp0)), (34, (.int .i64 (p0.length : Int))), (35, (.int .i64 i1050)), (80, (.bool false))], ⟨rfl, rfl, rfl, rfl, rfl, rfl, rfl, rfl, rfl, rfl, trivial⟩, false, rfl, rfl, rfl, H⟩
              rintro _ _ _ - ⟨t1288, rfl, rfl, rfl, H⟩
              unfold M_happens_Clocks_J7 at H
              refine Cw_cond rfl ?_ ?_
              · intro h1290
                have H := ift h1290 H
                obtain ⟨x1291, hx1292, H⟩ := bnd H
                refine Cw_region_any [.blk b1180 56 (Item.cells x1174), .row (sv s1190) 3 1 rs1283.flatten, .rws 3 1 (vs1040.set x1174.thread.toNat (.slice none 0 0)) ((rss1041.set x1174.thread.toNat []).map List.flatten), .row (sv v357) 44 1 (vs1040.map one).flatten, .tok 44 1 [(sv v1047)]] rfl (Inc.cons (.head _) (Inc.cons (.tail _ (.head _)) (Inc.cons (.tail _ (.tail _ (.head _))) (Inc.cons (.tail _ (.tail _ (.tail _ (.head _)))) (Inc.cons (.tail _ (.tail _ (.tail _ (.tail _ (.tail _ (.head _)))))) Inc.nil))))) ?_
                refine Aw_q 0 rfl (by kernel_rfl) (by kernel_rfl) (by kernel_rfl) rfl rfl rfl (Qt_move rfl) ?_
                refine Aw_q 1 rfl (by kernel_rfl) (by kernel_rfl) (by kernel_rfl) rfl rfl rfl (Qt_fieldAddr (m := 1) rfl rfl rfl rfl rfl) ?_
                refine Aw_q 2 rfl (by kernel_rfl) (by kernel_rfl) (by kernel_rfl) rfl rfl rfl (Qt_fieldAddr (m := 2) rfl rfl rfl rfl rfl) ?_
                refine Aw_q 3 rfl (by kernel_rfl) (by kernel_rfl) (by kernel_rfl) rfl rfl rfl (Qt_load1 (v := (.int .i64 x1174.access.address)) rfl rfl rfl (Rdc.blk (.head _) rfl)) ?_
                refine Aw_q 4 rfl (by kernel_rfl) (by kernel_rfl) (by kernel_rfl) rfl rfl rfl (Qt_move rfl) ?_
                refine Aw_one 5 (by kernel_rfl) (Ax_mk rfl rfl ?_)
                refine OpW.shift (Shift.pull (.there .here) (Shift.done ?_))
                refine OpW_call rfl Try.call51 rfl rfl (c_M_slices_Clone_int_int_m0row x1281 s1190 rs1283 x1291 hx1292 _ _ hs1286) ?_
                rintro _ _ _ - ⟨v1303, rs1304, rfl, rfl, rfl, hs1305⟩
                refine ⟨(Inc.cons (.tail _ (.tail _ (.head _))) (Inc.cons (.tail _ (.head _)) (Inc.cons (.tail _ (.tail _ (.tail _ (.head _)))) (Inc.cons (.tail _ (.tail _ (.tail _ (.tail _ (.head _))))) (Inc.cons (.tail _ (.tail _ (.tail _ (.tail _ (.tail _ (.tail _ (.head _))))))) Inc.nil))))), ?_⟩
                refine Aw_one 6 (by kernel_rfl) (Ax_mk rfl rfl ?_)
                refine OpW.shift (Shift.settle (T := Ty.i64) .here hs1305 rfl (fun K1306 hK1307 hs1308 => Shift.done ?_))
                have hs1312 := ((hM1046).mono hK1285).mono hK1307
                refine O_mapSet (T := (Ty.sl Ty.i64)) (kv := (Value.int .i64)) (k := x1174.access.address) (x1 := x1291) (KeyK.int rfl) hs1312 (.tail _ (.tail _ (.tail _ (.tail _ (.tail _ (.head _)))))) rfl rfl rfl rfl ⟨v1303, rfl, hs1308⟩ (fun es1309 ck1310 hM1311 => ⟨_, (.there (.there (.there (.there (.there .here))))), ⟨(Inc.cons (.tail _ (.tail _ (.head _))) (Inc.cons (.tail _ (.head _)) (Inc.cons (.tail _ (.tail _ (.tail _ (.head _)))) (Inc.cons (.tail _ (.tail _ (.tail _ (.tail _ (.head _))))) (Inc.cons (.tail _ (.tail _ (.tail _ (.tail _ (.tail _ (.tail _ (.head _))))))) Inc.nil))))), ?_⟩⟩)
                refine Aw_done (by kernel_rfl) ?_
                refine Shift.pull (.there (.there (.there (.there (.there (.there .here)))))) ?_
                refine Shift.pull (.there (.there (.there (.there (.there .here))))) ?_
                refine Shift.pull (.there (.there (.there (.there (.there .here))))) ?_
                refine Shift.pull (.there (.there (.there (.there .here)))) ?_
                refine Shift.pull (.there (.there (.there (.there (.there (.there .here)))))) ?_
                refine Shift.rem (.there (.there (.there (.there (.there .here))))) ?_
                refine Shift.rem (.there (.there (.there (.there (.there .here))))) ?_
                have hs1313 := (hs1286).mono hK1307
                refine Shift.done ?_
                exact ⟨[(1, (.int .i64 p1)), (5, (sv v357)), (7, (.map (some b508))), (8, (sv v1047)), (11, (sv s1190)), (33, (sv vp0)), (34, (.int .i64 (p0.length : Int))), (35, (.int .i64 i1050))], ⟨rfl, rfl, rfl, rfl, rfl, rfl, rfl, rfl, trivial⟩, es1309, ck1310, (upd m1045 x1174.access.address x1291), x1281, rs1283, rfl, rfl, H, hM1311, hs1313⟩
              · intro h1290
                have H := iff_ (btf h1290) H
                refine Cw_skip ?_
                refine Shift.pull (.there (.there (.there (.there (.there .here))))) ?_
                refine Shift.pull (.there (.there (.there (.there .here)))) ?_
                refine Shift.pull (.there (.there (.there (.there .here)))) ?_
                refine Shift.pull (.there (.there (.there (.there .here)))) ?_
                refine Shift.pull (.there (.there (.there (.there (.there .here))))) ?_
                refine Shift.rem (.there (.there (.there (.there (.there .here))))) ?_
                have hs1314 := (hM1046).mono hK1285
                refine Shift.done ?_
                exact ⟨[(1, (.int .i64 p1)), (5, (sv v357)), (7, (.map (some b508))), (8, (sv v1047)), (11, (sv s1190)), (33, (sv vp0)), (34, (.int .i64 (p0.length : Int))), (35, (.int .i64 i1050))], ⟨rfl, rfl, rfl, rfl, rfl, rfl, rfl, rfl, trivial⟩, es1043, ck1044, m1045, x1281, rs1283, rfl, rfl, H, hs1314, hs1286⟩
            · intro h1279
              have H := iff_ (btf h1279) H
              refine Cw_seq ?_
              refine Cw_region ?_
              refine Ow_q rfl rfl rfl (Qt_cmp rfl rfl rfl) ?_
              refine Ow_q rfl rfl rfl (Qt_assign rfl) ?_
              refine Ow_nil ?_
              refine Cw_cond rfl ?_ ?_
              · intro h1315
                have h1315 := dcd_t (h1315)
                have H := ift h1315 H
                obtain ⟨x1316, hx1317, H⟩ := bnd H
                refine Cw_region_any [.blk b1180 56 (Item.cells x1174), .row (sv s1190) 3 1 (rs1191.set x1174.thread.toNat [(.int .i64 (wI (x1196 + 1)))]).flatten, .rws 3 1 (vs1040.set x1174.thread.toNat (.slice none 0 0)) ((rss1041.set x1174.thread.toNat []).map List.flatten), .row (sv v357) 44 1 (vs1040.map one).flatten, .tok 44 1 [(sv v1047)]] rfl (Inc.cons (.head _) (Inc.cons (.tail _ (.head _)) (Inc.cons (.tail _ (.tail _ (.head _))) (Inc.cons (.tail _ (.tail _ (.tail _ (.head _)))) (Inc.cons (.tail _ (.tail _ (.tail _ (.tail _ (.tail _ (.head _)))))) Inc.nil))))) ?_
                refine Aw_q 0 rfl (by kernel_rfl) (by kernel_rfl) (by kernel_rfl) rfl rfl rfl (Qt_move rfl) ?_
                refine Aw_q 1 rfl (by kernel_rfl) (by kernel_rfl) (by kernel_rfl) rfl rfl rfl (Qt_fieldAddr (m := 1) rfl rfl rfl rfl rfl) ?_
                refine Aw_q 2 rfl (by kernel_rfl) (by kernel_rfl) (by kernel_rfl) rfl rfl rfl (Qt_fieldAddr (m := 2) rfl rfl rfl rfl rfl) ?_
                refine Aw_q 3 rfl (by kernel_rfl) (by kernel_rfl) (by kernel_rfl) rfl rfl rfl (Qt_load1 (v := (.int .i64 x1174.access.address)) rfl rfl rfl (Rdc.blk (.head _) rfl)) ?_
                refine Aw_q 4 rfl (by kernel_rfl) (by kernel_rfl) (by kernel_rfl) rfl rfl rfl (Qt_move rfl) ?_
                refine Aw_one 5 (by kernel_rfl) (Ax_mk rfl rfl ?_)
                refine OpW.shift (Shift.pull (.there .here) (Shift.done ?_))
                refine OpW_call rfl Try.call51 rfl rfl (c_M_slices_Clone_int_int_m0row (setI x1188 x1174.thread (wI (x1196 + 1))) s1190 (rs1191.set x1174.thread.toNat [(.int .i64 (wI (x1196 + 1)))]) x1316 hx1317 _ _ hR1206) ?_
                rintro _ _ _ - ⟨v1328, rs1329, rfl, rfl, rfl, hs1330⟩
                refine ⟨(Inc.cons (.tail _ (.tail _ (.head _))) (Inc.cons (.tail _ (.head _)) (Inc.cons (.tail _ (.tail _ (.tail _ (.head _)))) (Inc.cons (.tail _ (.tail _ (.tail _ (.tail _ (.head _))))) (Inc.cons (.tail _ (.tail _ (.tail _ (.tail _ (.tail _ (.tail _ (.head _))))))) Inc.nil))))), ?_⟩
                refine Aw_one 6 (by kernel_rfl) (Ax_mk rfl rfl ?_)
                refine OpW.shift (Shift.settle (T := Ty.i64) .here hs1330 rfl (fun K1331 hK1332 hs1333 => Shift.done ?_))
                have hs1337 := (hM1046).mono hK1332
                refine O_mapSet (T := (Ty.sl Ty.i64)) (kv := (Value.int .i64)) (k := x1174.access.address) (x1 := x1316) (KeyK.int rfl) hs1337 (.tail _ (.tail _ (.tail _ (.tail _ (.tail _ (.head _)))))) rfl rfl rfl rfl ⟨v1328, rfl, hs1333⟩ (fun es1334 ck1335 hM1336 => ⟨_, (.there (.there (.there (.there (.there .here))))), ⟨(Inc.cons (.tail _ (.tail _ (.head _))) (Inc.cons (.tail _ (.head _)) (Inc.cons (.tail _ (.tail _ (.tail _ (.head _)))) (Inc.cons (.tail _ (.tail _ (.tail _ (.tail _ (.head _))))) (Inc.cons (.tail _ (.tail _ (.tail _ (.tail _ (.tail _ (.tail _ (.head _))))))) Inc.nil))))), ?_⟩⟩)
                refine Aw_done (by kernel_rfl) ?_
                refine Shift.pull (.there (.there (.there (.there (.there (.there .here)))))) ?_
                refine Shift.pull (.there (.there (.there (.there (.there .here))))) ?_
                refine Shift.pull (.there (.there (.there (.there (.there .here))))) ?_
                refine Shift.pull (.there (.there (.there (.there .here)))) ?_
                refine Shift.pull (.there (.there (.there (.there (.there (.there .here)))))) ?_
                refine Shift.rem (.there (.there (.there (.there (.there .here))))) ?_
                refine Shift.rem (.there (.there (.there (.there (.there .here))))) ?_
                have hs1338 := (hR1206).mono hK1332
                refine Shift.done ?_
                exact ⟨[(1, (.int .i64 p1)), (5, (sv v357)), (7, (.map (some b508))), (8, (sv v1047)), (11, (sv s1190)), (33, (sv vp0)), (34, (.int .i64 (p0.length : Int))), (35, (.int .i64 i1050))], ⟨rfl, rfl, rfl, rfl, rfl, rfl, rfl, rfl, trivial⟩, es1334, ck1335, (upd m1045 x1174.access.address x1316), (setI x1188 x1174.thread (wI (x1196 + 1))), (rs1191.set x1174.thread.toNat [(.int .i64 (wI (x1196 + 1)))]), rfl, rfl, H, hM1336, hs1338⟩
              · intro h1315
                have h1315 := dcd_f (h1315)
                have H := iff_ h1315 H
                refine Cw_skip ?_
                refine Shift.pull (.there (.there (.there (.there (.there .here))))) ?_
                refine Shift.pull (.there (.there (.there (.there .here)))) ?_
                refine Shift.pull (.there (.there (.there (.there .here)))) ?_
                refine Shift.pull (.there (.there (.there (.there .here)))) ?_
                refine Shift.pull (.there (.there (.there (.there (.there .here))))) ?_
                refine Shift.rem (.there (.there (.there (.there (.there .here))))) ?_
                refine Shift.done ?_
                exact ⟨[(1, (.int .i64 p1)), (5, (sv v357)), (7, (.map (some b508))), (8, (sv v1047)), (11, (sv s1190)), (33, (sv vp0)), (34, (.int .i64 (p0.length : Int))), (35, (.int .i64 i1050))], ⟨rfl, rfl, rfl, rfl, rfl, rfl, rfl, rfl, trivial⟩, es1043, ck1044, m1045, (setI x1188 x1174.thread (wI (x1196 + 1))), (rs1191.set x1174.thread.toNat [(.int .i64 (wI (x1196 + 1)))]), rfl, rfl, H, hM1046, hR1206⟩
          rintro _ K1339 _ hK1340 ⟨es1267, ck1268, m1269, l1271, rs1273, rfl, rfl, H, hM1270, hR1272⟩
          unfold M_happens_Clocks_J5 at H
          refine Cw_region ?_
          refine Ow_q rfl rfl rfl (Qt_move rfl) ?_
          refine Ow_q rfl rfl rfl (Qt_move rfl) ?_
          obtain ⟨x1341, hx1342, H⟩ := bnd H
          refine Ow.shift (Shift.pull (.there .here) (Shift.done ?_))
          refine Ow_cons rfl (OpW_call rfl Try.call51 rfl rfl (c_M_slices_Clone_int_int_m0row l1271 s1190 rs1273 x1341 hx1342 _ _ hR1272) ?_)
          rintro _ _ _ - ⟨v1343, rs1344, rfl, rfl, rfl, hs1345⟩
          refine Ow.shift (Shift.settle (T := Ty.i64) .here hs1345 rfl (fun K1346 hK1347 hs1348 => Shift.done ?_))
          have hR1350 : RowR (Ty.sl Ty.i64) K1346 [[(sv v1343)]] [x1341] := RowR.cons ⟨v1343, rfl, hs1348⟩ (RowR.nil)
          refine Ow_cons rfl (O_lit (T := (Ty.sl Ty.i64)) (rows := [[(sv v1343)]]) (l := [x1341]) rfl rfl rfl hR1350 rfl rfl rfl rfl rfl rfl rfl rfl (fun v1349 => ?_))
          obtain ⟨x1351, hx1352, H⟩ := bnd H
          have hs1357 := ((hs1049).mono hK1340).mono hK1347
          refine Ow_cons rfl (O_appTok (T := (Ty.sl Ty.i64)) (bytes := 24) (q := 0) rfl rfl rfl hs1357 (.tail _ (.tail _ (.tail _ (.tail _ (.tail _ (.tail _ (.head _))))))) rfl (SrcT.row (.head _) hR1350 rfl) hx1352 rfl rfl rfl rfl rfl rfl rfl rfl (fun v1353 K1354 hK1355 hs1356 => ⟨_, (.there (.there (.there (.there (.there (.there .here)))))), ?_⟩))
          refine Ow.shift (Shift.rem .here (Shift.done ?_))
          refine Ow_q rfl rfl rfl (Qt_assign rfl) ?_
          refine Ow_nil ?_
          refine Cw_region ?_
          refine Ow_q rfl rfl rfl (Qt_arith (e := wI (i1050 + 1)) rfl rfl rfl rfl) ?_
          refine Ow_q rfl rfl rfl (Qt_move rfl) ?_
          refine Ow_nil ?_
          have hs1359 := (((hN1042).mono hK1340).mono hK1347).mono hK1355
          have hs1360 := ((hR1272).mono hK1347).mono hK1355
          have hN1358 := NestR.back x1174.thread hs1359 hq1193 hs1360
          refine Shift.nestBack (.there .here) (.there (.there .here)) hq1193 ?_
          refine Shift.pull (.there (.there (.there (.there .here)))) ?_
          refine Shift.pull (.there (.there (.there .here))) ?_
          refine Shift.pull (.there (.there .here)) ?_
          refine Shift.pull (.there (.there (.there (.there .here)))) ?_
          refine Shift.rem (.there (.there (.there (.there .here)))) ?_
          have hs1361 := ((hM1270).mono hK1347).mono hK1355
          refine Shift.done ?_
          exact ⟨[(1, (.int .i64 p1)), (5, (sv v357)), (7, (.map (some b508))), (8, (sv v1353)), (33, (sv vp0)), (34, (.int .i64 (p0.length : Int))), (35, (.int .i64 (wI (i1050 + 1))))], ⟨rfl, rfl, rfl, rfl, rfl, rfl, rfl, trivial⟩, _, Nat.lt_succ_self _, (setI l1039 x1174.thread l1271), vs1040, (rss1041.set x1174.thread.toNat rs1273), es1267, ck1268, m1269, v1353, x1351, (wI (i1050 + 1)), rfl, rfl, (hkk1056 ▸ H), hN1358, hs1361, hs1356⟩
      · intro h1058
        have h1058 := dcd_f (h1058)
        have H := iff_ h1058 H
        refine Cw_exit ?_
        refine Shift.pull (.there (.there (.there .here))) ?_
        refine Shift.rem (.there .here) ?_
        refine Shift.rem (.there .here) ?_
        refine Shift.rem (.there .here) ?_
        refine Shift.done ?_
        exact ⟨[(8, (sv v1047))], ⟨rfl, trivial⟩, v1047, l1048, rfl, rfl, H, hs1049⟩
    rintro _ K1362 _ hK1363 ⟨v780, l781, rfl, rfl, H, hs782⟩
    unfold M_happens_Clocks_J3 at H
    refine Cw_seq ?_
    refine Cw_region ?_
    refine Ow_q rfl rfl rfl (Qt_move rfl) ?_
    refine Ow_q rfl rfl rfl (Qt_assign rfl) ?_
    refine Ow_nil ?_
    refine Cw_ret ?_
    obtain ey0 := inj1 H
    subst y0
    refine ⟨(by first | exact .inl rfl | exact .inr rfl), [(sv v780)], ⟨(sv v780), _, rfl, rfl, rfl⟩, ?_⟩
    refine Shift.done ?_
    exact ⟨v780, rfl, rfl, hs782⟩

set_option maxHeartbeats 1000000 in
theorem c_M_happens_before (p0 : List Item) (vp0 : SV) (p1 : List (List Int)) (vp1 : SV) (p2 : Int) (p3 : Int) (y0 : Bool) (H : M_happens_before p0 p1 p2 p3 = some y0) (K : Kp) (G : List Ent) (hp0 : Slr TyItem K (sv vp0) p0) (hp1 : Slr (Ty.sl Ty.i64) K (sv vp1) p1) :
    Fc Try.prog 55 #[(sv vp0), (sv vp1), (.int .i64 p2), (.int .i64 p3)] K (G) (fun v K' G' => v = (.bool y0) ∧ K = K' ∧ G = G') := by
  refine Fc_body Try.func55 rfl Try.ntmps55 Try.results55 rfl ?_
  unfold M_happens_before at H
  refine Cw_seq ?_
  refine Cw_region ?_
  refine Ow_q rfl rfl rfl (Qt_assign rfl) ?_
  refine Ow_nil ?_
  refine Cw_seq ?_
  refine Cw_region ?_
  refine Ow_q rfl rfl rfl (Qt_move rfl) ?_
  refine Ow_q rfl rfl rfl (Qt_move rfl) ?_
  obtain ⟨x46, hx47, H⟩ := bnd H
  obtain ⟨r48, hr49, hk50⟩ := Slr.at hp0 hx47
  obtain rfl := hr49
  refine Ow_q rfl rfl rfl (Q_ix (T := TyItem) hp0 hx47 rfl rfl rfl rfl rfl) ?_
  refine Ow_q rfl rfl rfl (Qt_fieldAddr (m := 0) rfl rfl rfl rfl rfl) ?_
  refine Ow_q rfl rfl rfl (Qt_load1 (v := (.int .i64 x46.thread)) rfl rfl rfl (Rdc.k hk50 rfl)) ?_
  refine Ow_q rfl rfl rfl (Qt_assign rfl) ?_
  refine Ow_nil ?_
  refine Cw_seq ?_
  obtain ⟨x51, hx52, H⟩ := bnd H
  obtain ⟨x58, hx59, H⟩ := bnd H
  obtain ⟨x63, hx64, H⟩ := bnd H
  obtain ⟨x70, hx71, H⟩ := bnd H
  refine Cw_region_any [] rfl Inc.nil ?_
  refine Aw_q 0 rfl (by kernel_rfl) (by kernel_rfl) (by kernel_rfl) rfl rfl rfl (Qt_move rfl) ?_
  refine Aw_q 1 rfl (by kernel_rfl) (by kernel_rfl) (by kernel_rfl) rfl rfl rfl (Qt_move rfl) ?_
  obtain ⟨r75, hr76, hk77⟩ := Slr.at hp1 hx52
  obtain ⟨v78, rfl, hs79⟩ := hr76
  refine Aw_q 2 rfl (by kernel_rfl) (by kernel_rfl) (by kernel_rfl) rfl rfl rfl (Q_ix (T := (Ty.sl Ty.i64)) hp1 hx52 rfl rfl rfl rfl rfl) ?_
  refine Aw_q 3 rfl (by kernel_rfl) (by kernel_rfl) (by kernel_rfl) rfl rfl rfl (Qt_load1 (v := (sv v78)) rfl rfl rfl (Rdc.k hk77 rfl)) ?_
  refine Aw_q 4 rfl (by kernel_rfl) (by kernel_rfl) (by kernel_rfl) rfl rfl rfl (Qt_move rfl) ?_
  obtain ⟨r80, hr81, hk82⟩ := Slr.at hs79 hx59
  obtain rfl := hr81
  refine Aw_q 5 rfl (by kernel_rfl) (by kernel_rfl) (by kernel_rfl) rfl rfl rfl (Q_ix (T := Ty.i64) hs79 hx59 rfl rfl rfl rfl rfl) ?_
  refine Aw_q 6 rfl (by kernel_rfl) (by kernel_rfl) (by kernel_rfl) rfl rfl rfl (Qt_load1 (v := (.int .i64 x58)) rfl rfl rfl (Rdc.k hk82 rfl)) ?_
  refine Aw_q 7 rfl (by kernel_rfl) (by kernel_rfl) (by kernel_rfl) rfl rfl rfl (Qt_move rfl) ?_
  refine Aw_q 8 rfl (by kernel_rfl) (by kernel_rfl) (by kernel_rfl) rfl rfl rfl (Qt_move rfl) ?_
  obtain ⟨r83, hr84, hk85⟩ := Slr.at hp1 hx64
  obtain ⟨v86, rfl, hs87⟩ := hr84
  refine Aw_q 9 rfl (by kernel_rfl) (by kernel_rfl) (by kernel_rfl) rfl rfl rfl (Q_ix (T := (Ty.sl Ty.i64)) hp1 hx64 rfl rfl rfl rfl rfl) ?_
  refine Aw_q 10 rfl (by kernel_rfl) (by kernel_rfl) (by kernel_rfl) rfl rfl rfl (Qt_load1 (v := (sv v86)) rfl rfl rfl (Rdc.k hk85 rfl)) ?_
  refine Aw_q 11 rfl (by kernel_rfl) (by kernel_rfl) (by kernel_rfl) rfl rfl rfl (Qt_move rfl) ?_
  obtain ⟨r88, hr89, hk90⟩ := Slr.at hs87 hx71
  obtain rfl := hr89
  refine Aw_q 12 rfl (by kernel_rfl) (by kernel_rfl) (by kernel_rfl) rfl rfl rfl (Q_ix (T := Ty.i64) hs87 hx71 rfl rfl rfl rfl rfl) ?_
  refine Aw_q 13 rfl (by kernel_rfl) (by kernel_rfl) (by kernel_rfl) rfl rfl rfl (Qt_load1 (v := (.int .i64 x70)) rfl rfl rfl (Rdc.k hk90 rfl)) ?_
  refine Aw_q 14 rfl (by kernel_rfl) (by kernel_rfl) (by kernel_rfl) rfl rfl rfl (Qt_cmp rfl rfl rfl) ?_
  refine Aw_q 15 rfl (by kernel_rfl) (by kernel_rfl) (by kernel_rfl) rfl rfl rfl (Qt_assign rfl) ?_
  refine Aw_done (by kernel_rfl) ?_
  refine Cw_ret ?_
  obtain ey0 := inj1 H
  subst y0
  refine ⟨(by first | exact .inl rfl | exact .inr rfl), [(.bool (dcd (x58 ≥ x70)))], ⟨(.bool (dcd (x58 ≥ x70))), _, rfl, rfl, rfl⟩, ?_⟩
  refine Shift.done ?_
  exact ⟨rfl, rfl, rfl⟩


end Go.Hx
