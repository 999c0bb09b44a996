/- Printed by program. -/
import Derived.Test.YthokebmjjkjjfaaXDM
import Derived.Test.YthokebmjjkjjfaaXDWDesk3
import Derived.Test.YthokebmjjkjjfaaXDWDraw
import Derived.Test.YthokebmjjkjjfaaXDWDraw1
import Derived.Test.YthokebmjjkjjfaaXDWLaw15
import Derived.Test.YthokebmjjkjjfaaXDWLaw151
import Derived.Test.YthokebmjjkjjfaaXDWRef151
import Derived.Test.YthokebmjjkjjfaaXDWRef152
namespace Go.Hx
open Go Go.Proofs
set_option linter.unusedSimpArgs false
set_option linter.unusedVariables false
set_option maxRecDepth 10000
set_option maxHeartbeats 1000000 in
theorem c_M_156z (p0 : List Int) (vp0 : SV) (p1 : Int) (y0 : Bool) (H : M_156z p0 p1 = some y0) (K : Kp) (G : List Ent) (hp0 : Slr Ty.u8 K (sv vp0) p0) :
  Fc Try.prog 3 #[(sv vp0), (.int .i64 p1)] K (G) (fun v K' G' => v = (.bool y0) ∧ G = G') := by
 refine Fc_body Try.func3 rfl Try.ntmps3 Try.results3 rfl ?_
 unfold M_156z at H
 refine Cw_seq ?_
 refine Cw_region ?_
 refine Ow_q rfl rfl rfl (Qt_assign rfl) ?_
 refine Ow_nil ?_
 refine Cw_seq ?_
 refine Cw_seq ?_
 refine Cw_region ?_
 obtain ⟨x179, hx180, H⟩ := bnd H
 refine Ow_cons rfl (OpW_call rfl Try.call9 rfl rfl (c_M_92z  x179 hx180 _ _ ) ?_)
 rintro _ K181 _ hK182 ⟨rfl, rfl⟩
 refine Ow_q rfl rfl rfl (Qt_not rfl) ?_
 refine Ow_nil ?_
 refine Cw_cond rfl ?_ ?_
 ·intro h183
  have h183 := nt_t (h183)
  have H := iff_ (btf h183) H
  refine Cw_seq ?_
  refine Cw_region ?_
  refine Ow_q rfl rfl rfl (Qt_assign rfl) ?_
  refine Ow_nil ?_
  refine Cw_ret ?_
  obtain ey0 := inj1 H
  subst y0
  refine ⟨(by first | exact .inl rfl | exact .inr rfl), [(.bool false)], ⟨(.bool false), _, rfl, rfl, rfl⟩, ?_⟩
  refine Shift.done ?_
  exact ⟨rfl, rfl⟩
 ·intro h183
  have h183 := nt_f (h183)
  have H := ift h183 H
  refine Cw_skip ?_
  refine Cw_seq ?_
  refine Cw_region ?_
  refine Ow_q rfl rfl rfl (Qt_move rfl) ?_
  obtain ⟨x184, hx185, H⟩ := bnd H
  have hs186 := (hp0).mono hK182
  refine Ow_cons rfl (OpW_call rfl Try.call10 rfl rfl (c_M_93z p0 vp0 200 x184 hx185 _ _ hs186) ?_)
  rintro _ _ _ - ⟨b187, v188, rfl, rfl, rfl, hs189⟩
  refine Ow_q rfl rfl rfl (Qt_assign rfl) ?_
  refine Ow_nil ?_
  refine Cw_seq ?_
  refine Cw_region ?_
  refine Ow_q rfl rfl rfl (Qt_move rfl) ?_
  obtain ⟨x190, x191, x192, hx193, H⟩ := bnd3 H
  refine Ow_cons rfl (OpW_call rfl Try.call11 rfl rfl (c_M_95z b187 x184 v188 x190 x191 x192 hx193 _ _ hs189) ?_)
  rintro _ K196 _ hK197 ⟨v194, v195, rfl, rfl, hs198, hs199⟩
  refine Ow_cons rfl (OpW_alloc (cs := (Config.cells (Config.mk [] [] 0) nilS nilS)) rfl rfl rfl rfl (fun b200 => ?_))
  refine Ow_cons rfl (OpW_store (vs := (Config.cells x190 v194 v195)) (all' := (Config.cells x190 v194 v195)) rfl rfl rfl rfl rfl .here rfl rfl rfl ?_)
  refine Ow_nil ?_
  refine Cw_seq ?_
  refine Cw_region ?_
  refine Ow_q rfl rfl rfl (Qt_move rfl) ?_
  refine Ow_q rfl rfl rfl (Qt_loadA (m := 3) (cs := (Config.cells x190 v194 v195)) rfl rfl rfl rfl ⟨rfl, Rdc.blk (.head _) rfl⟩) ?_
  obtain ⟨x201, x202, x203, hx204, H⟩ := bnd3 H
  refine Ow.shift (Shift.pull (.there .here) (Shift.done ?_))
  have hs205 := (hs189).mono hK197
  refine Ow_cons rfl (OpW_call rfl Try.call12 rfl rfl (c_M_120z b187 (Draw_Codes.mk x184.list x191 x192) v188 x190 v194 v195 12 x201 x202 x203 hx204 _ _ hs205 hs198 hs199) ?_)
  rintro _ K208 _ hK209 ⟨v206, v207, rfl, rfl, hs210, hs211⟩
  refine Ow_cons rfl (OpW_alloc (cs := (Desk.cells (Desk.mk [] [] 0) nilS nilS)) rfl rfl rfl rfl (fun b212 => ?_))
  refine Ow_cons rfl (OpW_store (vs := (Desk.cells x201 v206 v207)) (all' := (Desk.cells x201 v206 v207)) rfl rfl rfl rfl rfl .here rfl rfl rfl ?_)
  refine Ow_nil ?_
  refine Cw_seq ?_
  refine Cw_region ?_
  refine Ow_q rfl rfl rfl (Qt_move rfl) ?_
  refine Ow_q rfl rfl rfl (Qt_fieldAddr (m := 2) rfl rfl rfl rfl rfl) ?_
  refine Ow_q rfl rfl rfl (Qt_load1 (v := (.int .i64 x190.threads)) rfl rfl rfl (Rdc.blk (.tail _ (.tail _ (.head _))) rfl)) ?_
  obtain ⟨x213, hx214, H⟩ := bnd H
  refine Ow_cons rfl (OpW_call rfl Try.call13 rfl rfl (c_M_121z p1 x190.threads x213 hx214 _ _ ) ?_)
  rintro _ _ _ - ⟨rfl, rfl, rfl⟩
  refine Ow_q rfl rfl rfl (Qt_assign rfl) ?_
  refine Ow_nil ?_
  refine Cw_seq ?_
  refine Cw_seq ?_
  refine Cw_region ?_
  refine Ow_q rfl rfl rfl (Qt_loadA (m := 3) (cs := (Desk.cells x201 v206 v207)) rfl rfl rfl rfl ⟨rfl, Rdc.blk (.head _) rfl⟩) ?_
  refine Ow_q rfl rfl rfl (Qt_move rfl) ?_
  obtain ⟨x220, hx221, H⟩ := bnd H
  refine Ow_cons rfl (OpW_call rfl Try.call14 rfl rfl (c_M_29z x201 v206 v207 x213 x220 hx221 _ _ hs210 hs211) ?_)
  rintro _ K222 _ hK223 ⟨rfl, rfl⟩
  refine Ow_nil ?_
  refine Cw_cond rfl ?_ ?_
  ·intro h224
   have H := ift h224 H
   refine Cw_seq ?_
   refine Cw_region ?_
   refine Ow_q rfl rfl rfl (Qt_assign rfl) ?_
   refine Ow_nil ?_
   refine Cw_ret ?_
   obtain ey0 := inj1 H
   subst y0
   refine ⟨(by first | exact .inl rfl | exact .inr rfl), [(.bool true)], ⟨(.bool true), _, rfl, rfl, rfl⟩, ?_⟩
   refine Shift.rem .here ?_
   refine Shift.rem .here ?_
   refine Shift.rem .here ?_
   refine Shift.rem .here ?_
   refine Shift.rem .here ?_
   refine Shift.done ?_
   exact ⟨rfl, rfl⟩
  ·intro h224
   have H := iff_ (btf h224) H
   refine Cw_skip ?_
   refine Cw_seq ?_
   refine Cw_region ?_
   refine Ow_q rfl rfl rfl (Qt_move rfl) ?_
   refine Ow_q rfl rfl rfl (Qt_loadA (m := 3) (cs := (Config.cells x190 v194 v195)) rfl rfl rfl rfl ⟨rfl, Rdc.blk (.tail _ (.tail _ (.head _))) rfl⟩) ?_
   obtain ⟨x225, x226, x227, hx228, H⟩ := bnd3 H
   refine Ow.shift (Shift.pull (.there .here) (Shift.done ?_))
   have hs229 := ((hs205).mono hK209).mono hK223
   have hs230 := ((hs198).mono hK209).mono hK223
   have hs231 := ((hs199).mono hK209).mono hK223
   refine Ow_cons rfl (OpW_call rfl Try.call15 rfl rfl (c_M_55z b187 (Draw_Codes.mk x184.list x202 x203) v188 x190 v194 v195 4 x225 x226 x227 hx228 _ _ hs229 hs230 hs231) ?_)
   rintro _ K234 _ hK235 ⟨v232, v233, rfl, rfl, hs236, hs237⟩
   refine Ow_cons rfl (OpW_alloc (cs := (Op.cells (Op.mk 0 0 0 0 0 [] []) nilS nilS)) rfl rfl rfl rfl (fun b238 => ?_))
   refine Ow_cons rfl (OpW_store (vs := (Op.cells x225 v232 v233)) (all' := (Op.cells x225 v232 v233)) rfl rfl rfl rfl rfl .here rfl rfl rfl ?_)
   refine Ow_nil ?_
   refine Cw_join (fun env' K' G' => [(7, (.pointer (some ((⟨b212, 0, none⟩ : Addr).add 0)))), (8, (.int .i64 x213)), (9, (.pointer (some ((⟨b238, 0, none⟩ : Addr).add 0))))] = env' ∧ (.blk b238 41 (Op.cells x225 v232 v233)) :: (.blk b212 34 (Desk.cells x201 v206 v207)) :: G = G' ∧ M_154z x213 x225 x201 = some y0) ?_ ?_
   ·skip
    refine Cw_seq ?_
    refine Cw_region ?_
    refine Ow_q rfl rfl rfl (Qt_fieldAddr (m := 5) rfl rfl rfl rfl rfl) ?_
    refine Ow_q rfl rfl rfl (Qt_load1 (v := (sv v232)) rfl rfl rfl (Rdc.blk (.head _) rfl)) ?_
    refine Ow_q rfl rfl rfl (Q_len (T := TyCase) hs236 rfl rfl) ?_
    refine Ow_q rfl rfl rfl (Qt_move rfl) ?_
    refine Ow_nil ?_
    refine Cw_block ?_
    refine Cw_loopM (fun n415 env' K' G' => ∃ (i414 : Int), [(7, (.pointer (some ((⟨b212, 0, none⟩ : Addr).add 0)))), (8, (.int .i64 x213)), (9, (.pointer (some ((⟨b238, 0, none⟩ : Addr).add 0)))), (32, (.int .i64 (x225.cases.length : Int))), (33, (.int .i64 i414))] = env' ∧ (.blk b238 41 (Op.cells x225 v232 v233)) :: (.blk b212 34 (Desk.cells x201 v206 v207)) :: G = G' ∧ lp1 (M_155z x213 x225 x201) n415 i414 = some y0) BIG ?_ ?_
    ·skip
     refine Shift.pull (.there (.there .here)) ?_
     refine Shift.pull (.there .here) ?_
     refine Shift.rem (.there (.there .here)) ?_
     refine Shift.rem (.there (.there .here)) ?_
     refine Shift.rem (.there (.there .here)) ?_
     refine Shift.rem (.there (.there .here)) ?_
     refine Shift.done ?_
     exact ⟨[(7, (.pointer (some ((⟨b212, 0, none⟩ : Addr).add 0)))), (8, (.int .i64 x213)), (9, (.pointer (some ((⟨b238, 0, none⟩ : Addr).add 0)))), (32, (.int .i64 (x225.cases.length : Int))), (33, (.int .i64 0))], ⟨rfl, rfl, rfl, rfl, rfl, trivial⟩, 0, rfl, rfl, H⟩
    rintro n415 _ K416 _ hK417 ⟨i414, rfl, rfl, H⟩
    obtain ⟨m418, k419, rfl, hkk420, H⟩ := lps1 H
    unfold M_155z at H
    refine Cw_seq ?_
    refine Cw_region ?_
    refine Ow_q rfl rfl rfl (Qt_cmp rfl rfl rfl) ?_
    refine Ow_nil ?_
    refine Cw_seq ?_
    refine Cw_cond rfl ?_ ?_
    ·intro h422
     have h422 := dcd_t (h422)
     have H := ift h422 H
     refine Cw_skip ?_
     refine Cw_seq ?_
     refine Cw_block ?_
     refine Cw_seq ?_
     refine Cw_region ?_
     refine Ow_q rfl rfl rfl (Qt_move rfl) ?_
     refine Ow_q rfl rfl rfl (Qt_assign rfl) ?_
     refine Ow_nil ?_
     refine Cw_seq ?_
     obtain ⟨x502, hx503, H⟩ := bnd H
     obtain ⟨x508, hx509, H⟩ := bnd H
     obtain ⟨x514, hx515, H⟩ := bnd H
     obtain ⟨x520, hx521, H⟩ := bnd H
     refine Cw_region_any [.blk b238 41 (Op.cells x225 v232 v233), .blk b212 34 (Desk.cells x201 v206 v207)] rfl (Inc.cons (.head _) (Inc.cons (.tail _ (.head _)) Inc.nil)) ?_
     refine Aw_q 0 rfl (by kernel_rfl) (by kernel_rfl) (by kernel_rfl) rfl rfl rfl (Qt_loadA (m := 3) (cs := (Desk.cells x201 v206 v207)) rfl rfl rfl rfl ⟨rfl, Rdc.blk (.tail _ (.head _)) rfl⟩) ?_
     refine Aw_q 1 rfl (by kernel_rfl) (by kernel_rfl) (by kernel_rfl) rfl rfl rfl (Qt_move rfl) ?_
     refine Aw_q 2 rfl (by kernel_rfl) (by kernel_rfl) (by kernel_rfl) rfl rfl rfl (Qt_fieldAddr (m := 5) rfl rfl rfl rfl rfl) ?_
     refine Aw_q 3 rfl (by kernel_rfl) (by kernel_rfl) (by kernel_rfl) rfl rfl rfl (Qt_load1 (v := (sv v232)) rfl rfl rfl (Rdc.blk (.head _) rfl)) ?_
     refine Aw_q 4 rfl (by kernel_rfl) (by kernel_rfl) (by kernel_rfl) rfl rfl rfl (Qt_move rfl) ?_
     have hs526 := (hs236).mono hK417
     obtain ⟨r527, hr528, hk529⟩ := Slr.at hs526 hx503
     obtain rfl := hr528
     refine Aw_q 5 rfl (by kernel_rfl) (by kernel_rfl) (by kernel_rfl) rfl rfl rfl (Q_ix (T := TyCase) hs526 hx503 rfl rfl rfl rfl rfl) ?_
     refine Aw_q 6 rfl (by kernel_rfl) (by kernel_rfl) (by kernel_rfl) rfl rfl rfl (Qt_loadA (m := 3) (cs := (Case.cells x502)) rfl rfl rfl rfl ⟨rfl, Rdc.k hk529 rfl⟩) ?_
     refine Aw_q 8 rfl (by kernel_rfl) (by kernel_rfl) (by kernel_rfl) rfl rfl rfl (Qt_loadA (m := 3) (cs := (Desk.cells x201 v206 v207)) rfl rfl rfl rfl ⟨rfl, Rdc.blk (.tail _ (.head _)) rfl⟩) ?_
     refine Aw_q 9 rfl (by kernel_rfl) (by kernel_rfl) (by kernel_rfl) rfl rfl rfl (Qt_move rfl) ?_
     refine Aw_q 10 rfl (by kernel_rfl) (by kernel_rfl) (by kernel_rfl) rfl rfl rfl (Qt_fieldAddr (m := 5) rfl rfl rfl rfl rfl) ?_
     refine Aw_q 11 rfl (by kernel_rfl) (by kernel_rfl) (by kernel_rfl) rfl rfl rfl (Qt_load1 (v := (sv v232)) rfl rfl rfl (Rdc.blk (.head _) rfl)) ?_
     refine Aw_q 12 rfl (by kernel_rfl) (by kernel_rfl) (by kernel_rfl) rfl rfl rfl (Qt_move rfl) ?_
     obtain ⟨r530, hr531, hk532⟩ := Slr.at hs526 hx515
     obtain rfl := hr531
     refine Aw_q 13 rfl (by kernel_rfl) (by kernel_rfl) (by kernel_rfl) rfl rfl rfl (Q_ix (T := TyCase) hs526 hx515 rfl rfl rfl rfl rfl) ?_
     refine Aw_q 14 rfl (by kernel_rfl) (by kernel_rfl) (by kernel_rfl) rfl rfl rfl (Qt_loadA (m := 3) (cs := (Case.cells x514)) rfl rfl rfl rfl ⟨rfl, Rdc.k hk532 rfl⟩) ?_
     refine Aw_one 7 (by kernel_rfl) (Ax_mk rfl rfl ?_)
     have hs533 := (((hs210).mono hK223).mono hK235).mono hK417
     have hs534 := (((hs211).mono hK223).mono hK235).mono hK417
     refine OpW_call rfl Try.call16 rfl rfl (c_M_25z x201 v206 v207 x213 x502 x508 hx509 _ _ hs533 hs534) ?_
     rintro _ K535 _ hK536 ⟨rfl, rfl⟩
     refine ⟨(Inc.cons (.head _) (Inc.cons (.tail _ (.head _)) Inc.nil)), ?_⟩
     refine Aw_one 15 (by kernel_rfl) (Ax_mk rfl rfl ?_)
     have hs537 := (hs533).mono hK536
     have hs538 := (hs534).mono hK536
     refine OpW_call rfl Try.call17 rfl rfl (c_M_33z x201 v206 v207 x213 x514 x520 hx521 _ _ hs537 hs538) ?_
     rintro _ K539 _ hK540 ⟨rfl, rfl⟩
     refine ⟨(Inc.cons (.head _) (Inc.cons (.tail _ (.head _)) Inc.nil)), ?_⟩
     refine Aw_q 16 rfl (by kernel_rfl) (by kernel_rfl) (by kernel_rfl) rfl rfl rfl (Qt_neB rfl rfl rfl) ?_
     refine Aw_done (by kernel_rfl) ?_
     refine Cw_cond rfl ?_ ?_
     ·intro h541
      have h541 := nt_t (h541)
      have H := iff_ (btf h541) H
      refine Cw_seq ?_
      refine Cw_region ?_
      refine Ow_q rfl rfl rfl (Qt_assign rfl) ?_
      refine Ow_nil ?_
      refine Cw_ret ?_
      obtain ey0 := inj1 H
      subst y0
      refine ⟨(by first | exact .inl rfl | exact .inr rfl), [(.bool false)], ⟨(.bool false), _, rfl, rfl, rfl⟩, ?_⟩
      refine Shift.rem .here ?_
      refine Shift.rem .here ?_
      refine Shift.done ?_
      exact ⟨rfl, rfl⟩
     ·intro h541
      have h541 := nt_f (h541)
      have H := ift h541 H
      refine Cw_skip ?_
      refine Cw_region ?_
      refine Ow_q rfl rfl rfl (Qt_arith (e := wI (i414 + 1)) rfl rfl rfl rfl) ?_
      refine Ow_q rfl rfl rfl (Qt_move rfl) ?_
      refine Ow_nil ?_
      refine Shift.pull (.there .here) ?_
      refine Shift.pull (.there .here) ?_
      refine Shift.done ?_
      exact ⟨[(7, (.pointer (some ((⟨b212, 0, none⟩ : Addr).add 0)))), (8, (.int .i64 x213)), (9, (.pointer (some ((⟨b238, 0, none⟩ : Addr).add 0)))), (32, (.int .i64 (x225.cases.length : Int))), (33, (.int .i64 (wI (i414 + 1))))], ⟨rfl, rfl, rfl, rfl, rfl, trivial⟩, _, Nat.lt_succ_self _, (wI (i414 + 1)), rfl, rfl, (hkk420 ▸ H)⟩
    ·intro h422
     have h422 := dcd_f (h422)
     have H := iff_ h422 H
     refine Cw_exit ?_
     refine Shift.pull (.there .here) ?_
     refine Shift.pull (.there .here) ?_
     refine Shift.done ?_
     exact ⟨[(7, (.pointer (some ((⟨b212, 0, none⟩ : Addr).add 0)))), (8, (.int .i64 x213)), (9, (.pointer (some ((⟨b238, 0, none⟩ : Addr).add 0))))], ⟨rfl, rfl, rfl, trivial⟩, rfl, rfl, H⟩
   rintro _ K542 _ hK543 ⟨rfl, rfl, H⟩
   unfold M_154z at H
   refine Cw_seq ?_
   obtain ⟨x572, hx573, H⟩ := bnd H
   obtain ⟨x580, hx581, H⟩ := bnd H
   refine Cw_region_any [.blk b238 41 (Op.cells x225 v232 v233), .blk b212 34 (Desk.cells x201 v206 v207)] rfl (Inc.cons (.head _) (Inc.cons (.tail _ (.head _)) Inc.nil)) ?_
   refine Aw_q 0 rfl (by kernel_rfl) (by kernel_rfl) (by kernel_rfl) rfl rfl rfl (Qt_loadA (m := 3) (cs := (Desk.cells x201 v206 v207)) rfl rfl rfl rfl ⟨rfl, Rdc.blk (.tail _ (.head _)) rfl⟩) ?_
   refine Aw_q 1 rfl (by kernel_rfl) (by kernel_rfl) (by kernel_rfl) rfl rfl rfl (Qt_move rfl) ?_
   refine Aw_q 2 rfl (by kernel_rfl) (by kernel_rfl) (by kernel_rfl) rfl rfl rfl (Qt_loadA (m := 7) (cs := (Op.cells x225 v232 v233)) rfl rfl rfl rfl ⟨rfl, Rdc.blk (.head _) rfl⟩) ?_
   refine Aw_q 4 rfl (by kernel_rfl) (by kernel_rfl) (by kernel_rfl) rfl rfl rfl (Qt_loadA (m := 3) (cs := (Desk.cells x201 v206 v207)) rfl rfl rfl rfl ⟨rfl, Rdc.blk (.tail _ (.head _)) rfl⟩) ?_
   refine Aw_q 5 rfl (by kernel_rfl) (by kernel_rfl) (by kernel_rfl) rfl rfl rfl (Qt_move rfl) ?_
   refine Aw_q 6 rfl (by kernel_rfl) (by kernel_rfl) (by kernel_rfl) rfl rfl rfl (Qt_loadA (m := 7) (cs := (Op.cells x225 v232 v233)) rfl rfl rfl rfl ⟨rfl, Rdc.blk (.head _) rfl⟩) ?_
   refine Aw_one 3 (by kernel_rfl) (Ax_mk rfl rfl ?_)
   have hs588 := (((hs210).mono hK223).mono hK235).mono hK543
   have hs589 := (((hs211).mono hK223).mono hK235).mono hK543
   have hs590 := (hs236).mono hK543
   have hs591 := (hs237).mono hK543
   refine OpW_call rfl Try.call18 rfl rfl (c_M_42z x201 v206 v207 x213 x225 v232 v233 x572 hx573 _ _ hs588 hs589 hs590 hs591) ?_
   rintro _ K592 _ hK593 ⟨rfl, rfl⟩
   refine ⟨(Inc.cons (.head _) (Inc.cons (.tail _ (.head _)) Inc.nil)), ?_⟩
   refine Aw_one 7 (by kernel_rfl) (Ax_mk rfl rfl ?_)
   have hs594 := (hs588).mono hK593
   have hs595 := (hs589).mono hK593
   have hs596 := (hs590).mono hK593
   have hs597 := (hs591).mono hK593
   refine OpW_call rfl Try.call19 rfl rfl (c_M_63z x201 v206 v207 x213 x225 v232 v233 x580 hx581 _ _ hs594 hs595 hs596 hs597) ?_
   rintro _ K598 _ hK599 ⟨rfl, rfl⟩
   refine ⟨(Inc.cons (.head _) (Inc.cons (.tail _ (.head _)) Inc.nil)), ?_⟩
   refine Aw_q 8 rfl (by kernel_rfl) (by kernel_rfl) (by kernel_rfl) rfl rfl rfl (Qt_cmp rfl rfl rfl) ?_
   refine Aw_q 9 rfl (by kernel_rfl) (by kernel_rfl) (by kernel_rfl) rfl rfl rfl (Qt_assign rfl) ?_
   refine Aw_done (by kernel_rfl) ?_
   refine Cw_ret ?_
   obtain ey0 := inj1 H
   subst y0
   refine ⟨(by first | exact .inl rfl | exact .inr rfl), [(.bool (dcd (x572 = x580)))], ⟨(.bool (dcd (x572 = x580))), _, rfl, rfl, rfl⟩, ?_⟩
   refine Shift.rem .here ?_
   refine Shift.rem .here ?_
   refine Shift.done ?_
   exact ⟨rfl, rfl⟩



end Go.Hx
