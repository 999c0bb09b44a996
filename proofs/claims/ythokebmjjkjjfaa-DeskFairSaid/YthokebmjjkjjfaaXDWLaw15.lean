/- Printed by program. -/
import Derived.Test.YthokebmjjkjjfaaXDM
import Derived.Test.YthokebmjjkjjfaaXDWDesk
import Derived.Test.YthokebmjjkjjfaaXDWDesk4
namespace Go.Hx
open Go Go.Proofs
set_option linter.unusedSimpArgs false
set_option linter.unusedVariables false
set_option maxRecDepth 10000
set_option maxHeartbeats 1000000 in
theorem c_M_94z  (y0 : Bool) (H : M_94z = some y0) (K : Kp) (G : List Ent)  :
  Fc Try.prog 9 #[] K (G) (fun v K' G' => v = (.bool y0) ∧ G = G') := by
 refine Fc_body Try.func9 rfl Try.ntmps9 Try.results9 rfl ?_
 unfold M_94z at H
 refine Cw_seq ?_
 refine Cw_region ?_
 refine Ow_q rfl rfl rfl (Qt_assign rfl) ?_
 refine Ow_nil ?_
 refine Cw_seq ?_
 refine Cw_region ?_
 have hR79 : RowR Ty.i64 K [[(.int .i64 0)]] [0] := RowR.cons rfl (RowR.nil)
 refine Ow_cons rfl (O_lit (T := Ty.i64) (rows := [[(.int .i64 0)]]) (l := [0]) rfl rfl rfl hR79 rfl rfl rfl rfl rfl rfl rfl rfl (fun v78 => ?_))
 have hR81 : RowR Ty.u64 K [[(.int .u64 0)]] [0] := RowR.cons rfl (RowR.nil)
 refine Ow_cons rfl (O_lit (T := Ty.u64) (rows := [[(.int .u64 0)]]) (l := [0]) rfl rfl rfl hR81 rfl rfl rfl rfl rfl rfl rfl rfl (fun v80 => ?_))
 refine Ow.shift (Shift.settle (T := Ty.i64) (.there .here) hR79 rfl (fun K82 hK83 hs84 => Shift.done ?_))
 have hs88 := (hR81).mono hK83
 refine Ow.shift (Shift.settle (T := Ty.u64) .here hs88 rfl (fun K85 hK86 hs87 => Shift.done ?_))
 refine Ow_q rfl rfl rfl (Qt_build (cs := (Config.cells (Config.mk [0] [0] 2) v78 v80)) rfl rfl rfl rfl rfl rfl) ?_
 obtain ⟨x89, hx90, H⟩ := bnd H
 have hs91 := (hs84).mono hK86
 refine Ow_cons rfl (OpW_call rfl Try.call27 rfl rfl (c_M_72z (Config.mk [0] [0] 2) v78 v80 x89 hx90 _ _ hs91 hs87) ?_)
 rintro _ K94 _ hK95 ⟨v92, v93, rfl, rfl, hs96, hs97⟩
 refine Ow_cons rfl (OpW_alloc (cs := (Desk.cells (Desk.mk [] [] 0) nilS nilS)) rfl rfl rfl rfl (fun b98 => ?_))
 refine Ow_cons rfl (OpW_store (vs := (Desk.cells x89 v92 v93)) (all' := (Desk.cells x89 v92 v93)) rfl rfl rfl rfl rfl .here rfl rfl rfl ?_)
 refine Ow_nil ?_
 refine Cw_seq ?_
 refine Cw_region ?_
 refine Ow_q rfl rfl rfl (Qt_loadA (m := 3) (cs := (Desk.cells x89 v92 v93)) rfl rfl rfl rfl ⟨rfl, Rdc.blk (.head _) rfl⟩) ?_
 refine Ow_q rfl rfl rfl (Qt_build (cs := (Op.cells (Op.mk 1 0 0 5 0 [] []) nilS nilS)) rfl rfl rfl rfl rfl rfl) ?_
 obtain ⟨x99, x100, x101, hx102, H⟩ := bnd3 H
 refine Ow_cons rfl (OpW_call rfl Try.call22 rfl rfl (c_M_desk_Do x89 v92 v93 0 (Op.mk 1 0 0 5 0 [] []) nilS nilS x99 x100 x101 hx102 _ _ hs96 hs97 (Slr.nil TyCase _) (Slr.nil Ty.i64 _)) ?_)
 rintro _ K109 _ hK110 ⟨v103, rs104, v105, rs106, v107, rs108, rfl, rfl, hs111, hs112, hs113⟩
 refine Ow_q rfl rfl rfl (Qt_move rfl) ?_
 refine Ow_q rfl rfl rfl (Qt_extract rfl rfl) ?_
 refine Ow_q rfl rfl rfl (Qt_extract rfl rfl) ?_
 refine Ow_q rfl rfl rfl (Qt_extract rfl rfl) ?_
 refine Ow_cons rfl (OpW_store (vs := (Desk.cells x99 v103 v105)) (all' := (Desk.cells x99 v103 v105)) rfl rfl rfl rfl rfl (.there (.there (.there .here))) rfl rfl rfl ?_)
 refine Ow_q rfl rfl rfl (Qt_assign rfl) ?_
 refine Ow_q rfl rfl rfl (Qt_assign rfl) ?_
 refine Ow_nil ?_
 refine Cw_seq ?_
 refine Cw_region ?_
 refine Ow_q rfl rfl rfl (Qt_loadA (m := 3) (cs := (Desk.cells x99 v103 v105)) rfl rfl rfl rfl ⟨rfl, Rdc.blk (.tail _ (.tail _ (.tail _ (.head _)))) rfl⟩) ?_
 refine Ow_q rfl rfl rfl (Qt_build (cs := (Op.cells (Op.mk 2 0 0 0 0 [] []) nilS nilS)) rfl rfl rfl rfl rfl rfl) ?_
 refine Ow.shift (Shift.settle (T := TyChan) .here hs111 rfl (fun K114 hK115 hs116 => Shift.done ?_))
 have hs120 := (hs112).mono hK115
 refine Ow.shift (Shift.settle (T := TyWaiter) (.there .here) hs120 rfl (fun K117 hK118 hs119 => Shift.done ?_))
 obtain ⟨x121, x122, x123, hx124, H⟩ := bnd3 H
 have hs125 := (hs116).mono hK118
 refine Ow_cons rfl (OpW_call rfl Try.call22 rfl rfl (c_M_desk_Do x99 v103 v105 1 (Op.mk 2 0 0 0 0 [] []) nilS nilS x121 x122 x123 hx124 _ _ hs125 hs119 (Slr.nil TyCase _) (Slr.nil Ty.i64 _)) ?_)
 rintro _ K132 _ hK133 ⟨v126, rs127, v128, rs129, v130, rs131, rfl, rfl, hs134, hs135, hs136⟩
 refine Ow_q rfl rfl rfl (Qt_move rfl) ?_
 refine Ow_q rfl rfl rfl (Qt_extract rfl rfl) ?_
 refine Ow_q rfl rfl rfl (Qt_extract rfl rfl) ?_
 refine Ow_q rfl rfl rfl (Qt_extract rfl rfl) ?_
 refine Ow_cons rfl (OpW_alloc (cs := (Desk.cells (Desk.mk [] [] 0) nilS nilS)) rfl rfl rfl rfl (fun b137 => ?_))
 refine Ow_cons rfl (OpW_store (vs := (Desk.cells x121 v126 v128)) (all' := (Desk.cells x121 v126 v128)) rfl rfl rfl rfl rfl .here rfl rfl rfl ?_)
 refine Ow_q rfl rfl rfl (Qt_assign rfl) ?_
 refine Ow_q rfl rfl rfl (Qt_assign rfl) ?_
 refine Ow_nil ?_
 refine Cw_join (fun env' K' G' => ∃ (t154 : Bool), [(0, (.bool t154))] = env' ∧ K132 = K' ∧ G = G' ∧ M_8z t154 = some y0) ?_ ?_
 ·skip
  refine Cw_region ?_
  refine Ow_q rfl rfl rfl (Qt_move rfl) ?_
  refine Ow_q rfl rfl rfl (Qt_move rfl) ?_
  refine Ow_caseG rfl rfl rfl ?_ ?_
  ·intro h155
   have H := ift h155 H
   refine Ow_qw rfl rfl rfl rfl rfl rfl (Qt_move rfl) ?_
   have hs156 := (((hs113).mono hK115).mono hK118).mono hK133
   refine Ow_qw rfl rfl rfl rfl rfl rfl (Q_lenR (T := TyDone) (.tail _ (.tail _ (.tail _ (.tail _ (.tail _ (.tail _ (.head _))))))) hs156 rfl rfl rfl) ?_
   refine Ow_qw rfl rfl rfl rfl rfl rfl (Qt_cmp rfl rfl rfl) ?_
   refine Ow_q rfl rfl rfl (Qt_pick_t rfl rfl) ?_
   refine Ow_q rfl rfl rfl (Qt_move rfl) ?_
   refine Ow_caseG rfl rfl rfl ?_ ?_
   ·intro h157
    have h157 := dcd_t (h157)
    have H := ift h157 H
    refine Ow_qw rfl rfl rfl rfl rfl rfl (Qt_move rfl) ?_
    refine Ow_qw rfl rfl rfl rfl rfl rfl (Qt_not rfl) ?_
    refine Ow_q rfl rfl rfl (Qt_pick_t rfl rfl) ?_
    refine Ow_q rfl rfl rfl (Qt_move rfl) ?_
    refine Ow_caseG rfl rfl rfl ?_ ?_
    ·intro h158
     have h158 := nt_t (h158)
     have H := iff_ (btf h158) H
     refine Ow_qw rfl rfl rfl rfl rfl rfl (Qt_move rfl) ?_
     refine Ow_qw rfl rfl rfl rfl rfl rfl (Q_lenR (T := TyDone) (.tail _ (.tail _ (.tail _ (.head _)))) hs136 rfl rfl rfl) ?_
     refine Ow_qw rfl rfl rfl rfl rfl rfl (Qt_cmp rfl rfl rfl) ?_
     refine Ow_q rfl rfl rfl (Qt_pick_t rfl rfl) ?_
     refine Ow_q rfl rfl rfl (Qt_move rfl) ?_
     refine Ow_caseG rfl rfl rfl ?_ ?_
     ·intro h159
      have h159 := dcd_t (h159)
      have H := ift h159 H
      refine Ow_qw rfl rfl rfl rfl rfl rfl (Qt_move rfl) ?_
      obtain ⟨x160, hx161, H⟩ := bnd H
      obtain ⟨r162, hq163, hr164⟩ := RowR.at hs136 hx161
      obtain rfl := hr164
      refine Ow_qw rfl rfl rfl rfl rfl rfl (Q_ixR (T := TyDone) (.tail _ (.tail _ (.tail _ (.head _)))) hs136 hq163 (getI_ix hx161).1 rfl rfl rfl rfl rfl) ?_
      refine Ow_qw rfl rfl rfl rfl rfl rfl (Qt_fieldAddr (m := 1) rfl rfl rfl rfl rfl) ?_
      refine Ow_qw rfl rfl rfl rfl rfl rfl (Qt_fieldAddr (m := 1) rfl rfl rfl rfl rfl) ?_
      refine Ow_qw rfl rfl rfl rfl rfl rfl (Qt_load1 (v := (.int .i64 x160.result.kind)) rfl rfl rfl (Rd_row (T := TyDone) (.tail _ (.tail _ (.tail _ (.head _)))) hs136 hq163 rfl rfl)) ?_
      refine Ow_qw rfl rfl rfl rfl rfl rfl (Qt_cmp rfl rfl rfl) ?_
      refine Ow_q rfl rfl rfl (Qt_pick_t rfl rfl) ?_
      refine Ow_q rfl rfl rfl (Qt_move rfl) ?_
      refine Ow_caseG rfl rfl rfl ?_ ?_
      ·intro h165
       have h165 := dcd_t (h165)
       have H := ift h165 H
       refine Ow_qw rfl rfl rfl rfl rfl rfl (Qt_move rfl) ?_
       obtain ⟨x166, hx167, H⟩ := bnd H
       obtain ⟨r168, hq169, hr170⟩ := RowR.at hs136 hx167
       obtain rfl := hr170
       refine Ow_qw rfl rfl rfl rfl rfl rfl (Q_ixR (T := TyDone) (.tail _ (.tail _ (.tail _ (.head _)))) hs136 hq169 (getI_ix hx167).1 rfl rfl rfl rfl rfl) ?_
       refine Ow_qw rfl rfl rfl rfl rfl rfl (Qt_fieldAddr (m := 1) rfl rfl rfl rfl rfl) ?_
       refine Ow_qw rfl rfl rfl rfl rfl rfl (Qt_fieldAddr (m := 3) rfl rfl rfl rfl rfl) ?_
       refine Ow_qw rfl rfl rfl rfl rfl rfl (Qt_load1 (v := (.int .u64 x166.result.value)) rfl rfl rfl (Rd_row (T := TyDone) (.tail _ (.tail _ (.tail _ (.head _)))) hs136 hq169 rfl rfl)) ?_
       refine Ow_qw rfl rfl rfl rfl rfl rfl (Qt_cmp rfl rfl rfl) ?_
       refine Ow_q rfl rfl rfl (Qt_pick_t rfl rfl) ?_
       refine Ow_q rfl rfl rfl (Qt_assign rfl) ?_
       refine Ow_nil ?_
       refine Shift.rem .here ?_
       refine Shift.rem .here ?_
       refine Shift.rem .here ?_
       refine Shift.rem .here ?_
       refine Shift.rem .here ?_
       refine Shift.rem .here ?_
       refine Shift.rem .here ?_
       refine Shift.rem .here ?_
       refine Shift.rem .here ?_
       refine Shift.rem .here ?_
       refine Shift.rem .here ?_
       refine Shift.done ?_
       exact ⟨[(0, (.bool (dcd (x166.result.value = 5))))], ⟨rfl, trivial⟩, (dcd (x166.result.value = 5)), rfl, rfl, rfl, H⟩
      ·intro h165
       have h165 := dcd_f (h165)
       have H := iff_ h165 H
       refine Ow_pass rfl rfl rfl rfl rfl rfl rfl ?_
       refine Ow_pass rfl rfl rfl rfl rfl rfl rfl ?_
       refine Ow_pass rfl rfl rfl rfl rfl rfl rfl ?_
       refine Ow_pass rfl rfl rfl rfl rfl rfl rfl ?_
       refine Ow_pass rfl rfl rfl rfl rfl rfl rfl ?_
       refine Ow_pass rfl rfl rfl rfl rfl rfl rfl ?_
       refine Ow_q rfl rfl rfl (Qt_pick_f rfl rfl) ?_
       refine Ow_q rfl rfl rfl (Qt_assign rfl) ?_
       refine Ow_nil ?_
       refine Shift.rem .here ?_
       refine Shift.rem .here ?_
       refine Shift.rem .here ?_
       refine Shift.rem .here ?_
       refine Shift.rem .here ?_
       refine Shift.rem .here ?_
       refine Shift.rem .here ?_
       refine Shift.rem .here ?_
       refine Shift.rem .here ?_
       refine Shift.rem .here ?_
       refine Shift.rem .here ?_
       refine Shift.done ?_
       exact ⟨[(0, (.bool false))], ⟨rfl, trivial⟩, false, rfl, rfl, rfl, H⟩
     ·intro h159
      have h159 := dcd_f (h159)
      have H := iff_ h159 H
      refine Ow_pass rfl rfl rfl rfl rfl rfl rfl ?_
      refine Ow_pass rfl rfl rfl rfl rfl rfl rfl ?_
      refine Ow_pass rfl rfl rfl rfl rfl rfl rfl ?_
      refine Ow_pass rfl rfl rfl rfl rfl rfl rfl ?_
      refine Ow_pass rfl rfl rfl rfl rfl rfl rfl ?_
      refine Ow_pass rfl rfl rfl rfl rfl rfl rfl ?_
      refine Ow_q rfl rfl rfl (Qt_pick_f rfl rfl) ?_
      refine Ow_q rfl rfl rfl (Qt_move rfl) ?_
      refine Ow_pass rfl rfl rfl rfl rfl rfl rfl ?_
      refine Ow_pass rfl rfl rfl rfl rfl rfl rfl ?_
      refine Ow_pass rfl rfl rfl rfl rfl rfl rfl ?_
      refine Ow_pass rfl rfl rfl rfl rfl rfl rfl ?_
      refine Ow_pass rfl rfl rfl rfl rfl rfl rfl ?_
      refine Ow_pass rfl rfl rfl rfl rfl rfl rfl ?_
      refine Ow_q rfl rfl rfl (Qt_pick_f rfl rfl) ?_
      refine Ow_q rfl rfl rfl (Qt_assign rfl) ?_
      refine Ow_nil ?_
      refine Shift.rem .here ?_
      refine Shift.rem .here ?_
      refine Shift.rem .here ?_
      refine Shift.rem .here ?_
      refine Shift.rem .here ?_
      refine Shift.rem .here ?_
      refine Shift.rem .here ?_
      refine Shift.rem .here ?_
      refine Shift.rem .here ?_
      refine Shift.rem .here ?_
      refine Shift.rem .here ?_
      refine Shift.done ?_
      exact ⟨[(0, (.bool false))], ⟨rfl, trivial⟩, false, rfl, rfl, rfl, H⟩
    ·intro h158
     have h158 := nt_f (h158)
     have H := ift h158 H
     refine Ow_pass rfl rfl rfl rfl rfl rfl rfl ?_
     refine Ow_pass rfl rfl rfl rfl rfl rfl rfl ?_
     refine Ow_pass rfl rfl rfl rfl rfl rfl rfl ?_
     refine Ow_q rfl rfl rfl (Qt_pick_f rfl rfl) ?_
     refine Ow_q rfl rfl rfl (Qt_move rfl) ?_
     refine Ow_pass rfl rfl rfl rfl rfl rfl rfl ?_
     refine Ow_pass rfl rfl rfl rfl rfl rfl rfl ?_
     refine Ow_pass rfl rfl rfl rfl rfl rfl rfl ?_
     refine Ow_pass rfl rfl rfl rfl rfl rfl rfl ?_
     refine Ow_pass rfl rfl rfl rfl rfl rfl rfl ?_
     refine Ow_pass rfl rfl rfl rfl rfl rfl rfl ?_
     refine Ow_q rfl rfl rfl (Qt_pick_f rfl rfl) ?_
     refine Ow_q rfl rfl rfl (Qt_move rfl) ?_
     refine Ow_pass rfl rfl rfl rfl rfl rfl rfl ?_
     refine Ow_pass rfl rfl rfl rfl rfl rfl rfl ?_
     refine Ow_pass rfl rfl rfl rfl rfl rfl rfl ?_
     refine Ow_pass rfl rfl rfl rfl rfl rfl rfl ?_
     refine Ow_pass rfl rfl rfl rfl rfl rfl rfl ?_
     refine Ow_pass rfl rfl rfl rfl rfl rfl rfl ?_
     refine Ow_q rfl rfl rfl (Qt_pick_f rfl rfl) ?_
     refine Ow_q rfl rfl rfl (Qt_assign rfl) ?_
     refine Ow_nil ?_
     refine Shift.rem .here ?_
     refine Shift.rem .here ?_
     refine Shift.rem .here ?_
     refine Shift.rem .here ?_
     refine Shift.rem .here ?_
     refine Shift.rem .here ?_
     refine Shift.rem .here ?_
     refine Shift.rem .here ?_
     refine Shift.rem .here ?_
     refine Shift.rem .here ?_
     refine Shift.rem .here ?_
     refine Shift.done ?_
     exact ⟨[(0, (.bool false))], ⟨rfl, trivial⟩, false, rfl, rfl, rfl, H⟩
   ·intro h157
    have h157 := dcd_f (h157)
    have H := iff_ h157 H
    refine Ow_pass rfl rfl rfl rfl rfl rfl rfl ?_
    refine Ow_pass rfl rfl rfl rfl rfl rfl rfl ?_
    refine Ow_q rfl rfl rfl (Qt_pick_f rfl rfl) ?_
    refine Ow_q rfl rfl rfl (Qt_move rfl) ?_
    refine Ow_pass rfl rfl rfl rfl rfl rfl rfl ?_
    refine Ow_pass rfl rfl rfl rfl rfl rfl rfl ?_
    refine Ow_pass rfl rfl rfl rfl rfl rfl rfl ?_
    refine Ow_q rfl rfl rfl (Qt_pick_f rfl rfl) ?_
    refine Ow_q rfl rfl rfl (Qt_move rfl) ?_
    refine Ow_pass rfl rfl rfl rfl rfl rfl rfl ?_
    refine Ow_pass rfl rfl rfl rfl rfl rfl rfl ?_
    refine Ow_pass rfl rfl rfl rfl rfl rfl rfl ?_
    refine Ow_pass rfl rfl rfl rfl rfl rfl rfl ?_
    refine Ow_pass rfl rfl rfl rfl rfl rfl rfl ?_
    refine Ow_pass rfl rfl rfl rfl rfl rfl rfl ?_
    refine Ow_q rfl rfl rfl (Qt_pick_f rfl rfl) ?_
    refine Ow_q rfl rfl rfl (Qt_move rfl) ?_
    refine Ow_pass rfl rfl rfl rfl rfl rfl rfl ?_
    refine Ow_pass rfl rfl rfl rfl rfl rfl rfl ?_
    refine Ow_pass rfl rfl rfl rfl rfl rfl rfl ?_
    refine Ow_pass rfl rfl rfl rfl rfl rfl rfl ?_
    refine Ow_pass rfl rfl rfl rfl rfl rfl rfl ?_
    refine Ow_pass rfl rfl rfl rfl rfl rfl rfl ?_
    refine Ow_q rfl rfl rfl (Qt_pick_f rfl rfl) ?_
    refine Ow_q rfl rfl rfl (Qt_assign rfl) ?_
    refine Ow_nil ?_
    refine Shift.rem .here ?_
    refine Shift.rem .here ?_
    refine Shift.rem .here ?_
    refine Shift.rem .here ?_
    refine Shift.rem .here ?_
    refine Shift.rem .here ?_
    refine Shift.rem .here ?_
    refine Shift.rem .here ?_
    refine Shift.rem .here ?_
    refine Shift.rem .here ?_
    refine Shift.rem .here ?_
    refine Shift.done ?_
    exact ⟨[(0, (.bool false))], ⟨rfl, trivial⟩, false, rfl, rfl, rfl, H⟩
  ·intro h155
   have H := iff_ (btf h155) H
   refine Ow_pass rfl rfl rfl rfl rfl rfl rfl ?_
   refine Ow_pass rfl rfl rfl rfl rfl rfl rfl ?_
   refine Ow_pass rfl rfl rfl rfl rfl rfl rfl ?_
   refine Ow_q rfl rfl rfl (Qt_pick_f rfl rfl) ?_
   refine Ow_q rfl rfl rfl (Qt_move rfl) ?_
   refine Ow_pass rfl rfl rfl rfl rfl rfl rfl ?_
   refine Ow_pass rfl rfl rfl rfl rfl rfl rfl ?_
   refine Ow_q rfl rfl rfl (Qt_pick_f rfl rfl) ?_
   refine Ow_q rfl rfl rfl (Qt_move rfl) ?_
   refine Ow_pass rfl rfl rfl rfl rfl rfl rfl ?_
   refine Ow_pass rfl rfl rfl rfl rfl rfl rfl ?_
   refine Ow_pass rfl rfl rfl rfl rfl rfl rfl ?_
   refine Ow_q rfl rfl rfl (Qt_pick_f rfl rfl) ?_
   refine Ow_q rfl rfl rfl (Qt_move rfl) ?_
   refine Ow_pass rfl rfl rfl rfl rfl rfl rfl ?_
   refine Ow_pass rfl rfl rfl rfl rfl rfl rfl ?_
   refine Ow_pass rfl rfl rfl rfl rfl rfl rfl ?_
   refine Ow_pass rfl rfl rfl rfl rfl rfl rfl ?_
   refine Ow_pass rfl rfl rfl rfl rfl rfl rfl ?_
   refine Ow_pass rfl rfl rfl rfl rfl rfl rfl ?_
   refine Ow_q rfl rfl rfl (Qt_pick_f rfl rfl) ?_
   refine Ow_q rfl rfl rfl (Qt_move rfl) ?_
   refine Ow_pass rfl rfl rfl rfl rfl rfl rfl ?_
   refine Ow_pass rfl rfl rfl rfl rfl rfl rfl ?_
   refine Ow_pass rfl rfl rfl rfl rfl rfl rfl ?_
   refine Ow_pass rfl rfl rfl rfl rfl rfl rfl ?_
   refine Ow_pass rfl rfl rfl rfl rfl rfl rfl ?_
   refine Ow_pass rfl rfl rfl rfl rfl rfl rfl ?_
   refine Ow_q rfl rfl rfl (Qt_pick_f rfl rfl) ?_
   refine Ow_q rfl rfl rfl (Qt_assign rfl) ?_
   refine Ow_nil ?_
   refine Shift.rem .here ?_
   refine Shift.rem .here ?_
   refine Shift.rem .here ?_
   refine Shift.rem .here ?_
   refine Shift.rem .here ?_
   refine Shift.rem .here ?_
   refine Shift.rem .here ?_
   refine Shift.rem .here ?_
   refine Shift.rem .here ?_
   refine Shift.rem .here ?_
   refine Shift.rem .here ?_
   refine Shift.done ?_
   exact ⟨[(0, (.bool false))], ⟨rfl, trivial⟩, false, rfl, rfl, rfl, H⟩
 rintro _ _ _ - ⟨t154, rfl, rfl, rfl, H⟩
 unfold M_8z at H
 refine Cw_ret ?_
 obtain ey0 := inj1 H
 subst y0
 refine ⟨(by first | exact .inl rfl | exact .inr rfl), [(.bool t154)], ⟨(.bool t154), _, rfl, rfl, rfl⟩, ?_⟩
 refine Shift.done ?_
 exact ⟨rfl, rfl⟩

set_option maxHeartbeats 1000000 in
theorem c_M_31z (p0 : Desk) (vp0_chans : SV) (vp0_waiting : SV) (p1 : Int) (y0 : Bool) (H : M_31z p0 p1 = some y0) (K : Kp) (G : List Ent) (hp0_chans : Slr TyChan K (sv vp0_chans) p0.chans) (hp0_waiting : Slr TyWaiter K (sv vp0_waiting) p0.waiting) :
  Fc Try.prog 14 #[(.agg (Desk.cells p0 vp0_chans vp0_waiting).toArray), (.int .i64 p1)] K (G) (fun v K' G' => v = (.bool y0) ∧ G = G') := by
 refine Fc_body Try.func14 rfl Try.ntmps14 Try.results14 rfl ?_
 unfold M_31z at H
 refine Cw_seq ?_
 refine Cw_region ?_
 refine Ow_cons rfl (OpW_box (cs := (Desk.cells p0 vp0_chans vp0_waiting)) rfl rfl rfl (fun b34 => ?_))
 refine Ow_q rfl rfl rfl (Qt_assign rfl) ?_
 refine Ow_nil ?_
 refine Cw_join (fun env' K' G' => [] = env' ∧ G = G' ∧ M_156z = some y0) ?_ ?_
 ·skip
  refine Cw_seq ?_
  refine Cw_region ?_
  refine Ow_q rfl rfl rfl (Qt_fieldAddr (m := 1) rfl rfl rfl rfl rfl) ?_
  refine Ow_q rfl rfl rfl (Qt_load1 (v := (sv vp0_waiting)) rfl rfl rfl (Rdc.blk (.head _) rfl)) ?_
  refine Ow_q rfl rfl rfl (Q_len (T := TyWaiter) hp0_waiting rfl rfl) ?_
  refine Ow_q rfl rfl rfl (Qt_move rfl) ?_
  refine Ow_nil ?_
  refine Cw_block ?_
  refine Cw_loopM (fun n95 env' K' G' => ∃ (i94 : Int), [(1, (.int .i64 p1)), (2, (.pointer (some ((⟨b34, 0, none⟩ : Addr).add 0)))), (8, (.int .i64 (p0.waiting.length : Int))), (9, (.int .i64 i94))] = env' ∧ K = K' ∧ (.blk b34 34 (Desk.cells p0 vp0_chans vp0_waiting)) :: G = G' ∧ lp1 (M_105z p1 p0) n95 i94 = some y0) BIG ?_ ?_
  ·skip
   refine Shift.done ?_
   exact ⟨[(1, (.int .i64 p1)), (2, (.pointer (some ((⟨b34, 0, none⟩ : Addr).add 0)))), (8, (.int .i64 (p0.waiting.length : Int))), (9, (.int .i64 0))], ⟨rfl, rfl, rfl, rfl, trivial⟩, 0, rfl, rfl, rfl, H⟩
  rintro n95 _ _ _ - ⟨i94, rfl, rfl, rfl, H⟩
  obtain ⟨m96, k97, rfl, hkk98, H⟩ := lps1 H
  unfold M_105z at H
  refine Cw_seq ?_
  refine Cw_region ?_
  refine Ow_q rfl rfl rfl (Qt_cmp rfl rfl rfl) ?_
  refine Ow_nil ?_
  refine Cw_seq ?_
  refine Cw_cond rfl ?_ ?_
  ·intro h100
   have h100 := dcd_t (h100)
   have H := ift h100 H
   refine Cw_skip ?_
   refine Cw_seq ?_
   refine Cw_block ?_
   refine Cw_seq ?_
   refine Cw_region ?_
   refine Ow_q rfl rfl rfl (Qt_move rfl) ?_
   refine Ow_q rfl rfl rfl (Qt_assign rfl) ?_
   refine Ow_nil ?_
   refine Cw_seq ?_
   refine Cw_region ?_
   refine Ow_q rfl rfl rfl (Qt_fieldAddr (m := 1) rfl rfl rfl rfl rfl) ?_
   refine Ow_q rfl rfl rfl (Qt_load1 (v := (sv vp0_waiting)) rfl rfl rfl (Rdc.blk (.head _) rfl)) ?_
   refine Ow_q rfl rfl rfl (Qt_move rfl) ?_
   obtain ⟨x111, hx112, H⟩ := bnd H
   obtain ⟨r113, hr114, hk115⟩ := Slr.at hp0_waiting hx112
   obtain ⟨v116, v117, rfl, hs118, hs119⟩ := hr114
   refine Ow_q rfl rfl rfl (Q_ix (T := TyWaiter) hp0_waiting hx112 rfl rfl rfl rfl rfl) ?_
   refine Ow_q rfl rfl rfl (Qt_fieldAddr (m := 0) rfl rfl rfl rfl rfl) ?_
   refine Ow_q rfl rfl rfl (Qt_load1 (v := (.int .i64 x111.thread)) rfl rfl rfl (Rdc.k hk115 rfl)) ?_
   refine Ow_q rfl rfl rfl (Qt_move rfl) ?_
   refine Ow_q rfl rfl rfl (Qt_cmp rfl rfl rfl) ?_
   refine Ow_nil ?_
   refine Cw_cond rfl ?_ ?_
   ·intro h120
    have h120 := dcd_t (h120)
    have H := ift h120 H
    refine Cw_seq ?_
    refine Cw_region ?_
    refine Ow_q rfl rfl rfl (Qt_assign rfl) ?_
    refine Ow_nil ?_
    refine Cw_ret ?_
    obtain ey0 := inj1 H
    subst y0
    refine ⟨(by first | exact .inl rfl | exact .inr rfl), [(.bool true)], ⟨(.bool true), _, rfl, rfl, rfl⟩, ?_⟩
    refine Shift.rem .here ?_
    refine Shift.done ?_
    exact ⟨rfl, rfl⟩
   ·intro h120
    have h120 := dcd_f (h120)
    have H := iff_ h120 H
    refine Cw_skip ?_
    refine Cw_region ?_
    refine Ow_q rfl rfl rfl (Qt_arith (e := wI (i94 + 1)) rfl rfl rfl rfl) ?_
    refine Ow_q rfl rfl rfl (Qt_move rfl) ?_
    refine Ow_nil ?_
    refine Shift.done ?_
    exact ⟨[(1, (.int .i64 p1)), (2, (.pointer (some ((⟨b34, 0, none⟩ : Addr).add 0)))), (8, (.int .i64 (p0.waiting.length : Int))), (9, (.int .i64 (wI (i94 + 1))))], ⟨rfl, rfl, rfl, rfl, trivial⟩, _, Nat.lt_succ_self _, (wI (i94 + 1)), rfl, rfl, rfl, (hkk98 ▸ H)⟩
  ·intro h100
   have h100 := dcd_f (h100)
   have H := iff_ h100 H
   refine Cw_exit ?_
   refine Shift.rem .here ?_
   refine Shift.done ?_
   exact ⟨[], trivial, rfl, rfl, H⟩
 rintro _ K121 _ hK122 ⟨rfl, rfl, H⟩
 unfold M_156z at H
 refine Cw_seq ?_
 refine Cw_region ?_
 refine Ow_q rfl rfl rfl (Qt_assign rfl) ?_
 refine Ow_nil ?_
 refine Cw_ret ?_
 obtain ey0 := inj1 H
 subst y0
 refine ⟨(by first | exact .inl rfl | exact .inr rfl), [(.bool false)], ⟨(.bool false), _, rfl, rfl, rfl⟩, ?_⟩
 refine Shift.done ?_
 exact ⟨rfl, rfl⟩



end Go.Hx
