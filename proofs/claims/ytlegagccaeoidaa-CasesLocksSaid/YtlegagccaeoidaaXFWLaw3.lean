/- Printed by program. -/
import Derived.Test.YtlegagccaeoidaaXFM
import Derived.Test.YtlegagccaeoidaaXFWCases1
import Derived.Test.YtlegagccaeoidaaXFWCases2
import Derived.Test.YtlegagccaeoidaaXFWCases3
import Derived.Test.YtlegagccaeoidaaXFWRef2
namespace Go.Hx
open Go Go.Proofs
set_option linter.unusedSimpArgs false
set_option linter.unusedVariables false
set_option maxRecDepth 10000
set_option maxHeartbeats 1000000 in
theorem c_M_law3_awake  (y0 : Bool) (H : M_law3_awake = some y0) (K : Kp) (G : List Ent)  :
    Fc Try.prog 7 #[] K (G) (fun v K' G' => v = (.bool y0) ∧ G = G') := by
  refine Fc_body Try.func7 rfl Try.ntmps7 Try.results7 rfl ?_
  unfold M_law3_awake at H
  refine Cw_seq ?_
  refine Cw_region ?_
  refine Ow_q rfl rfl rfl (Qt_assign rfl) ?_
  refine Ow_nil ?_
  refine Cw_seq ?_
  refine Cw_region ?_
  have hR77 : RowR Ty.i64 K [[(.int .i64 0)], [(.int .i64 0)], [(.int .i64 0)], [(.int .i64 0)]] [0, 0, 0, 0] := RowR.cons rfl (RowR.cons rfl (RowR.cons rfl (RowR.cons rfl (RowR.nil))))
  refine Ow_cons rfl (O_lit (T := Ty.i64) (rows := [[(.int .i64 0)], [(.int .i64 0)], [(.int .i64 0)], [(.int .i64 0)]]) (l := [0, 0, 0, 0]) rfl rfl rfl hR77 rfl rfl rfl rfl rfl rfl rfl rfl (fun v76 => ?_))
  refine Ow.shift (Shift.settle (T := Ty.i64) .here hR77 rfl (fun K78 hK79 hs80 => Shift.done ?_))
  refine Ow_q rfl rfl rfl (Qt_build (cs := (Config.cells (Config.mk [0, 0, 0, 0] [] 0) v76 nilS)) rfl rfl rfl rfl rfl rfl) ?_
  refine Ow_cons rfl (OpW_alloc (cs := (Config.cells (Config.mk [] [] 0) nilS nilS)) rfl rfl rfl rfl (fun b81 => ?_))
  refine Ow_cons rfl (OpW_store (vs := (Config.cells (Config.mk [0, 0, 0, 0] [] 0) v76 nilS)) (all' := (Config.cells (Config.mk [0, 0, 0, 0] [] 0) v76 nilS)) rfl rfl rfl rfl rfl .here rfl rfl rfl ?_)
  refine Ow_nil ?_
  refine Cw_seq ?_
  refine Cw_region ?_
  refine Ow_q rfl rfl rfl (Qt_build (cs := (Case.cells (Case.mk false 3 0))) rfl rfl rfl rfl rfl rfl) ?_
  refine Ow_q rfl rfl rfl (Qt_build (cs := (Case.cells (Case.mk true 1 0))) rfl rfl rfl rfl rfl rfl) ?_
  refine Ow_q rfl rfl rfl (Qt_build (cs := (Case.cells (Case.mk false 3 0))) rfl rfl rfl rfl rfl rfl) ?_
  have hR83 : RowR TyCase K78 [(Case.cells (Case.mk false 3 0)), (Case.cells (Case.mk true 1 0)), (Case.cells (Case.mk false 3 0))] [(Case.mk false 3 0), (Case.mk true 1 0), (Case.mk false 3 0)] := RowR.cons rfl (RowR.cons rfl (RowR.cons rfl (RowR.nil)))
  refine Ow_cons rfl (O_lit (T := TyCase) (rows := [(Case.cells (Case.mk false 3 0)), (Case.cells (Case.mk true 1 0)), (Case.cells (Case.mk false 3 0))]) (l := [(Case.mk false 3 0), (Case.mk true 1 0), (Case.mk false 3 0)]) rfl rfl rfl hR83 rfl rfl rfl rfl rfl rfl rfl rfl (fun v82 => ?_))
  have hR85 : RowR Ty.i64 K78 [[(.int .i64 0)], [(.int .i64 0)], [(.int .i64 0)]] [0, 0, 0] := RowR.cons rfl (RowR.cons rfl (RowR.cons rfl (RowR.nil)))
  refine Ow_cons rfl (O_lit (T := Ty.i64) (rows := [[(.int .i64 0)], [(.int .i64 0)], [(.int .i64 0)]]) (l := [0, 0, 0]) rfl rfl rfl hR85 rfl rfl rfl rfl rfl rfl rfl rfl (fun v84 => ?_))
  refine Ow.shift (Shift.settle (T := TyCase) (.there .here) hR83 rfl (fun K86 hK87 hs88 => Shift.done ?_))
  have hs92 := (hR85).mono hK87
  refine Ow.shift (Shift.settle (T := Ty.i64) .here hs92 rfl (fun K89 hK90 hs91 => Shift.done ?_))
  refine Ow_q rfl rfl rfl (Qt_build (cs := (Op.cells (Op.mk 4 0 0 0 0 [(Case.mk false 3 0), (Case.mk true 1 0), (Case.mk false 3 0)] [0, 0, 0]) v82 v84)) rfl rfl rfl rfl rfl rfl) ?_
  refine Ow_cons rfl (OpW_alloc (cs := (Op.cells (Op.mk 0 0 0 0 0 [] []) nilS nilS)) rfl rfl rfl rfl (fun b93 => ?_))
  refine Ow_cons rfl (OpW_store (vs := (Op.cells (Op.mk 4 0 0 0 0 [(Case.mk false 3 0), (Case.mk true 1 0), (Case.mk false 3 0)] [0, 0, 0]) v82 v84)) (all' := (Op.cells (Op.mk 4 0 0 0 0 [(Case.mk false 3 0), (Case.mk true 1 0), (Case.mk false 3 0)] [0, 0, 0]) v82 v84)) rfl rfl rfl rfl rfl .here rfl rfl rfl ?_)
  refine Ow_nil ?_
  refine Cw_join (fun env' K' G' => ∃ (t148 : Bool), [(0, (.bool t148))] = env' ∧ G = G' ∧ M_law3_awake_J1 t148 = some y0) ?_ ?_
  · skip
    refine Cw_region ?_
    refine Ow_q rfl rfl rfl (Qt_loadA (m := 3) (cs := (Config.cells (Config.mk [0, 0, 0, 0] [] 0) v76 nilS)) rfl rfl rfl rfl ⟨rfl, Rdc.blk (.tail _ (.tail _ (.tail _ (.head _)))) rfl⟩) ?_
    refine Ow_q rfl rfl rfl (Qt_loadA (m := 7) (cs := (Op.cells (Op.mk 4 0 0 0 0 [(Case.mk false 3 0), (Case.mk true 1 0), (Case.mk false 3 0)] [0, 0, 0]) v82 v84)) rfl rfl rfl rfl ⟨rfl, Rdc.blk (.head _) rfl⟩) ?_
    obtain ⟨x149, hx150, H⟩ := bnd H
    have hs151 := ((hs80).mono hK87).mono hK90
    have hs152 := (hs88).mono hK90
    refine Ow_cons rfl (OpW_call rfl Try.call16 rfl rfl (c_M_cases_Locks (Config.mk [0, 0, 0, 0] [] 0) v76 nilS (Op.mk 4 0 0 0 0 [(Case.mk false 3 0), (Case.mk true 1 0), (Case.mk false 3 0)] [0, 0, 0]) v82 v84 x149 hx150 _ _ hs151 (Slr.nil Ty.u64 _) hs152 hs91) ?_)
    rintro _ K155 _ hK156 ⟨v153, rs154, rfl, rfl, hs157⟩
    have hR159 : RowR Ty.i64 K155 [[(.int .i64 1)], [(.int .i64 3)]] [1, 3] := RowR.cons rfl (RowR.cons rfl (RowR.nil))
    refine Ow_cons rfl (O_lit (T := Ty.i64) (rows := [[(.int .i64 1)], [(.int .i64 3)]]) (l := [1, 3]) rfl rfl rfl hR159 rfl rfl rfl rfl rfl rfl rfl rfl (fun v158 => ?_))
    refine Ow.shift (Shift.settle (T := Ty.i64) (.there .here) hs157 rfl (fun K160 hK161 hs162 => Shift.done ?_))
    have hs166 := (hR159).mono hK161
    refine Ow.shift (Shift.settle (T := Ty.i64) .here hs166 rfl (fun K163 hK164 hs165 => Shift.done ?_))
    obtain ⟨x167, hx168, H⟩ := bnd H
    have hs169 := (hs162).mono hK164
    refine Ow_cons rfl (OpW_call rfl Try.call17 rfl rfl (c_M_ref2_Same x149 v153 [1, 3] v158 x167 hx168 _ _ hs169 hs165) ?_)
    rintro _ K170 _ hK171 ⟨rfl, rfl⟩
    refine Ow_q rfl rfl rfl (Qt_move rfl) ?_
    refine Ow_caseG rfl rfl rfl ?_ ?_
    · intro h172
      have H := ift h172 H
      refine Ow_qw rfl rfl rfl rfl rfl rfl (Qt_loadA (m := 7) (cs := (Op.cells (Op.mk 4 0 0 0 0 [(Case.mk false 3 0), (Case.mk true 1 0), (Case.mk false 3 0)] [0, 0, 0]) v82 v84)) rfl rfl rfl rfl ⟨rfl, Rdc.blk (.tail _ (.tail _ (.head _))) rfl⟩) ?_
      obtain ⟨x173, hx174, H⟩ := bnd H
      have hs175 := ((((hs152).mono hK156).mono hK161).mono hK164).mono hK171
      have hs176 := ((((hs91).mono hK156).mono hK161).mono hK164).mono hK171
      refine Ow_want rfl rfl rfl rfl (OpW_call rfl Try.call12 rfl rfl (c_M_cases_Check (Op.mk 4 0 0 0 0 [(Case.mk false 3 0), (Case.mk true 1 0), (Case.mk false 3 0)] [0, 0, 0]) v82 v84 x173 hx174 _ _ hs175 hs176) ?_)
      rintro _ K177 _ hK178 ⟨rfl, rfl⟩
      refine Ow_qw rfl rfl rfl rfl rfl rfl (Qt_cmp rfl rfl rfl) ?_
      refine Ow_q rfl rfl rfl (Qt_pick_t rfl rfl) ?_
      refine Ow_q rfl rfl rfl (Qt_move rfl) ?_
      refine Ow_caseG rfl rfl rfl ?_ ?_
      · intro h179
        have h179 := dcd_t (h179)
        have H := ift h179 H
        refine Ow_qw rfl rfl rfl rfl rfl rfl (Qt_loadA (m := 7) (cs := (Op.cells (Op.mk 4 0 0 0 0 [(Case.mk false 3 0), (Case.mk true 1 0), (Case.mk false 3 0)] [0, 0, 0]) v82 v84)) rfl rfl rfl rfl ⟨rfl, Rdc.blk (.tail _ (.tail _ (.head _))) rfl⟩) ?_
        obtain ⟨x180, hx181, H⟩ := bnd H
        have hs182 := (hs175).mono hK178
        have hs183 := (hs176).mono hK178
        refine Ow_want rfl rfl rfl rfl (OpW_call rfl Try.call24 rfl rfl (c_M_cases_Order (Op.mk 4 0 0 0 0 [(Case.mk false 3 0), (Case.mk true 1 0), (Case.mk false 3 0)] [0, 0, 0]) v82 v84 x180 hx181 _ _ hs182 hs183) ?_)
        rintro _ K186 _ hK187 ⟨v184, rs185, rfl, rfl, hs188⟩
        have hR190 : RowR Ty.i64 K186 [[(.int .i64 1)], [(.int .i64 2)], [(.int .i64 0)]] [1, 2, 0] := RowR.cons rfl (RowR.cons rfl (RowR.cons rfl (RowR.nil)))
        refine Ow_want rfl rfl rfl rfl (O_lit (T := Ty.i64) (rows := [[(.int .i64 1)], [(.int .i64 2)], [(.int .i64 0)]]) (l := [1, 2, 0]) rfl rfl rfl hR190 rfl rfl rfl rfl rfl rfl rfl rfl (fun v189 => ?_))
        refine Ow.shift (Shift.settle (T := Ty.i64) (.there .here) hs188 rfl (fun K191 hK192 hs193 => Shift.done ?_))
        have hs197 := (hR190).mono hK192
        refine Ow.shift (Shift.settle (T := Ty.i64) .here hs197 rfl (fun K194 hK195 hs196 => Shift.done ?_))
        obtain ⟨x198, hx199, H⟩ := bnd H
        have hs200 := (hs193).mono hK195
        refine Ow_want rfl rfl rfl rfl (OpW_call rfl Try.call17 rfl rfl (c_M_ref2_Same x180 v184 [1, 2, 0] v189 x198 hx199 _ _ hs200 hs196) ?_)
        rintro _ K201 _ hK202 ⟨rfl, rfl⟩
        refine Ow_q rfl rfl rfl (Qt_pick_t rfl rfl) ?_
        refine Ow_q rfl rfl rfl (Qt_assign rfl) ?_
        refine Ow_nil ?_
        refine Shift.rem .here ?_
        refine Shift.rem .here ?_
        refine Shift.rem .here ?_
        refine Shift.rem .here ?_
        refine Shift.rem .here ?_
        refine Shift.rem .here ?_
        refine Shift.rem .here ?_
        refine Shift.rem .here ?_
        refine Shift.rem .here ?_
        refine Shift.done ?_
        exact ⟨[(0, (.bool x198))], ⟨rfl, trivial⟩, x198, rfl, rfl, H⟩
      · intro h179
        have h179 := dcd_f (h179)
        have H := iff_ h179 H
        refine Ow_pass rfl rfl rfl rfl rfl rfl rfl ?_
        refine Ow_pass rfl rfl rfl rfl rfl rfl rfl ?_
        refine Ow_pass rfl rfl rfl rfl rfl rfl rfl ?_
        refine Ow_pass rfl rfl rfl rfl rfl rfl rfl ?_
        refine Ow_q rfl rfl rfl (Qt_pick_f rfl rfl) ?_
        refine Ow_q rfl rfl rfl (Qt_assign rfl) ?_
        refine Ow_nil ?_
        refine Shift.rem .here ?_
        refine Shift.rem .here ?_
        refine Shift.rem .here ?_
        refine Shift.rem .here ?_
        refine Shift.rem .here ?_
        refine Shift.rem .here ?_
        refine Shift.rem .here ?_
        refine Shift.done ?_
        exact ⟨[(0, (.bool false))], ⟨rfl, trivial⟩, false, rfl, rfl, H⟩
    · intro h172
      have H := iff_ (btf h172) H
      refine Ow_pass rfl rfl rfl rfl rfl rfl rfl ?_
      refine Ow_pass rfl rfl rfl rfl rfl rfl rfl ?_
      refine Ow_pass rfl rfl rfl rfl rfl rfl rfl ?_
      refine Ow_q rfl rfl rfl (Qt_pick_f rfl rfl) ?_
      refine Ow_q rfl rfl rfl (Qt_move rfl) ?_
      refine Ow_pass rfl rfl rfl rfl rfl rfl rfl ?_
      refine Ow_pass rfl rfl rfl rfl rfl rfl rfl ?_
      refine Ow_pass rfl rfl rfl rfl rfl rfl rfl ?_
      refine Ow_pass rfl rfl rfl rfl rfl rfl rfl ?_
      refine Ow_q rfl rfl rfl (Qt_pick_f rfl rfl) ?_
      refine Ow_q rfl rfl rfl (Qt_assign rfl) ?_
      refine Ow_nil ?_
      refine Shift.rem .here ?_
      refine Shift.rem .here ?_
      refine Shift.rem .here ?_
      refine Shift.rem .here ?_
      refine Shift.rem .here ?_
      refine Shift.rem .here ?_
      refine Shift.rem .here ?_
      refine Shift.done ?_
      exact ⟨[(0, (.bool false))], ⟨rfl, trivial⟩, false, rfl, rfl, H⟩
  rintro _ K203 _ hK204 ⟨t148, rfl, rfl, H⟩
  unfold M_law3_awake_J1 at H
  refine Cw_ret ?_
  obtain ey0 := inj1 H
  subst y0
  refine ⟨(by first | exact .inl rfl | exact .inr rfl), [(.bool t148)], ⟨(.bool t148), _, rfl, rfl, rfl⟩, ?_⟩
  refine Shift.done ?_
  exact ⟨rfl, rfl⟩

set_option maxHeartbeats 1000000 in
theorem c_M_law3_big (p0 : Op) (vp0_cases : SV) (vp0_draws : SV) (y0 : Bool) (H : M_law3_big p0 = some y0) (K : Kp) (G : List Ent) (hp0_cases : Slr TyCase K (sv vp0_cases) p0.cases) (hp0_draws : Slr Ty.i64 K (sv vp0_draws) p0.draws) :
    Fc Try.prog 8 #[(.agg (Op.cells p0 vp0_cases vp0_draws).toArray)] K (G) (fun v K' G' => v = (.bool y0) ∧ K = K' ∧ G = G') := by
  refine Fc_body Try.func8 rfl Try.ntmps8 Try.results8 rfl ?_
  unfold M_law3_big at H
  refine Cw_seq ?_
  refine Cw_region ?_
  refine Ow_cons rfl (OpW_box (cs := (Op.cells p0 vp0_cases vp0_draws)) rfl rfl rfl (fun b3 => ?_))
  refine Ow_q rfl rfl rfl (Qt_assign rfl) ?_
  refine Ow_nil ?_
  refine Cw_seq ?_
  refine Cw_region ?_
  refine Ow_q rfl rfl rfl (Qt_fieldAddr (m := 5) rfl rfl rfl rfl rfl) ?_
  refine Ow_q rfl rfl rfl (Qt_load1 (v := (sv vp0_cases)) rfl rfl rfl (Rdc.blk (.head _) rfl)) ?_
  refine Ow_q rfl rfl rfl (Q_len (T := TyCase) hp0_cases rfl rfl) ?_
  refine Ow_q rfl rfl rfl (Qt_cmp rfl rfl rfl) ?_
  refine Ow_q rfl rfl rfl (Qt_move rfl) ?_
  refine Ow_caseG rfl rfl rfl ?_ ?_
  · intro h5
    have h5 := dcd_t (h5)
    have H := ift h5 H
    refine Ow_pass rfl rfl rfl rfl rfl rfl rfl ?_
    refine Ow_pass rfl rfl rfl rfl rfl rfl rfl ?_
    refine Ow_pass rfl rfl rfl rfl rfl rfl rfl ?_
    refine Ow_pass rfl rfl rfl rfl rfl rfl rfl ?_
    refine Ow_q rfl rfl rfl (Qt_pick_t rfl rfl) ?_
    refine Ow_q rfl rfl rfl (Qt_assign rfl) ?_
    refine Ow_nil ?_
    refine Cw_ret ?_
    obtain ey0 := inj1 H
    subst y0
    refine ⟨(by first | exact .inl rfl | exact .inr rfl), [(.bool true)], ⟨(.bool true), _, rfl, rfl, rfl⟩, ?_⟩
    refine Shift.rem .here ?_
    refine Shift.done ?_
    exact ⟨rfl, rfl, rfl⟩
  · intro h5
    have h5 := dcd_f (h5)
    have H := iff_ h5 H
    refine Ow_qw rfl rfl rfl rfl rfl rfl (Qt_fieldAddr (m := 6) rfl rfl rfl rfl rfl) ?_
    refine Ow_qw rfl rfl rfl rfl rfl rfl (Qt_load1 (v := (sv vp0_draws)) rfl rfl rfl (Rdc.blk (.head _) rfl)) ?_
    refine Ow_qw rfl rfl rfl rfl rfl rfl (Q_len (T := Ty.i64) hp0_draws rfl rfl) ?_
    refine Ow_qw rfl rfl rfl rfl rfl rfl (Qt_cmp rfl rfl rfl) ?_
    refine Ow_q rfl rfl rfl (Qt_pick_f rfl rfl) ?_
    refine Ow_q rfl rfl rfl (Qt_assign rfl) ?_
    refine Ow_nil ?_
    refine Cw_ret ?_
    obtain ey0 := inj1 H
    subst y0
    refine ⟨(by first | exact .inl rfl | exact .inr rfl), [(.bool (dcd ((p0.draws.length : Int) > 20)))], ⟨(.bool (dcd ((p0.draws.length : Int) > 20))), _, rfl, rfl, rfl⟩, ?_⟩
    refine Shift.rem .here ?_
    refine Shift.done ?_
    exact ⟨rfl, rfl, rfl⟩


end Go.Hx
