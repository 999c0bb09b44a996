/- Printed by program. -/
import Derived.Test.YtgpoanmjkggijaaXCM
import Derived.Test.YtgpoanmjkggijaaXCWDraw
import Derived.Test.YtgpoanmjkggijaaXCWDraw1
import Derived.Test.YtgpoanmjkggijaaXCWLaw14
import Derived.Test.YtgpoanmjkggijaaXCWLaw141
import Derived.Test.YtgpoanmjkggijaaXCWModel3
import Derived.Test.YtgpoanmjkggijaaXCWRef142
namespace Go.Hx
open Go Go.Proofs
set_option linter.unusedSimpArgs false
set_option linter.unusedVariables false
set_option maxRecDepth 10000
set_option maxHeartbeats 1000000 in
theorem c_M_law14_ModelPairs (p0 : List Int) (vp0 : SV) (p1 : Result) (p2 : Result) (y0 : Bool) (H : M_law14_ModelPairs p0 p1 p2 = some y0) (K : Kp) (G : List Ent) (hp0 : Slr Ty.u8 K (sv vp0) p0) :
    Fc Try.prog 4 #[(sv vp0), (.agg (Result.cells p1).toArray), (.agg (Result.cells p2).toArray)] K (G) (fun v K' G' => v = (.bool y0) ∧ G = G') := by
  refine Fc_body Try.func4 rfl Try.ntmps4 Try.results4 rfl ?_
  unfold M_law14_ModelPairs at H
  refine Cw_seq ?_
  refine Cw_region ?_
  refine Ow_cons rfl (OpW_box (cs := (Result.cells p1)) rfl rfl rfl (fun b878 => ?_))
  refine Ow_cons rfl (OpW_box (cs := (Result.cells p2)) rfl rfl rfl (fun b879 => ?_))
  refine Ow_q rfl rfl rfl (Qt_assign rfl) ?_
  refine Ow_nil ?_
  refine Cw_seq ?_
  refine Cw_seq ?_
  refine Cw_region ?_
  obtain ⟨x885, hx886, H⟩ := bnd H
  refine Ow_cons rfl (OpW_call rfl Try.call13 rfl rfl (c_M_law14_awake  x885 hx886 _ _ ) ?_)
  rintro _ K887 _ hK888 ⟨rfl, rfl⟩
  refine Ow_q rfl rfl rfl (Qt_not rfl) ?_
  refine Ow_nil ?_
  refine Cw_cond rfl ?_ ?_
  · intro h889
    have h889 := nt_t (h889)
    have H := iff_ (btf h889) H
    refine Cw_seq ?_
    refine Cw_region ?_
    refine Ow_q rfl rfl rfl (Qt_assign rfl) ?_
    refine Ow_nil ?_
    refine Cw_ret ?_
    obtain ey0 := inj1 H
    subst y0
    refine ⟨(by first | exact .inl rfl | exact .inr rfl), [(.bool false)], ⟨(.bool false), _, rfl, rfl, rfl⟩, ?_⟩
    refine Shift.rem .here ?_
    refine Shift.rem .here ?_
    refine Shift.done ?_
    exact ⟨rfl, rfl⟩
  · intro h889
    have h889 := nt_f (h889)
    have H := ift h889 H
    refine Cw_skip ?_
    refine Cw_seq ?_
    refine Cw_region ?_
    refine Ow_q rfl rfl rfl (Qt_move rfl) ?_
    obtain ⟨x890, hx891, H⟩ := bnd H
    have hs892 := (hp0).mono hK888
    refine Ow_cons rfl (OpW_call rfl Try.call14 rfl rfl (c_M_draw_New p0 vp0 200 x890 hx891 _ _ hs892) ?_)
    rintro _ _ _ - ⟨b893, v894, rfl, rfl, rfl, hs895⟩
    refine Ow_q rfl rfl rfl (Qt_assign rfl) ?_
    refine Ow_nil ?_
    refine Cw_seq ?_
    refine Cw_region ?_
    refine Ow_q rfl rfl rfl (Qt_move rfl) ?_
    obtain ⟨x896, x897, x898, hx899, H⟩ := bnd3 H
    refine Ow_cons rfl (OpW_call rfl Try.call15 rfl rfl (c_M_law14_chans b893 x890 v894 x896 x897 x898 hx899 _ _ hs895) ?_)
    rintro _ K902 _ hK903 ⟨v900, rs901, rfl, rfl, hs904⟩
    refine Ow_q rfl rfl rfl (Qt_assign rfl) ?_
    refine Ow_nil ?_
    refine Cw_seq ?_
    refine Cw_region ?_
    refine Ow_q rfl rfl rfl (Qt_move rfl) ?_
    refine Ow.shift (Shift.settle (T := TyChan) (.there .here) hs904 rfl (fun K905 hK906 hs907 => Shift.done ?_))
    obtain ⟨x908, hx909, H⟩ := bnd H
    refine Ow_cons rfl (OpW_call rfl Try.call16 rfl rfl (c_M_law14_config x896 v900 x908 hx909 _ _ hs907) ?_)
    rintro _ K912 _ hK913 ⟨v910, v911, rfl, rfl, hs914, hs915⟩
    refine Ow_cons rfl (OpW_alloc (cs := (Config.cells (Config.mk [] [] 0) nilS nilS)) rfl rfl rfl rfl (fun b916 => ?_))
    refine Ow_cons rfl (OpW_store (vs := (Config.cells x908 v910 v911)) (all' := (Config.cells x908 v910 v911)) rfl rfl rfl rfl rfl .here rfl rfl rfl ?_)
    refine Ow_nil ?_
    refine Cw_join (fun env' K' G' => [] = env' ∧ G = G' ∧ M_law14_ModelPairs_J1 = some y0) ?_ ?_
    · skip
      refine Cw_seq ?_
      refine Cw_region ?_
      refine Ow_q rfl rfl rfl (Qt_assign rfl) ?_
      refine Ow_nil ?_
      refine Cw_block ?_
      refine Cw_loopM (fun n2631 env' K' G' => ∃ (i2628 : Int) (i2629 : Int) (i2630 : Int), [(4, (.pointer (some ((⟨b878, 0, none⟩ : Addr).add 0)))), (5, (.pointer (some ((⟨b879, 0, none⟩ : Addr).add 0)))), (7, (.pointer (some ((⟨b893, 0, none⟩ : Addr).add 0)))), (8, (sv v900)), (9, (.pointer (some ((⟨b916, 0, none⟩ : Addr).add 0)))), (10, (.int .i64 i2628))] = env' ∧ (.blk b916 34 (Config.cells x908 v910 v911)) :: (.blk b893 85 (Draw_Codes.cells (Draw_Codes.mk x890.list i2629 i2630) v894)) :: (.blk b879 25 (Result.cells p2)) :: (.blk b878 25 (Result.cells p1)) :: (.tok 3 1 [(sv v910)]) :: (.tok 23 1 [(sv v911)]) :: (.tok 83 3 [(sv v900)]) :: G = G' ∧ lp3 (M_law14_ModelPairs_L1 x896 x908 x890 p2 p1) n2631 i2628 i2629 i2630 = some y0) BIG ?_ ?_
      · skip
        refine Shift.pull (.there (.there (.there (.there .here)))) ?_
        refine Shift.pull (.there (.there (.there .here))) ?_
        refine Shift.pull (.there (.there (.there .here))) ?_
        refine Shift.pull (.there (.there (.there (.there (.there (.there (.there .here))))))) ?_
        refine Shift.pull (.there (.there (.there (.there (.there (.there (.there .here))))))) ?_
        refine Shift.pull (.there (.there (.there (.there (.there (.there .here)))))) ?_
        refine Shift.pull (.there (.there (.there (.there (.there (.there .here)))))) ?_
        refine Shift.rem (.there (.there (.there (.there (.there (.there (.there .here))))))) ?_
        refine Shift.done ?_
        exact ⟨[(4, (.pointer (some ((⟨b878, 0, none⟩ : Addr).add 0)))), (5, (.pointer (some ((⟨b879, 0, none⟩ : Addr).add 0)))), (7, (.pointer (some ((⟨b893, 0, none⟩ : Addr).add 0)))), (8, (sv v900)), (9, (.pointer (some ((⟨b916, 0, none⟩ : Addr).add 0)))), (10, (.int .i64 0))], ⟨rfl, rfl, rfl, rfl, rfl, rfl, trivial⟩, 0, x897, x898, rfl, rfl, H⟩
      rintro n2631 _ K2632 _ hK2633 ⟨i2628, i2629, i2630, rfl, rfl, H⟩
      obtain ⟨m2634, k2635, rfl, hkk2636, H⟩ := lps3 H
      unfold M_law14_ModelPairs_L1 at H
      refine Cw_seq ?_
      refine Cw_seq ?_
      refine Cw_region ?_
      refine Ow_q rfl rfl rfl (Qt_move rfl) ?_
      refine Ow_q rfl rfl rfl (Qt_cmp rfl rfl rfl) ?_
      refine Ow_nil ?_
      refine Cw_cond rfl ?_ ?_
      · intro h2638
        have h2638 := dcd_t (h2638)
        have H := ift h2638 H
        refine Cw_skip ?_
        refine Cw_join (fun env' K' G' => ∃ (i3058 : Int) (i3059 : Int), [(4, (.pointer (some ((⟨b878, 0, none⟩ : Addr).add 0)))), (5, (.pointer (some ((⟨b879, 0, none⟩ : Addr).add 0)))), (7, (.pointer (some ((⟨b893, 0, none⟩ : Addr).add 0)))), (8, (sv v900)), (9, (.pointer (some ((⟨b916, 0, none⟩ : Addr).add 0)))), (10, (.int .i64 i2628))] = env' ∧ (.blk b916 34 (Config.cells x908 v910 v911)) :: (.blk b893 85 (Draw_Codes.cells (Draw_Codes.mk x890.list i3058 i3059) v894)) :: (.blk b879 25 (Result.cells p2)) :: (.blk b878 25 (Result.cells p1)) :: (.tok 3 1 [(sv v910)]) :: (.tok 23 1 [(sv v911)]) :: (.tok 83 3 [(sv v900)]) :: G = G' ∧ M_law14_ModelPairs_J2 x896 i2628 x908 x890 p2 p1 k2635 i3058 i3059 = some y0) ?_ ?_
        · skip
          refine Cw_block ?_
          refine Cw_join (fun env' K' G' => ∃ (b3250 : Nat) (b3251 : Nat) (i3252 : Int) (i3253 : Int) (i3254 : Int) (i3255 : Int) (i3256 : Int) (v3257 : SV) (l3258 : List Case) (v3260 : SV) (l3261 : List Int) (i3263 : Int) (i3264 : Int) (i3265 : Int) (i3266 : Int) (i3267 : Int) (v3268 : SV) (l3269 : List Case) (v3271 : SV) (l3272 : List Int) (i3274 : Int) (i3275 : Int), [(4, (.pointer (some ((⟨b878, 0, none⟩ : Addr).add 0)))), (5, (.pointer (some ((⟨b879, 0, none⟩ : Addr).add 0)))), (7, (.pointer (some ((⟨b893, 0, none⟩ : Addr).add 0)))), (8, (sv v900)), (9, (.pointer (some ((⟨b916, 0, none⟩ : Addr).add 0)))), (10, (.int .i64 i2628)), (11, (.pointer (some ((⟨b3250, 0, none⟩ : Addr).add 0)))), (12, (.pointer (some ((⟨b3251, 0, none⟩ : Addr).add 0))))] = env' ∧ (.blk b3251 38 (Op.cells (Op.mk i3252 i3253 i3254 i3255 i3256 l3258 l3261) v3257 v3260)) :: (.blk b3250 38 (Op.cells (Op.mk i3263 i3264 i3265 i3266 i3267 l3269 l3272) v3268 v3271)) :: (.blk b916 34 (Config.cells x908 v910 v911)) :: (.blk b893 85 (Draw_Codes.cells (Draw_Codes.mk x890.list i3274 i3275) v894)) :: (.blk b879 25 (Result.cells p2)) :: (.blk b878 25 (Result.cells p1)) :: (.tok 3 1 [(sv v910)]) :: (.tok 23 1 [(sv v911)]) :: (.tok 83 3 [(sv v900)]) :: G = G' ∧ M_law14_ModelPairs_J3 x896 i2628 x908 x890 p2 p1 k2635 i3252 i3253 i3254 i3255 i3256 l3258 l3261 i3263 i3264 i3265 i3266 i3267 l3269 l3272 i3274 i3275 = some y0 ∧ Slr TyCase K' (sv v3257) l3258 ∧ Slr Ty.i64 K' (sv v3260) l3261 ∧ Slr TyCase K' (sv v3268) l3269 ∧ Slr Ty.i64 K' (sv v3271) l3272) ?_ ?_
          · skip
            obtain ⟨x3276, x3277, x3278, hx3279, H⟩ := bnd3 H
            obtain ⟨x3289, x3290, x3291, hx3292, H⟩ := bnd3 H
            refine Cw_region_any [.blk b916 34 (Config.cells x908 v910 v911), .blk b879 25 (Result.cells p2), .blk b878 25 (Result.cells p1), .tok 3 1 [(sv v910)], .tok 23 1 [(sv v911)], .tok 83 3 [(sv v900)]] rfl (Inc.cons (.head _) (Inc.cons (.tail _ (.tail _ (.head _))) (Inc.cons (.tail _ (.tail _ (.tail _ (.head _)))) (Inc.cons (.tail _ (.tail _ (.tail _ (.tail _ (.head _))))) (Inc.cons (.tail _ (.tail _ (.tail _ (.tail _ (.tail _ (.head _)))))) (Inc.cons (.tail _ (.tail _ (.tail _ (.tail _ (.tail _ (.tail _ (.head _))))))) Inc.nil)))))) ?_
            refine Aw_q 0 rfl (by kernel_rfl) (by kernel_rfl) (by kernel_rfl) rfl rfl rfl (Qt_move rfl) ?_
            refine Aw_q 1 rfl (by kernel_rfl) (by kernel_rfl) (by kernel_rfl) rfl rfl rfl (Qt_loadA (m := 3) (cs := (Config.cells x908 v910 v911)) rfl rfl rfl rfl ⟨rfl, Rdc.blk (.head _) rfl⟩) ?_
            refine Aw_q 3 rfl (by kernel_rfl) (by kernel_rfl) (by kernel_rfl) rfl rfl rfl (Qt_move rfl) ?_
            refine Aw_q 4 rfl (by kernel_rfl) (by kernel_rfl) (by kernel_rfl) rfl rfl rfl (Qt_loadA (m := 3) (cs := (Config.cells x908 v910 v911)) rfl rfl rfl rfl ⟨rfl, Rdc.blk (.head _) rfl⟩) ?_
            refine Aw_three 2 6 7 (by kernel_rfl) ?_ ?_ ?_
            · skip
              refine id (Ax_mk rfl rfl ?_)
              refine OpW.shift (Shift.pull (.there .here) (Shift.done ?_))
              have hs3304 := ((((hs895).mono hK903).mono hK906).mono hK913).mono hK2633
              have hs3305 := (hs914).mono hK2633
              have hs3306 := (hs915).mono hK2633
              refine OpW_call rfl Try.call17 rfl rfl (c_M_draw_Codes_Op b893 (Draw_Codes.mk x890.list i2629 i2630) v894 x908 v910 v911 x3276 x3277 x3278 hx3279 _ _ hs3304 hs3305 hs3306) ?_
              rintro _ K3309 _ hK3310 ⟨v3307, v3308, rfl, rfl, hs3311, hs3312⟩
              refine ⟨(Inc.cons (.tail _ (.head _)) (Inc.cons (.tail _ (.tail _ (.head _))) (Inc.cons (.tail _ (.tail _ (.tail _ (.head _)))) (Inc.cons (.tail _ (.tail _ (.tail _ (.tail _ (.head _))))) (Inc.cons (.tail _ (.tail _ (.tail _ (.tail _ (.tail _ (.head _)))))) (Inc.cons (.tail _ (.tail _ (.tail _ (.tail _ (.tail _ (.tail _ (.head _))))))) Inc.nil)))))), ?_⟩
              refine Aw_three 5 6 7 (by kernel_rfl) ?_ ?_ ?_
              · skip
                refine id (Ax_mk rfl rfl ?_)
                have hs3313 := (hs3304).mono hK3310
                have hs3314 := (hs3305).mono hK3310
                have hs3315 := (hs3306).mono hK3310
                refine OpW_call rfl Try.call17 rfl rfl (c_M_draw_Codes_Op b893 (Draw_Codes.mk x890.list x3277 x3278) v894 x908 v910 v911 x3289 x3290 x3291 hx3292 _ _ hs3313 hs3314 hs3315) ?_
                rintro _ K3318 _ hK3319 ⟨v3316, v3317, rfl, rfl, hs3320, hs3321⟩
                refine ⟨(Inc.cons (.tail _ (.head _)) (Inc.cons (.tail _ (.tail _ (.head _))) (Inc.cons (.tail _ (.tail _ (.tail _ (.head _)))) (Inc.cons (.tail _ (.tail _ (.tail _ (.tail _ (.head _))))) (Inc.cons (.tail _ (.tail _ (.tail _ (.tail _ (.tail _ (.head _)))))) (Inc.cons (.tail _ (.tail _ (.tail _ (.tail _ (.tail _ (.tail _ (.head _))))))) Inc.nil)))))), ?_⟩
                refine Aw_two 6 7 (by kernel_rfl) ?_ ?_
                · skip
                  refine id (Ax_mk rfl rfl ?_)
                  refine OpW_alloc (cs := (Op.cells (Op.mk 0 0 0 0 0 [] []) nilS nilS)) rfl rfl rfl rfl (fun b3322 => ⟨(Inc.cons (.tail _ (.tail _ (.head _))) (Inc.cons (.tail _ (.tail _ (.tail _ (.head _)))) (Inc.cons (.tail _ (.tail _ (.tail _ (.tail _ (.head _))))) (Inc.cons (.tail _ (.tail _ (.tail _ (.tail _ (.tail _ (.head _)))))) (Inc.cons (.tail _ (.tail _ (.tail _ (.tail _ (.tail _ (.tail _ (.head _))))))) (Inc.cons (.tail _ (.tail _ (.tail _ (.tail _ (.tail _ (.tail _ (.tail _ (.head _)))))))) Inc.nil)))))), ?_⟩)
                  refine Aw_one 7 (by kernel_rfl) (Ax_mk rfl rfl ?_)
                  refine OpW_alloc (cs := (Op.cells (Op.mk 0 0 0 0 0 [] []) nilS nilS)) rfl rfl rfl rfl (fun b3323 => ⟨(Inc.cons (.tail _ (.tail _ (.tail _ (.head _)))) (Inc.cons (.tail _ (.tail _ (.tail _ (.tail _ (.head _))))) (Inc.cons (.tail _ (.tail _ (.tail _ (.tail _ (.tail _ (.head _)))))) (Inc.cons (.tail _ (.tail _ (.tail _ (.tail _ (.tail _ (.tail _ (.head _))))))) (Inc.cons (.tail _ (.tail _ (.tail _ (.tail _ (.tail _ (.tail _ (.tail _ (.head _)))))))) (Inc.cons (.tail _ (.tail _ (.tail _ (.tail _ (.tail _ (.tail _ (.tail _ (.tail _ (.head _))))))))) Inc.nil)))))), ?_⟩)
                  refine Aw_one 8 (by kernel_rfl) (Ax_mk rfl rfl ?_)
                  refine OpW_store (vs := (Op.cells x3276 v3307 v3308)) (all' := (Op.cells x3276 v3307 v3308)) rfl rfl rfl rfl rfl (.there .here) rfl rfl rfl ⟨(Inc.cons (.tail _ (.tail _ (.tail _ (.head _)))) (Inc.cons (.tail _ (.tail _ (.tail _ (.tail _ (.head _))))) (Inc.cons (.tail _ (.tail _ (.tail _ (.tail _ (.tail _ (.head _)))))) (Inc.cons (.tail _ (.tail _ (.tail _ (.tail _ (.tail _ (.tail _ (.head _))))))) (Inc.cons (.tail _ (.tail _ (.tail _ (.tail _ (.tail _ (.tail _ (.tail _ (.head _)))))))) (Inc.cons (.tail _ (.tail _ (.tail _ (.tail _ (.tail _ (.tail _ (.tail _ (.tail _ (.head _))))))))) Inc.nil)))))), ?_⟩
                  refine Aw_one 9 (by kernel_rfl) (Ax_mk rfl rfl ?_)
                  refine OpW_store (vs := (Op.cells x3289 v3316 v3317)) (all' := (Op.cells x3289 v3316 v3317)) rfl rfl rfl rfl rfl .here rfl rfl rfl ⟨(Inc.cons (.tail _ (.tail _ (.tail _ (.head _)))) (Inc.cons (.tail _ (.tail _ (.tail _ (.tail _ (.head _))))) (Inc.cons (.tail _ (.tail _ (.tail _ (.tail _ (.tail _ (.head _)))))) (Inc.cons (.tail _ (.tail _ (.tail _ (.tail _ (.tail _ (.tail _ (.head _))))))) (Inc.cons (.tail _ (.tail _ (.tail _ (.tail _ (.tail _ (.tail _ (.tail _ (.head _)))))))) (Inc.cons (.tail _ (.tail _ (.tail _ (.tail _ (.tail _ (.tail _ (.tail _ (.tail _ (.head _))))))))) Inc.nil)))))), ?_⟩
                  refine Aw_done (by kernel_rfl) ?_
                  refine Shift.pull (.there (.there (.there (.there (.there (.there (.there (.there .here)))))))) ?_
                  refine Shift.pull (.there (.there (.there (.there (.there (.there (.there (.there .here)))))))) ?_
                  refine Shift.pull (.there (.there (.there (.there (.there (.there (.there (.there .here)))))))) ?_
                  refine Shift.pull (.there (.there (.there (.there (.there (.there (.there (.there .here)))))))) ?_
                  refine Shift.pull (.there (.there (.there (.there (.there (.there (.there (.there .here)))))))) ?_
                  refine Shift.pull (.there (.there (.there (.there (.there (.there (.there .here))))))) ?_
                  refine Shift.pull (.there (.there (.there (.there (.there (.there (.there (.there .here)))))))) ?_
                  refine Shift.pull (.there (.there (.there (.there (.there (.there (.there (.there .here)))))))) ?_
                  refine Shift.pull (.there (.there (.there (.there (.there (.there (.there (.there .here)))))))) ?_
                  have hs3324 := (hs3311).mono hK3319
                  have hs3325 := (hs3312).mono hK3319
                  refine Shift.done ?_
                  exact ⟨[(4, (.pointer (some ((⟨b878, 0, none⟩ : Addr).add 0)))), (5, (.pointer (some ((⟨b879, 0, none⟩ : Addr).add 0)))), (7, (.pointer (some ((⟨b893, 0, none⟩ : Addr).add 0)))), (8, (sv v900)), (9, (.pointer (some ((⟨b916, 0, none⟩ : Addr).add 0)))), (10, (.int .i64 i2628)), (11, (.pointer (some ((⟨b3322, 0, none⟩ : Addr).add 0)))), (12, (.pointer (some ((⟨b3323, 0, none⟩ : Addr).add 0))))], ⟨rfl, rfl, rfl, rfl, rfl, rfl, rfl, rfl, trivial⟩, b3322, b3323, x3289.kind, x3289.mode, x3289.channel, x3289.value, x3289.deadline, v3316, x3289.cases, v3317, x3289.draws, x3276.kind, x3276.mode, x3276.channel, x3276.value, x3276.deadline, v3307, x3276.cases, v3308, x3276.draws, x3290, x3291, rfl, rfl, H, hs3320, hs3321, hs3324, hs3325⟩
                · skip
                  refine id (Ax_mk rfl rfl ?_)
                  refine OpW_alloc (cs := (Op.cells (Op.mk 0 0 0 0 0 [] []) nilS nilS)) rfl rfl rfl rfl (fun b3326 => ⟨(Inc.cons (.tail _ (.tail _ (.head _))) (Inc.cons (.tail _ (.tail _ (.tail _ (.head _)))) (Inc.cons (.tail _ (.tail _ (.tail _ (.tail _ (.head _))))) (Inc.cons (.tail _ (.tail _ (.tail _ (.tail _ (.tail _ (.head _)))))) (Inc.cons (.tail _ (.tail _ (.tail _ (.tail _ (.tail _ (.tail _ (.head _))))))) (Inc.cons (.tail _ (.tail _ (.tail _ (.tail _ (.tail _ (.tail _ (.tail _ (.head _)))))))) Inc.nil)))))), ?_⟩)
                  refine Aw_one 6 (by kernel_rfl) (Ax_mk rfl rfl ?_)
                  refine OpW_alloc (cs := (Op.cells (Op.mk 0 0 0 0 0 [] []) nilS nilS)) rfl rfl rfl rfl (fun b3327 => ⟨(Inc.cons (.tail _ (.tail _ (.tail _ (.head _)))) (Inc.cons (.tail _ (.tail _ (.tail _ (.tail _ (.head _))))) (Inc.cons (.tail _ (.tail _ (.tail _ (.tail _ (.tail _ (.head _)))))) (Inc.cons (.tail _ (.tail _ (.tail _ (.tail _ (.tail _ (.tail _ (.head _))))))) (Inc.cons (.tail _ (.tail _ (.tail _ (.tail _ (.tail _ (.tail _ (.tail _ (.head _)))))))) (Inc.cons (.tail _ (.tail _ (.tail _ (.tail _ (.tail _ (.tail _ (.tail _ (.tail _ (.head _))))))))) Inc.nil)))))), ?_⟩)
                  refine Aw_one 8 (by kernel_rfl) (Ax_mk rfl rfl ?_)
                  refine OpW_store (vs := (Op.cells x3276 v3307 v3308)) (all' := (Op.cells x3276 v3307 v3308)) rfl rfl rfl rfl rfl .here rfl rfl rfl ⟨(Inc.cons (.tail _ (.tail _ (.tail _ (.head _)))) (Inc.cons (.tail _ (.tail _ (.tail _ (.tail _ (.head _))))) (Inc.cons (.tail _ (.tail _ (.tail _ (.tail _ (.tail _ (.head _)))))) (Inc.cons (.tail _ (.tail _ (.tail _ (.tail _ (.tail _ (.tail _ (.head _))))))) (Inc.cons (.tail _ (.tail _ (.tail _ (.tail _ (.tail _ (.tail _ (.tail _ (.head _)))))))) (Inc.cons (.tail _ (.tail _ (.tail _ (.tail _ (.tail _ (.tail _ (.tail _ (.tail _ (.head _))))))))) Inc.nil)))))), ?_⟩
                  refine Aw_one 9 (by kernel_rfl) (Ax_mk rfl rfl ?_)
                  refine OpW_store (vs := (Op.cells x3289 v3316 v3317)) (all' := (Op.cells x3289 v3316 v3317)) rfl rfl rfl rfl rfl (.there .here) rfl rfl rfl ⟨(Inc.cons (.tail _ (.tail _ (.tail _ (.head _)))) (Inc.cons (.tail _ (.tail _ (.tail _ (.tail _ (.head _))))) (Inc.cons (.tail _ (.tail _ (.tail _ (.tail _ (.tail _ (.head _)))))) (Inc.cons (.tail _ (.tail _ (.tail _ (.tail _ (.tail _ (.tail _ (.head _))))))) (Inc.cons (.tail _ (.tail _ (.tail _ (.tail _ (.tail _ (.tail _ (.tail _ (.head _)))))))) (Inc.cons (.tail _ (.tail _ (.tail _ (.tail _ (.tail _ (.tail _ (.tail _ (.tail _ (.head _))))))))) Inc.nil)))))), ?_⟩
                  refine Aw_done (by kernel_rfl) ?_
                  refine Shift.pull (.there (.there (.there (.there (.there (.there (.there (.there .here)))))))) ?_
                  refine Shift.pull (.there (.there (.there (.there (.there (.there (.there (.there .here)))))))) ?_
                  refine Shift.pull (.there (.there (.there (.there (.there (.there (.there (.there .here)))))))) ?_
                  refine Shift.pull (.there (.there (.there (.there (.there (.there (.there (.there .here)))))))) ?_
                  refine Shift.pull (.there (.there (.there (.there (.there (.there (.there (.there .here)))))))) ?_
                  refine Shift.pull (.there (.there (.there (.there (.there (.there (.there .here))))))) ?_
                  refine Shift.pull (.there (.there (.there (.there (.there (.there (.there (.there .here)))))))) ?_
                  refine Shift.pull (.there (.there (.there (.there (.there (.there (.there .here))))))) ?_
                  refine Shift.pull (.there (.there (.there (.there (.there (.there (.there (.there .here)))))))) ?_
                  have hs3328 := (hs3311).mono hK3319
                  have hs3329 := (hs3312).mono hK3319
                  refine Shift.done ?_
                  exact ⟨[(4, (.pointer (some ((⟨b878, 0, none⟩ : Addr).add 0)))), (5, (.pointer (some ((⟨b879, 0, none⟩ : Addr).add 0)))), (7, (.pointer (some ((⟨b893, 0, none⟩ : Addr).add 0)))), (8, (sv v900)), (9, (.pointer (some ((⟨b916, 0, none⟩ : Addr).add 0)))), (10, (.int .i64 i2628)), (11, (.pointer (some ((⟨b3327, 0, none⟩ : Addr).add 0)))), (12, (.pointer (some ((⟨b3326, 0, none⟩ : Addr).add 0))))], ⟨rfl, rfl, rfl, rfl, rfl, rfl, rfl, rfl, trivial⟩, b3327, b3326, x3289.kind, x3289.mode, x3289.channel, x3289.value, x3289.deadline, v3316, x3289.cases, v3317, x3289.draws, x3276.kind, x3276.mode, x3276.channel, x3276.value, x3276.deadline, v3307, x3276.cases, v3308, x3276.draws, x3290, x3291, rfl, rfl, H, hs3320, hs3321, hs3328, hs3329⟩
              · skip
                refine id (Ax_mk rfl rfl ?_)
                refine OpW_alloc (cs := (Op.cells (Op.mk 0 0 0 0 0 [] []) nilS nilS)) rfl rfl rfl rfl (fun b3330 => ⟨(Inc.cons (.tail _ (.tail _ (.head _))) (Inc.cons (.tail _ (.tail _ (.tail _ (.head _)))) (Inc.cons (.tail _ (.tail _ (.tail _ (.tail _ (.head _))))) (Inc.cons (.tail _ (.tail _ (.tail _ (.tail _ (.tail _ (.head _)))))) (Inc.cons (.tail _ (.tail _ (.tail _ (.tail _ (.tail _ (.tail _ (.head _))))))) (Inc.cons (.tail _ (.tail _ (.tail _ (.tail _ (.tail _ (.tail _ (.tail _ (.head _)))))))) Inc.nil)))))), ?_⟩)
                refine Aw_two 5 7 (by kernel_rfl) ?_ ?_
                · skip
                  refine id (Ax_mk rfl rfl ?_)
                  refine OpW.shift (Shift.pull (.there .here) (Shift.done ?_))
                  have hs3331 := (hs3304).mono hK3310
                  have hs3332 := (hs3305).mono hK3310
                  have hs3333 := (hs3306).mono hK3310
                  refine OpW_call rfl Try.call17 rfl rfl (c_M_draw_Codes_Op b893 (Draw_Codes.mk x890.list x3277 x3278) v894 x908 v910 v911 x3289 x3290 x3291 hx3292 _ _ hs3331 hs3332 hs3333) ?_
                  rintro _ K3336 _ hK3337 ⟨v3334, v3335, rfl, rfl, hs3338, hs3339⟩
                  refine ⟨(Inc.cons (.tail _ (.tail _ (.head _))) (Inc.cons (.tail _ (.tail _ (.tail _ (.head _)))) (Inc.cons (.tail _ (.tail _ (.tail _ (.tail _ (.head _))))) (Inc.cons (.tail _ (.tail _ (.tail _ (.tail _ (.tail _ (.head _)))))) (Inc.cons (.tail _ (.tail _ (.tail _ (.tail _ (.tail _ (.tail _ (.head _))))))) (Inc.cons (.tail _ (.tail _ (.tail _ (.tail _ (.tail _ (.tail _ (.tail _ (.head _)))))))) Inc.nil)))))), ?_⟩
                  refine Aw_one 7 (by kernel_rfl) (Ax_mk rfl rfl ?_)
                  refine OpW_alloc (cs := (Op.cells (Op.mk 0 0 0 0 0 [] []) nilS nilS)) rfl rfl rfl rfl (fun b3340 => ⟨(Inc.cons (.tail _ (.tail _ (.tail _ (.head _)))) (Inc.cons (.tail _ (.tail _ (.tail _ (.tail _ (.head _))))) (Inc.cons (.tail _ (.tail _ (.tail _ (.tail _ (.tail _ (.head _)))))) (Inc.cons (.tail _ (.tail _ (.tail _ (.tail _ (.tail _ (.tail _ (.head _))))))) (Inc.cons (.tail _ (.tail _ (.tail _ (.tail _ (.tail _ (.tail _ (.tail _ (.head _)))))))) (Inc.cons (.tail _ (.tail _ (.tail _ (.tail _ (.tail _ (.tail _ (.tail _ (.tail _ (.head _))))))))) Inc.nil)))))), ?_⟩)
                  refine Aw_one 8 (by kernel_rfl) (Ax_mk rfl rfl ?_)
                  refine OpW_store (vs := (Op.cells x3276 v3307 v3308)) (all' := (Op.cells x3276 v3307 v3308)) rfl rfl rfl rfl rfl (.there (.there .here)) rfl rfl rfl ⟨(Inc.cons (.tail _ (.tail _ (.tail _ (.head _)))) (Inc.cons (.tail _ (.tail _ (.tail _ (.tail _ (.head _))))) (Inc.cons (.tail _ (.tail _ (.tail _ (.tail _ (.tail _ (.head _)))))) (Inc.cons (.tail _ (.tail _ (.tail _ (.tail _ (.tail _ (.tail _ (.head _))))))) (Inc.cons (.tail _ (.tail _ (.tail _ (.tail _ (.tail _ (.tail _ (.tail _ (.head _)))))))) (Inc.cons (.tail _ (.tail _ (.tail _ (.tail _ (.tail _ (.tail _ (.tail _ (.tail _ (.head _))))))))) Inc.nil)))))), ?_⟩
                  refine Aw_one 9 (by kernel_rfl) (Ax_mk rfl rfl ?_)
                  refine OpW_store (vs := (Op.cells x3289 v3334 v3335)) (all' := (Op.cells x3289 v3334 v3335)) rfl rfl rfl rfl rfl .here rfl rfl rfl ⟨(Inc.cons (.tail _ (.tail _ (.tail _ (.head _)))) (Inc.cons (.tail _ (.tail _ (.tail _ (.tail _ (.head _))))) (Inc.cons (.tail _ (.tail _ (.tail _ (.tail _ (.tail _ (.head _)))))) (Inc.cons (.tail _ (.tail _ (.tail _ (.tail _ (.tail _ (.tail _ (.head _))))))) (Inc.cons (.tail _ (.tail _ (.tail _ (.tail _ (.tail _ (.tail _ (.tail _ (.head _)))))))) (Inc.cons (.tail _ (.tail _ (.tail _ (.tail _ (.tail _ (.tail _ (.tail _ (.tail _ (.head _))))))))) Inc.nil)))))), ?_⟩
                  refine Aw_done (by kernel_rfl) ?_
                  refine Shift.pull (.there (.there (.there (.there (.there (.there (.there (.there .here)))))))) ?_
                  refine Shift.pull (.there (.there (.there (.there (.there (.there (.there (.there .here)))))))) ?_
                  refine Shift.pull (.there (.there (.there (.there (.there (.there (.there (.there .here)))))))) ?_
                  refine Shift.pull (.there (.there (.there (.there (.there (.there (.there (.there .here)))))))) ?_
                  refine Shift.pull (.there (.there (.there (.there (.there (.there (.there (.there .here)))))))) ?_
                  refine Shift.pull (.there (.there (.there (.there (.there (.there .here)))))) ?_
                  refine Shift.pull (.there (.there (.there (.there (.there (.there (.there (.there .here)))))))) ?_
                  refine Shift.pull (.there (.there (.there (.there (.there (.there (.there (.there .here)))))))) ?_
                  refine Shift.pull (.there (.there (.there (.there (.there (.there (.there (.there .here)))))))) ?_
                  have hs3341 := (hs3311).mono hK3337
                  have hs3342 := (hs3312).mono hK3337
                  refine Shift.done ?_
                  exact ⟨[(4, (.pointer (some ((⟨b878, 0, none⟩ : Addr).add 0)))), (5, (.pointer (some ((⟨b879, 0, none⟩ : Addr).add 0)))), (7, (.pointer (some ((⟨b893, 0, none⟩ : Addr).add 0)))), (8, (sv v900)), (9, (.pointer (some ((⟨b916, 0, none⟩ : Addr).add 0)))), (10, (.int .i64 i2628)), (11, (.pointer (some ((⟨b3330, 0, none⟩ : Addr).add 0)))), (12, (.pointer (some ((⟨b3340, 0, none⟩ : Addr).add 0))))], ⟨rfl, rfl, rfl, rfl, rfl, rfl, rfl, rfl, trivial⟩, b3330, b3340, x3289.kind, x3289.mode, x3289.channel, x3289.value, x3289.deadline, v3334, x3289.cases, v3335, x3289.draws, x3276.kind, x3276.mode, x3276.channel, x3276.value, x3276.deadline, v3307, x3276.cases, v3308, x3276.draws, x3290, x3291, rfl, rfl, H, hs3338, hs3339, hs3341, hs3342⟩
                · skip
                  refine id (Ax_mk rfl rfl ?_)
                  refine OpW_alloc (cs := (Op.cells (Op.mk 0 0 0 0 0 [] []) nilS nilS)) rfl rfl rfl rfl (fun b3343 => ⟨(Inc.cons (.tail _ (.tail _ (.tail _ (.head _)))) (Inc.cons (.tail _ (.tail _ (.tail _ (.tail _ (.head _))))) (Inc.cons (.tail _ (.tail _ (.tail _ (.tail _ (.tail _ (.head _)))))) (Inc.cons (.tail _ (.tail _ (.tail _ (.tail _ (.tail _ (.tail _ (.head _))))))) (Inc.cons (.tail _ (.tail _ (.tail _ (.tail _ (.tail _ (.tail _ (.tail _ (.head _)))))))) (Inc.cons (.tail _ (.tail _ (.tail _ (.tail _ (.tail _ (.tail _ (.tail _ (.tail _ (.head _))))))))) Inc.nil)))))), ?_⟩)
                  refine Aw_one 5 (by kernel_rfl) (Ax_mk rfl rfl ?_)
                  refine OpW.shift (Shift.pull (.there (.there .here)) (Shift.done ?_))
                  have hs3344 := (hs3304).mono hK3310
                  have hs3345 := (hs3305).mono hK3310
                  have hs3346 := (hs3306).mono hK3310
                  refine OpW_call rfl Try.call17 rfl rfl (c_M_draw_Codes_Op b893 (Draw_Codes.mk x890.list x3277 x3278) v894 x908 v910 v911 x3289 x3290 x3291 hx3292 _ _ hs3344 hs3345 hs3346) ?_
                  rintro _ K3349 _ hK3350 ⟨v3347, v3348, rfl, rfl, hs3351, hs3352⟩
                  refine ⟨(Inc.cons (.tail _ (.tail _ (.tail _ (.head _)))) (Inc.cons (.tail _ (.tail _ (.tail _ (.tail _ (.head _))))) (Inc.cons (.tail _ (.tail _ (.tail _ (.tail _ (.tail _ (.head _)))))) (Inc.cons (.tail _ (.tail _ (.tail _ (.tail _ (.tail _ (.tail _ (.head _))))))) (Inc.cons (.tail _ (.tail _ (.tail _ (.tail _ (.tail _ (.tail _ (.tail _ (.head _)))))))) (Inc.cons (.tail _ (.tail _ (.tail _ (.tail _ (.tail _ (.tail _ (.tail _ (.tail _ (.head _))))))))) Inc.nil)))))), ?_⟩
                  refine Aw_one 8 (by kernel_rfl) (Ax_mk rfl rfl ?_)
                  refine OpW_store (vs := (Op.cells x3276 v3307 v3308)) (all' := (Op.cells x3276 v3307 v3308)) rfl rfl rfl rfl rfl (.there (.there .here)) rfl rfl rfl ⟨(Inc.cons (.tail _ (.tail _ (.tail _ (.head _)))) (Inc.cons (.tail _ (.tail _ (.tail _ (.tail _ (.head _))))) (Inc.cons (.tail _ (.tail _ (.tail _ (.tail _ (.tail _ (.head _)))))) (Inc.cons (.tail _ (.tail _ (.tail _ (.tail _ (.tail _ (.tail _ (.head _))))))) (Inc.cons (.tail _ (.tail _ (.tail _ (.tail _ (.tail _ (.tail _ (.tail _ (.head _)))))))) (Inc.cons (.tail _ (.tail _ (.tail _ (.tail _ (.tail _ (.tail _ (.tail _ (.tail _ (.head _))))))))) Inc.nil)))))), ?_⟩
                  refine Aw_one 9 (by kernel_rfl) (Ax_mk rfl rfl ?_)
                  refine OpW_store (vs := (Op.cells x3289 v3347 v3348)) (all' := (Op.cells x3289 v3347 v3348)) rfl rfl rfl rfl rfl (.there .here) rfl rfl rfl ⟨(Inc.cons (.tail _ (.tail _ (.tail _ (.head _)))) (Inc.cons (.tail _ (.tail _ (.tail _ (.tail _ (.head _))))) (Inc.cons (.tail _ (.tail _ (.tail _ (.tail _ (.tail _ (.head _)))))) (Inc.cons (.tail _ (.tail _ (.tail _ (.tail _ (.tail _ (.tail _ (.head _))))))) (Inc.cons (.tail _ (.tail _ (.tail _ (.tail _ (.tail _ (.tail _ (.tail _ (.head _)))))))) (Inc.cons (.tail _ (.tail _ (.tail _ (.tail _ (.tail _ (.tail _ (.tail _ (.tail _ (.head _))))))))) Inc.nil)))))), ?_⟩
                  refine Aw_done (by kernel_rfl) ?_
                  refine Shift.pull (.there (.there (.there (.there (.there (.there (.there (.there .here)))))))) ?_
                  refine Shift.pull (.there (.there (.there (.there (.there (.there (.there (.there .here)))))))) ?_
                  refine Shift.pull (.there (.there (.there (.there (.there (.there (.there (.there .here)))))))) ?_
                  refine Shift.pull (.there (.there (.there (.there (.there (.there (.there (.there .here)))))))) ?_
                  refine Shift.pull (.there (.there (.there (.there (.there (.there (.there (.there .here)))))))) ?_
                  refine Shift.pull (.there (.there (.there (.there (.there .here))))) ?_
                  refine Shift.pull (.there (.there (.there (.there (.there (.there (.there (.there .here)))))))) ?_
                  refine Shift.pull (.there (.there (.there (.there (.there (.there (.there (.there .here)))))))) ?_
                  refine Shift.pull (.there (.there (.there (.there (.there (.there (.there (.there .here)))))))) ?_
                  have hs3353 := (hs3311).mono hK3350
                  have hs3354 := (hs3312).mono hK3350
                  refine Shift.done ?_
                  exact ⟨[(4, (.pointer (some ((⟨b878, 0, none⟩ : Addr).add 0)))), (5, (.pointer (some ((⟨b879, 0, none⟩ : Addr).add 0)))), (7, (.pointer (some ((⟨b893, 0, none⟩ : Addr).add 0)))), (8, (sv v900)), (9, (.pointer (some ((⟨b916, 0, none⟩ : Addr).add 0)))), (10, (.int .i64 i2628)), (11, (.pointer (some ((⟨b3330, 0, none⟩ : Addr).add 0)))), (12, (.pointer (some ((⟨b3343, 0, none⟩ : Addr).add 0))))], ⟨rfl, rfl, rfl, rfl, rfl, rfl, rfl, rfl, trivial⟩, b3330, b3343, x3289.kind, x3289.mode, x3289.channel, x3289.value, x3289.deadline, v3347, x3289.cases, v3348, x3289.draws, x3276.kind, x3276.mode, x3276.channel, x3276.value, x3276.deadline, v3307, x3276.cases, v3308, x3276.draws, x3290, x3291, rfl, rfl, H, hs3351, hs3352, hs3353, hs3354⟩
              · skip
                refine id (Ax_mk rfl rfl ?_)
                refine OpW_alloc (cs := (Op.cells (Op.mk 0 0 0 0 0 [] []) nilS nilS)) rfl rfl rfl rfl (fun b3355 => ⟨(Inc.cons (.tail _ (.tail _ (.head _))) (Inc.cons (.tail _ (.tail _ (.tail _ (.head _)))) (Inc.cons (.tail _ (.tail _ (.tail _ (.tail _ (.head _))))) (Inc.cons (.tail _ (.tail _ (.tail _ (.tail _ (.tail _ (.head _)))))) (Inc.cons (.tail _ (.tail _ (.tail _ (.tail _ (.tail _ (.tail _ (.head _))))))) (Inc.cons (.tail _ (.tail _ (.tail _ (.tail _ (.tail _ (.tail _ (.tail _ (.head _)))))))) Inc.nil)))))), ?_⟩)
                refine Aw_two 5 6 (by kernel_rfl) ?_ ?_
                · skip
                  refine id (Ax_mk rfl rfl ?_)
                  refine OpW.shift (Shift.pull (.there .here) (Shift.done ?_))
                  have hs3356 := (hs3304).mono hK3310
                  have hs3357 := (hs3305).mono hK3310
                  have hs3358 := (hs3306).mono hK3310
                  refine OpW_call rfl Try.call17 rfl rfl (c_M_draw_Codes_Op b893 (Draw_Codes.mk x890.list x3277 x3278) v894 x908 v910 v911 x3289 x3290 x3291 hx3292 _ _ hs3356 hs3357 hs3358) ?_
                  rintro _ K3361 _ hK3362 ⟨v3359, v3360, rfl, rfl, hs3363, hs3364⟩
                  refine ⟨(Inc.cons (.tail _ (.tail _ (.head _))) (Inc.cons (.tail _ (.tail _ (.tail _ (.head _)))) (Inc.cons (.tail _ (.tail _ (.tail _ (.tail _ (.head _))))) (Inc.cons (.tail _ (.tail _ (.tail _ (.tail _ (.tail _ (.head _)))))) (Inc.cons (.tail _ (.tail _ (.tail _ (.tail _ (.tail _ (.tail _ (.head _))))))) (Inc.cons (.tail _ (.tail _ (.tail _ (.tail _ (.tail _ (.tail _ (.tail _ (.head _)))))))) Inc.nil)))))), ?_⟩
                  refine Aw_one 6 (by kernel_rfl) (Ax_mk rfl rfl ?_)
                  refine OpW_alloc (cs := (Op.cells (Op.mk 0 0 0 0 0 [] []) nilS nilS)) rfl rfl rfl rfl (fun b3365 => ⟨(Inc.cons (.tail _ (.tail _ (.tail _ (.head _)))) (Inc.cons (.tail _ (.tail _ (.tail _ (.tail _ (.head _))))) (Inc.cons (.tail _ (.tail _ (.tail _ (.tail _ (.tail _ (.head _)))))) (Inc.cons (.tail _ (.tail _ (.tail _ (.tail _ (.tail _ (.tail _ (.head _))))))) (Inc.cons (.tail _ (.tail _ (.tail _ (.tail _ (.tail _ (.tail _ (.tail _ (.head _)))))))) (Inc.cons (.tail _ (.tail _ (.tail _ (.tail _ (.tail _ (.tail _ (.tail _ (.tail _ (.head _))))))))) Inc.nil)))))), ?_⟩)
                  refine Aw_one 8 (by kernel_rfl) (Ax_mk rfl rfl ?_)
                  refine OpW_store (vs := (Op.cells x3276 v3307 v3308)) (all' := (Op.cells x3276 v3307 v3308)) rfl rfl rfl rfl rfl .here rfl rfl rfl ⟨(Inc.cons (.tail _ (.tail _ (.tail _ (.head _)))) (Inc.cons (.tail _ (.tail _ (.tail _ (.tail _ (.head _))))) (Inc.cons (.tail _ (.tail _ (.tail _ (.tail _ (.tail _ (.head _)))))) (Inc.cons (.tail _ (.tail _ (.tail _ (.tail _ (.tail _ (.tail _ (.head _))))))) (Inc.cons (.tail _ (.tail _ (.tail _ (.tail _ (.tail _ (.tail _ (.tail _ (.head _)))))))) (Inc.cons (.tail _ (.tail _ (.tail _ (.tail _ (.tail _ (.tail _ (.tail _ (.tail _ (.head _))))))))) Inc.nil)))))), ?_⟩
                  refine Aw_one 9 (by kernel_rfl) (Ax_mk rfl rfl ?_)
                  refine OpW_store (vs := (Op.cells x3289 v3359 v3360)) (all' := (Op.cells x3289 v3359 v3360)) rfl rfl rfl rfl rfl (.there (.there .here)) rfl rfl rfl ⟨(Inc.cons (.tail _ (.tail _ (.tail _ (.head _)))) (Inc.cons (.tail _ (.tail _ (.tail _ (.tail _ (.head _))))) (Inc.cons (.tail _ (.tail _ (.tail _ (.tail _ (.tail _ (.head _)))))) (Inc.cons (.tail _ (.tail _ (.tail _ (.tail _ (.tail _ (.tail _ (.head _))))))) (Inc.cons (.tail _ (.tail _ (.tail _ (.tail _ (.tail _ (.tail _ (.tail _ (.head _)))))))) (Inc.cons (.tail _ (.tail _ (.tail _ (.tail _ (.tail _ (.tail _ (.tail _ (.tail _ (.head _))))))))) Inc.nil)))))), ?_⟩
                  refine Aw_done (by kernel_rfl) ?_
                  refine Shift.pull (.there (.there (.there (.there (.there (.there (.there (.there .here)))))))) ?_
                  refine Shift.pull (.there (.there (.there (.there (.there (.there (.there (.there .here)))))))) ?_
                  refine Shift.pull (.there (.there (.there (.there (.there (.there (.there (.there .here)))))))) ?_
                  refine Shift.pull (.there (.there (.there (.there (.there (.there (.there (.there .here)))))))) ?_
                  refine Shift.pull (.there (.there (.there (.there (.there (.there (.there (.there .here)))))))) ?_
                  refine Shift.pull (.there (.there (.there (.there (.there (.there .here)))))) ?_
                  refine Shift.pull (.there (.there (.there (.there (.there (.there (.there (.there .here)))))))) ?_
                  refine Shift.pull (.there (.there (.there (.there (.there (.there (.there .here))))))) ?_
                  refine Shift.pull (.there (.there (.there (.there (.there (.there (.there (.there .here)))))))) ?_
                  have hs3366 := (hs3311).mono hK3362
                  have hs3367 := (hs3312).mono hK3362
                  refine Shift.done ?_
                  exact ⟨[(4, (.pointer (some ((⟨b878, 0, none⟩ : Addr).add 0)))), (5, (.pointer (some ((⟨b879, 0, none⟩ : Addr).add 0)))), (7, (.pointer (some ((⟨b893, 0, none⟩ : Addr).add 0)))), (8, (sv v900)), (9, (.pointer (some ((⟨b916, 0, none⟩ : Addr).add 0)))), (10, (.int .i64 i2628)), (11, (.pointer (some ((⟨b3365, 0, none⟩ : Addr).add 0)))), (12, (.pointer (some ((⟨b3355, 0, none⟩ : Addr).add 0))))], ⟨rfl, rfl, rfl, rfl, rfl, rfl, rfl, rfl, trivial⟩, b3365, b3355, x3289.kind, x3289.mode, x3289.channel, x3289.value, x3289.deadline, v3359, x3289.cases, v3360, x3289.draws, x3276.kind, x3276.mode, x3276.channel, x3276.value, x3276.deadline, v3307, x3276.cases, v3308, x3276.draws, x3290, x3291, rfl, rfl, H, hs3363, hs3364, hs3366, hs3367⟩
                · skip
                  refine id (Ax_mk rfl rfl ?_)
                  refine OpW_alloc (cs := (Op.cells (Op.mk 0 0 0 0 0 [] []) nilS nilS)) rfl rfl rfl rfl (fun b3368 => ⟨(Inc.cons (.tail _ (.tail _ (.tail _ (.head _)))) (Inc.cons (.tail _ (.tail _ (.tail _ (.tail _ (.head _))))) (Inc.cons (.tail _ (.tail _ (.tail _ (.tail _ (.tail _ (.head _)))))) (Inc.cons (.tail _ (.tail _ (.tail _ (.tail _ (.tail _ (.tail _ (.head _))))))) (Inc.cons (.tail _ (.tail _ (.tail _ (.tail _ (.tail _ (.tail _ (.tail _ (.head _)))))))) (Inc.cons (.tail _ (.tail _ (.tail _ (.tail _ (.tail _ (.tail _ (.tail _ (.tail _ (.head _))))))))) Inc.nil)))))), ?_⟩)
                  refine Aw_one 5 (by kernel_rfl) (Ax_mk rfl rfl ?_)
                  refine OpW.shift (Shift.pull (.there (.there .here)) (Shift.done ?_))
                  have hs3369 := (hs3304).mono hK3310
                  have hs3370 := (hs3305).mono hK3310
                  have hs3371 := (hs3306).mono hK3310
                  refine OpW_call rfl Try.call17 rfl rfl (c_M_draw_Codes_Op b893 (Draw_Codes.mk x890.list x3277 x3278) v894 x908 v910 v911 x3289 x3290 x3291 hx3292 _ _ hs3369 hs3370 hs3371) ?_
                  rintro _ K3374 _ hK3375 ⟨v3372, v3373, rfl, rfl, hs3376, hs3377⟩
                  refine ⟨(Inc.cons (.tail _ (.tail _ (.tail _ (.head _)))) (Inc.cons (.tail _ (.tail _ (.tail _ (.tail _ (.head _))))) (Inc.cons (.tail _ (.tail _ (.tail _ (.tail _ (.tail _ (.head _)))))) (Inc.cons (.tail _ (.tail _ (.tail _ (.tail _ (.tail _ (.tail _ (.head _))))))) (Inc.cons (.tail _ (.tail _ (.tail _ (.tail _ (.tail _ (.tail _ (.tail _ (.head _)))))))) (Inc.cons (.tail _ (.tail _ (.tail _ (.tail _ (.tail _ (.tail _ (.tail _ (.tail _ (.head _))))))))) Inc.nil)))))), ?_⟩
                  refine Aw_one 8 (by kernel_rfl) (Ax_mk rfl rfl ?_)
                  refine OpW_store (vs := (Op.cells x3276 v3307 v3308)) (all' := (Op.cells x3276 v3307 v3308)) rfl rfl rfl rfl rfl (.there .here) rfl rfl rfl ⟨(Inc.cons (.tail _ (.tail _ (.tail _ (.head _)))) (Inc.cons (.tail _ (.tail _ (.tail _ (.tail _ (.head _))))) (Inc.cons (.tail _ (.tail _ (.tail _ (.tail _ (.tail _ (.head _)))))) (Inc.cons (.tail _ (.tail _ (.tail _ (.tail _ (.tail _ (.tail _ (.head _))))))) (Inc.cons (.tail _ (.tail _ (.tail _ (.tail _ (.tail _ (.tail _ (.tail _ (.head _)))))))) (Inc.cons (.tail _ (.tail _ (.tail _ (.tail _ (.tail _ (.tail _ (.tail _ (.tail _ (.head _))))))))) Inc.nil)))))), ?_⟩
                  refine Aw_one 9 (by kernel_rfl) (Ax_mk rfl rfl ?_)
                  refine OpW_store (vs := (Op.cells x3289 v3372 v3373)) (all' := (Op.cells x3289 v3372 v3373)) rfl rfl rfl rfl rfl (.there (.there .here)) rfl rfl rfl ⟨(Inc.cons (.tail _ (.tail _ (.tail _ (.head _)))) (Inc.cons (.tail _ (.tail _ (.tail _ (.tail _ (.head _))))) (Inc.cons (.tail _ (.tail _ (.tail _ (.tail _ (.tail _ (.head _)))))) (Inc.cons (.tail _ (.tail _ (.tail _ (.tail _ (.tail _ (.tail _ (.head _))))))) (Inc.cons (.tail _ (.tail _ (.tail _ (.tail _ (.tail _ (.tail _ (.tail _ (.head _)))))))) (Inc.cons (.tail _ (.tail _ (.tail _ (.tail _ (.tail _ (.tail _ (.tail _ (.tail _ (.head _))))))))) Inc.nil)))))), ?_⟩
                  refine Aw_done (by kernel_rfl) ?_
                  refine Shift.pull (.there (.there (.there (.there (.there (.there (.there (.there .here)))))))) ?_
                  refine Shift.pull (.there (.there (.there (.there (.there (.there (.there (.there .here)))))))) ?_
                  refine Shift.pull (.there (.there (.there (.there (.there (.there (.there (.there .here)))))))) ?_
                  refine Shift.pull (.there (.there (.there (.there (.there (.there (.there (.there .here)))))))) ?_
                  refine Shift.pull (.there (.there (.there (.there (.there (.there (.there (.there .here)))))))) ?_
                  refine Shift.pull (.there (.there (.there (.there (.there .here))))) ?_
                  refine Shift.pull (.there (.there (.there (.there (.there (.there (.there (.there .here)))))))) ?_
                  refine Shift.pull (.there (.there (.there (.there (.there (.there (.there .here))))))) ?_
                  refine Shift.pull (.there (.there (.there (.there (.there (.there (.there (.there .here)))))))) ?_
                  have hs3378 := (hs3311).mono hK3375
                  have hs3379 := (hs3312).mono hK3375
                  refine Shift.done ?_
                  exact ⟨[(4, (.pointer (some ((⟨b878, 0, none⟩ : Addr).add 0)))), (5, (.pointer (some ((⟨b879, 0, none⟩ : Addr).add 0)))), (7, (.pointer (some ((⟨b893, 0, none⟩ : Addr).add 0)))), (8, (sv v900)), (9, (.pointer (some ((⟨b916, 0, none⟩ : Addr).add 0)))), (10, (.int .i64 i2628)), (11, (.pointer (some ((⟨b3368, 0, none⟩ : Addr).add 0)))), (12, (.pointer (some ((⟨b3355, 0, none⟩ : Addr).add 0))))], ⟨rfl, rfl, rfl, rfl, rfl, rfl, rfl, rfl, trivial⟩, b3368, b3355, x3289.kind, x3289.mode, x3289.channel, x3289.value, x3289.deadline, v3372, x3289.cases, v3373, x3289.draws, x3276.kind, x3276.mode, x3276.channel, x3276.value, x3276.deadline, v3307, x3276.cases, v3308, x3276.draws, x3290, x3291, rfl, rfl, H, hs3376, hs3377, hs3378, hs3379⟩
            · skip
              refine id (Ax_mk rfl rfl ?_)
              refine OpW_alloc (cs := (Op.cells (Op.mk 0 0 0 0 0 [] []) nilS nilS)) rfl rfl rfl rfl (fun b3380 => ⟨(Inc.cons (.tail _ (.head _)) (Inc.cons (.tail _ (.tail _ (.tail _ (.head _)))) (Inc.cons (.tail _ (.tail _ (.tail _ (.tail _ (.head _))))) (Inc.cons (.tail _ (.tail _ (.tail _ (.tail _ (.tail _ (.head _)))))) (Inc.cons (.tail _ (.tail _ (.tail _ (.tail _ (.tail _ (.tail _ (.head _))))))) (Inc.cons (.tail _ (.tail _ (.tail _ (.tail _ (.tail _ (.tail _ (.tail _ (.head _)))))))) Inc.nil)))))), ?_⟩)
              refine Aw_two 2 7 (by kernel_rfl) ?_ ?_
              · skip
                refine id (Ax_mk rfl rfl ?_)
                refine OpW.shift (Shift.pull (.there (.there .here)) (Shift.done ?_))
                have hs3381 := ((((hs895).mono hK903).mono hK906).mono hK913).mono hK2633
                have hs3382 := (hs914).mono hK2633
                have hs3383 := (hs915).mono hK2633
                refine OpW_call rfl Try.call17 rfl rfl (c_M_draw_Codes_Op b893 (Draw_Codes.mk x890.list i2629 i2630) v894 x908 v910 v911 x3276 x3277 x3278 hx3279 _ _ hs3381 hs3382 hs3383) ?_
                rintro _ K3386 _ hK3387 ⟨v3384, v3385, rfl, rfl, hs3388, hs3389⟩
                refine ⟨(Inc.cons (.tail _ (.tail _ (.head _))) (Inc.cons (.tail _ (.tail _ (.tail _ (.head _)))) (Inc.cons (.tail _ (.tail _ (.tail _ (.tail _ (.head _))))) (Inc.cons (.tail _ (.tail _ (.tail _ (.tail _ (.tail _ (.head _)))))) (Inc.cons (.tail _ (.tail _ (.tail _ (.tail _ (.tail _ (.tail _ (.head _))))))) (Inc.cons (.tail _ (.tail _ (.tail _ (.tail _ (.tail _ (.tail _ (.tail _ (.head _)))))))) Inc.nil)))))), ?_⟩
                refine Aw_two 5 7 (by kernel_rfl) ?_ ?_
                · skip
                  refine id (Ax_mk rfl rfl ?_)
                  have hs3390 := (hs3381).mono hK3387
                  have hs3391 := (hs3382).mono hK3387
                  have hs3392 := (hs3383).mono hK3387
                  refine OpW_call rfl Try.call17 rfl rfl (c_M_draw_Codes_Op b893 (Draw_Codes.mk x890.list x3277 x3278) v894 x908 v910 v911 x3289 x3290 x3291 hx3292 _ _ hs3390 hs3391 hs3392) ?_
                  rintro _ K3395 _ hK3396 ⟨v3393, v3394, rfl, rfl, hs3397, hs3398⟩
                  refine ⟨(Inc.cons (.tail _ (.tail _ (.head _))) (Inc.cons (.tail _ (.tail _ (.tail _ (.head _)))) (Inc.cons (.tail _ (.tail _ (.tail _ (.tail _ (.head _))))) (Inc.cons (.tail _ (.tail _ (.tail _ (.tail _ (.tail _ (.head _)))))) (Inc.cons (.tail _ (.tail _ (.tail _ (.tail _ (.tail _ (.tail _ (.head _))))))) (Inc.cons (.tail _ (.tail _ (.tail _ (.tail _ (.tail _ (.tail _ (.tail _ (.head _)))))))) Inc.nil)))))), ?_⟩
                  refine Aw_one 7 (by kernel_rfl) (Ax_mk rfl rfl ?_)
                  refine OpW_alloc (cs := (Op.cells (Op.mk 0 0 0 0 0 [] []) nilS nilS)) rfl rfl rfl rfl (fun b3399 => ⟨(Inc.cons (.tail _ (.tail _ (.tail _ (.head _)))) (Inc.cons (.tail _ (.tail _ (.tail _ (.tail _ (.head _))))) (Inc.cons (.tail _ (.tail _ (.tail _ (.tail _ (.tail _ (.head _)))))) (Inc.cons (.tail _ (.tail _ (.tail _ (.tail _ (.tail _ (.tail _ (.head _))))))) (Inc.cons (.tail _ (.tail _ (.tail _ (.tail _ (.tail _ (.tail _ (.tail _ (.head _)))))))) (Inc.cons (.tail _ (.tail _ (.tail _ (.tail _ (.tail _ (.tail _ (.tail _ (.tail _ (.head _))))))))) Inc.nil)))))), ?_⟩)
                  refine Aw_one 8 (by kernel_rfl) (Ax_mk rfl rfl ?_)
                  refine OpW_store (vs := (Op.cells x3276 v3384 v3385)) (all' := (Op.cells x3276 v3384 v3385)) rfl rfl rfl rfl rfl (.there (.there .here)) rfl rfl rfl ⟨(Inc.cons (.tail _ (.tail _ (.tail _ (.head _)))) (Inc.cons (.tail _ (.tail _ (.tail _ (.tail _ (.head _))))) (Inc.cons (.tail _ (.tail _ (.tail _ (.tail _ (.tail _ (.head _)))))) (Inc.cons (.tail _ (.tail _ (.tail _ (.tail _ (.tail _ (.tail _ (.head _))))))) (Inc.cons (.tail _ (.tail _ (.tail _ (.tail _ (.tail _ (.tail _ (.tail _ (.head _)))))))) (Inc.cons (.tail _ (.tail _ (.tail _ (.tail _ (.tail _ (.tail _ (.tail _ (.tail _ (.head _))))))))) Inc.nil)))))), ?_⟩
                  refine Aw_one 9 (by kernel_rfl) (Ax_mk rfl rfl ?_)
                  refine OpW_store (vs := (Op.cells x3289 v3393 v3394)) (all' := (Op.cells x3289 v3393 v3394)) rfl rfl rfl rfl rfl .here rfl rfl rfl ⟨(Inc.cons (.tail _ (.tail _ (.tail _ (.head _)))) (Inc.cons (.tail _ (.tail _ (.tail _ (.tail _ (.head _))))) (Inc.cons (.tail _ (.tail _ (.tail _ (.tail _ (.tail _ (.head _)))))) (Inc.cons (.tail _ (.tail _ (.tail _ (.tail _ (.tail _ (.tail _ (.head _))))))) (Inc.cons (.tail _ (.tail _ (.tail _ (.tail _ (.tail _ (.tail _ (.tail _ (.head _)))))))) (Inc.cons (.tail _ (.tail _ (.tail _ (.tail _ (.tail _ (.tail _ (.tail _ (.tail _ (.head _))))))))) Inc.nil)))))), ?_⟩
                  refine Aw_done (by kernel_rfl) ?_
                  refine Shift.pull (.there (.there (.there (.there (.there (.there (.there (.there .here)))))))) ?_
                  refine Shift.pull (.there (.there (.there (.there (.there (.there (.there (.there .here)))))))) ?_
                  refine Shift.pull (.there (.there (.there (.there (.there (.there (.there (.there .here)))))))) ?_
                  refine Shift.pull (.there (.there (.there (.there (.there (.there (.there (.there .here)))))))) ?_
                  refine Shift.pull (.there (.there (.there (.there (.there (.there (.there (.there .here)))))))) ?_
                  refine Shift.pull (.there (.there (.there (.there (.there (.there .here)))))) ?_
                  refine Shift.pull (.there (.there (.there (.there (.there (.there (.there (.there .here)))))))) ?_
                  refine Shift.pull (.there (.there (.there (.there (.there (.there (.there (.there .here)))))))) ?_
                  refine Shift.pull (.there (.there (.there (.there (.there (.there (.there (.there .here)))))))) ?_
                  have hs3400 := (hs3388).mono hK3396
                  have hs3401 := (hs3389).mono hK3396
                  refine Shift.done ?_
                  exact ⟨[(4, (.pointer (some ((⟨b878, 0, none⟩ : Addr).add 0)))), (5, (.pointer (some ((⟨b879, 0, none⟩ : Addr).add 0)))), (7, (.pointer (some ((⟨b893, 0, none⟩ : Addr).add 0)))), (8, (sv v900)), (9, (.pointer (some ((⟨b916, 0, none⟩ : Addr).add 0)))), (10, (.int .i64 i2628)), (11, (.pointer (some ((⟨b3380, 0, none⟩ : Addr).add 0)))), (12, (.pointer (some ((⟨b3399, 0, none⟩ : Addr).add 0))))], ⟨rfl, rfl, rfl, rfl, rfl, rfl, rfl, rfl, trivial⟩, b3380, b3399, x3289.kind, x3289.mode, x3289.channel, x3289.value, x3289.deadline, v3393, x3289.cases, v3394, x3289.draws, x3276.kind, x3276.mode, x3276.channel, x3276.value, x3276.deadline, v3384, x3276.cases, v3385, x3276.draws, x3290, x3291, rfl, rfl, H, hs3397, hs3398, hs3400, hs3401⟩
                · skip
                  refine id (Ax_mk rfl rfl ?_)
                  refine OpW_alloc (cs := (Op.cells (Op.mk 0 0 0 0 0 [] []) nilS nilS)) rfl rfl rfl rfl (fun b3402 => ⟨(Inc.cons (.tail _ (.tail _ (.tail _ (.head _)))) (Inc.cons (.tail _ (.tail _ (.tail _ (.tail _ (.head _))))) (Inc.cons (.tail _ (.tail _ (.tail _ (.tail _ (.tail _ (.head _)))))) (Inc.cons (.tail _ (.tail _ (.tail _ (.tail _ (.tail _ (.tail _ (.head _))))))) (Inc.cons (.tail _ (.tail _ (.tail _ (.tail _ (.tail _ (.tail _ (.tail _ (.head _)))))))) (Inc.cons (.tail _ (.tail _ (.tail _ (.tail _ (.tail _ (.tail _ (.tail _ (.tail _ (.head _))))))))) Inc.nil)))))), ?_⟩)
                  refine Aw_one 5 (by kernel_rfl) (Ax_mk rfl rfl ?_)
                  refine OpW.shift (Shift.pull (.there .here) (Shift.done ?_))
                  have hs3403 := (hs3381).mono hK3387
                  have hs3404 := (hs3382).mono hK3387
                  have hs3405 := (hs3383).mono hK3387
                  refine OpW_call rfl Try.call17 rfl rfl (c_M_draw_Codes_Op b893 (Draw_Codes.mk x890.list x3277 x3278) v894 x908 v910 v911 x3289 x3290 x3291 hx3292 _ _ hs3403 hs3404 hs3405) ?_
                  rintro _ K3408 _ hK3409 ⟨v3406, v3407, rfl, rfl, hs3410, hs3411⟩
                  refine ⟨(Inc.cons (.tail _ (.tail _ (.tail _ (.head _)))) (Inc.cons (.tail _ (.tail _ (.tail _ (.tail _ (.head _))))) (Inc.cons (.tail _ (.tail _ (.tail _ (.tail _ (.tail _ (.head _)))))) (Inc.cons (.tail _ (.tail _ (.tail _ (.tail _ (.tail _ (.tail _ (.head _))))))) (Inc.cons (.tail _ (.tail _ (.tail _ (.tail _ (.tail _ (.tail _ (.tail _ (.head _)))))))) (Inc.cons (.tail _ (.tail _ (.tail _ (.tail _ (.tail _ (.tail _ (.tail _ (.tail _ (.head _))))))))) Inc.nil)))))), ?_⟩
                  refine Aw_one 8 (by kernel_rfl) (Ax_mk rfl rfl ?_)
                  refine OpW_store (vs := (Op.cells x3276 v3384 v3385)) (all' := (Op.cells x3276 v3384 v3385)) rfl rfl rfl rfl rfl (.there (.there .here)) rfl rfl rfl ⟨(Inc.cons (.tail _ (.tail _ (.tail _ (.head _)))) (Inc.cons (.tail _ (.tail _ (.tail _ (.tail _ (.head _))))) (Inc.cons (.tail _ (.tail _ (.tail _ (.tail _ (.tail _ (.head _)))))) (Inc.cons (.tail _ (.tail _ (.tail _ (.tail _ (.tail _ (.tail _ (.head _))))))) (Inc.cons (.tail _ (.tail _ (.tail _ (.tail _ (.tail _ (.tail _ (.tail _ (.head _)))))))) (Inc.cons (.tail _ (.tail _ (.tail _ (.tail _ (.tail _ (.tail _ (.tail _ (.tail _ (.head _))))))))) Inc.nil)))))), ?_⟩
                  refine Aw_one 9 (by kernel_rfl) (Ax_mk rfl rfl ?_)
                  refine OpW_store (vs := (Op.cells x3289 v3406 v3407)) (all' := (Op.cells x3289 v3406 v3407)) rfl rfl rfl rfl rfl (.there .here) rfl rfl rfl ⟨(Inc.cons (.tail _ (.tail _ (.tail _ (.head _)))) (Inc.cons (.tail _ (.tail _ (.tail _ (.tail _ (.head _))))) (Inc.cons (.tail _ (.tail _ (.tail _ (.tail _ (.tail _ (.head _)))))) (Inc.cons (.tail _ (.tail _ (.tail _ (.tail _ (.tail _ (.tail _ (.head _))))))) (Inc.cons (.tail _ (.tail _ (.tail _ (.tail _ (.tail _ (.tail _ (.tail _ (.head _)))))))) (Inc.cons (.tail _ (.tail _ (.tail _ (.tail _ (.tail _ (.tail _ (.tail _ (.tail _ (.head _))))))))) Inc.nil)))))), ?_⟩
                  refine Aw_done (by kernel_rfl) ?_
                  refine Shift.pull (.there (.there (.there (.there (.there (.there (.there (.there .here)))))))) ?_
                  refine Shift.pull (.there (.there (.there (.there (.there (.there (.there (.there .here)))))))) ?_
                  refine Shift.pull (.there (.there (.there (.there (.there (.there (.there (.there .here)))))))) ?_
                  refine Shift.pull (.there (.there (.there (.there (.there (.there (.there (.there .here)))))))) ?_
                  refine Shift.pull (.there (.there (.there (.there (.there (.there (.there (.there .here)))))))) ?_
                  refine Shift.pull (.there (.there (.there (.there (.there .here))))) ?_
                  refine Shift.pull (.there (.there (.there (.there (.there (.there (.there (.there .here)))))))) ?_
                  refine Shift.pull (.there (.there (.there (.there (.there (.there (.there (.there .here)))))))) ?_
                  refine Shift.pull (.there (.there (.there (.there (.there (.there (.there (.there .here)))))))) ?_
                  have hs3412 := (hs3388).mono hK3409
                  have hs3413 := (hs3389).mono hK3409
                  refine Shift.done ?_
                  exact ⟨[(4, (.pointer (some ((⟨b878, 0, none⟩ : Addr).add 0)))), (5, (.pointer (some ((⟨b879, 0, none⟩ : Addr).add 0)))), (7, (.pointer (some ((⟨b893, 0, none⟩ : Addr).add 0)))), (8, (sv v900)), (9, (.pointer (some ((⟨b916, 0, none⟩ : Addr).add 0)))), (10, (.int .i64 i2628)), (11, (.pointer (some ((⟨b3380, 0, none⟩ : Addr).add 0)))), (12, (.pointer (some ((⟨b3402, 0, none⟩ : Addr).add 0))))], ⟨rfl, rfl, rfl, rfl, rfl, rfl, rfl, rfl, trivial⟩, b3380, b3402, x3289.kind, x3289.mode, x3289.channel, x3289.value, x3289.deadline, v3406, x3289.cases, v3407, x3289.draws, x3276.kind, x3276.mode, x3276.channel, x3276.value, x3276.deadline, v3384, x3276.cases, v3385, x3276.draws, x3290, x3291, rfl, rfl, H, hs3410, hs3411, hs3412, hs3413⟩
              · skip
                refine id (Ax_mk rfl rfl ?_)
                refine OpW_alloc (cs := (Op.cells (Op.mk 0 0 0 0 0 [] []) nilS nilS)) rfl rfl rfl rfl (fun b3414 => ⟨(Inc.cons (.tail _ (.tail _ (.head _))) (Inc.cons (.tail _ (.tail _ (.tail _ (.tail _ (.head _))))) (Inc.cons (.tail _ (.tail _ (.tail _ (.tail _ (.tail _ (.head _)))))) (Inc.cons (.tail _ (.tail _ (.tail _ (.tail _ (.tail _ (.tail _ (.head _))))))) (Inc.cons (.tail _ (.tail _ (.tail _ (.tail _ (.tail _ (.tail _ (.tail _ (.head _)))))))) (Inc.cons (.tail _ (.tail _ (.tail _ (.tail _ (.tail _ (.tail _ (.tail _ (.tail _ (.head _))))))))) Inc.nil)))))), ?_⟩)
                refine Aw_one 2 (by kernel_rfl) (Ax_mk rfl rfl ?_)
                refine OpW.shift (Shift.pull (.there (.there (.there .here))) (Shift.done ?_))
                have hs3415 := ((((hs895).mono hK903).mono hK906).mono hK913).mono hK2633
                have hs3416 := (hs914).mono hK2633
                have hs3417 := (hs915).mono hK2633
                refine OpW_call rfl Try.call17 rfl rfl (c_M_draw_Codes_Op b893 (Draw_Codes.mk x890.list i2629 i2630) v894 x908 v910 v911 x3276 x3277 x3278 hx3279 _ _ hs3415 hs3416 hs3417) ?_
                rintro _ K3420 _ hK3421 ⟨v3418, v3419, rfl, rfl, hs3422, hs3423⟩
                refine ⟨(Inc.cons (.tail _ (.tail _ (.tail _ (.head _)))) (Inc.cons (.tail _ (.tail _ (.tail _ (.tail _ (.head _))))) (Inc.cons (.tail _ (.tail _ (.tail _ (.tail _ (.tail _ (.head _)))))) (Inc.cons (.tail _ (.tail _ (.tail _ (.tail _ (.tail _ (.tail _ (.head _))))))) (Inc.cons (.tail _ (.tail _ (.tail _ (.tail _ (.tail _ (.tail _ (.tail _ (.head _)))))))) (Inc.cons (.tail _ (.tail _ (.tail _ (.tail _ (.tail _ (.tail _ (.tail _ (.tail _ (.head _))))))))) Inc.nil)))))), ?_⟩
                refine Aw_one 5 (by kernel_rfl) (Ax_mk rfl rfl ?_)
                have hs3424 := (hs3415).mono hK3421
                have hs3425 := (hs3416).mono hK3421
                have hs3426 := (hs3417).mono hK3421
                refine OpW_call rfl Try.call17 rfl rfl (c_M_draw_Codes_Op b893 (Draw_Codes.mk x890.list x3277 x3278) v894 x908 v910 v911 x3289 x3290 x3291 hx3292 _ _ hs3424 hs3425 hs3426) ?_
                rintro _ K3429 _ hK3430 ⟨v3427, v3428, rfl, rfl, hs3431, hs3432⟩
                refine ⟨(Inc.cons (.tail _ (.tail _ (.tail _ (.head _)))) (Inc.cons (.tail _ (.tail _ (.tail _ (.tail _ (.head _))))) (Inc.cons (.tail _ (.tail _ (.tail _ (.tail _ (.tail _ (.head _)))))) (Inc.cons (.tail _ (.tail _ (.tail _ (.tail _ (.tail _ (.tail _ (.head _))))))) (Inc.cons (.tail _ (.tail _ (.tail _ (.tail _ (.tail _ (.tail _ (.tail _ (.head _)))))))) (Inc.cons (.tail _ (.tail _ (.tail _ (.tail _ (.tail _ (.tail _ (.tail _ (.tail _ (.head _))))))))) Inc.nil)))))), ?_⟩
                refine Aw_one 8 (by kernel_rfl) (Ax_mk rfl rfl ?_)
                refine OpW_store (vs := (Op.cells x3276 v3418 v3419)) (all' := (Op.cells x3276 v3418 v3419)) rfl rfl rfl rfl rfl (.there (.there .here)) rfl rfl rfl ⟨(Inc.cons (.tail _ (.tail _ (.tail _ (.head _)))) (Inc.cons (.tail _ (.tail _ (.tail _ (.tail _ (.head _))))) (Inc.cons (.tail _ (.tail _ (.tail _ (.tail _ (.tail _ (.head _)))))) (Inc.cons (.tail _ (.tail _ (.tail _ (.tail _ (.tail _ (.tail _ (.head _))))))) (Inc.cons (.tail _ (.tail _ (.tail _ (.tail _ (.tail _ (.tail _ (.tail _ (.head _)))))))) (Inc.cons (.tail _ (.tail _ (.tail _ (.tail _ (.tail _ (.tail _ (.tail _ (.tail _ (.head _))))))))) Inc.nil)))))), ?_⟩
                refine Aw_one 9 (by kernel_rfl) (Ax_mk rfl rfl ?_)
                refine OpW_store (vs := (Op.cells x3289 v3427 v3428)) (all' := (Op.cells x3289 v3427 v3428)) rfl rfl rfl rfl rfl (.there .here) rfl rfl rfl ⟨(Inc.cons (.tail _ (.tail _ (.tail _ (.head _)))) (Inc.cons (.tail _ (.tail _ (.tail _ (.tail _ (.head _))))) (Inc.cons (.tail _ (.tail _ (.tail _ (.tail _ (.tail _ (.head _)))))) (Inc.cons (.tail _ (.tail _ (.tail _ (.tail _ (.tail _ (.tail _ (.head _))))))) (Inc.cons (.tail _ (.tail _ (.tail _ (.tail _ (.tail _ (.tail _ (.tail _ (.head _)))))))) (Inc.cons (.tail _ (.tail _ (.tail _ (.tail _ (.tail _ (.tail _ (.tail _ (.tail _ (.head _))))))))) Inc.nil)))))), ?_⟩
                refine Aw_done (by kernel_rfl) ?_
                refine Shift.pull (.there (.there (.there (.there (.there (.there (.there (.there .here)))))))) ?_
                refine Shift.pull (.there (.there (.there (.there (.there (.there (.there (.there .here)))))))) ?_
                refine Shift.pull (.there (.there (.there (.there (.there (.there (.there (.there .here)))))))) ?_
                refine Shift.pull (.there (.there (.there (.there (.there (.there (.there (.there .here)))))))) ?_
                refine Shift.pull (.there (.there (.there (.there (.there (.there (.there (.there .here)))))))) ?_
                refine Shift.pull (.there (.there (.there (.there (.there .here))))) ?_
                refine Shift.pull (.there (.there (.there (.there (.there (.there (.there (.there .here)))))))) ?_
                refine Shift.pull (.there (.there (.there (.there (.there (.there (.there (.there .here)))))))) ?_
                refine Shift.pull (.there (.there (.there (.there (.there (.there (.there (.there .here)))))))) ?_
                have hs3433 := (hs3422).mono hK3430
                have hs3434 := (hs3423).mono hK3430
                refine Shift.done ?_
                exact ⟨[(4, (.pointer (some ((⟨b878, 0, none⟩ : Addr).add 0)))), (5, (.pointer (some ((⟨b879, 0, none⟩ : Addr).add 0)))), (7, (.pointer (some ((⟨b893, 0, none⟩ : Addr).add 0)))), (8, (sv v900)), (9, (.pointer (some ((⟨b916, 0, none⟩ : Addr).add 0)))), (10, (.int .i64 i2628)), (11, (.pointer (some ((⟨b3380, 0, none⟩ : Addr).add 0)))), (12, (.pointer (some ((⟨b3414, 0, none⟩ : Addr).add 0))))], ⟨rfl, rfl, rfl, rfl, rfl, rfl, rfl, rfl, trivial⟩, b3380, b3414, x3289.kind, x3289.mode, x3289.channel, x3289.value, x3289.deadline, v3427, x3289.cases, v3428, x3289.draws, x3276.kind, x3276.mode, x3276.channel, x3276.value, x3276.deadline, v3418, x3276.cases, v3419, x3276.draws, x3290, x3291, rfl, rfl, H, hs3431, hs3432, hs3433, hs3434⟩
            · skip
              refine id (Ax_mk rfl rfl ?_)
              refine OpW_alloc (cs := (Op.cells (Op.mk 0 0 0 0 0 [] []) nilS nilS)) rfl rfl rfl rfl (fun b3435 => ⟨(Inc.cons (.tail _ (.head _)) (Inc.cons (.tail _ (.tail _ (.tail _ (.head _)))) (Inc.cons (.tail _ (.tail _ (.tail _ (.tail _ (.head _))))) (Inc.cons (.tail _ (.tail _ (.tail _ (.tail _ (.tail _ (.head _)))))) (Inc.cons (.tail _ (.tail _ (.tail _ (.tail _ (.tail _ (.tail _ (.head _))))))) (Inc.cons (.tail _ (.tail _ (.tail _ (.tail _ (.tail _ (.tail _ (.tail _ (.head _)))))))) Inc.nil)))))), ?_⟩)
              refine Aw_two 2 6 (by kernel_rfl) ?_ ?_
              · skip
                refine id (Ax_mk rfl rfl ?_)
                refine OpW.shift (Shift.pull (.there (.there .here)) (Shift.done ?_))
                have hs3436 := ((((hs895).mono hK903).mono hK906).mono hK913).mono hK2633
                have hs3437 := (hs914).mono hK2633
                have hs3438 := (hs915).mono hK2633
                refine OpW_call rfl Try.call17 rfl rfl (c_M_draw_Codes_Op b893 (Draw_Codes.mk x890.list i2629 i2630) v894 x908 v910 v911 x3276 x3277 x3278 hx3279 _ _ hs3436 hs3437 hs3438) ?_
                rintro _ K3441 _ hK3442 ⟨v3439, v3440, rfl, rfl, hs3443, hs3444⟩
                refine ⟨(Inc.cons (.tail _ (.tail _ (.head _))) (Inc.cons (.tail _ (.tail _ (.tail _ (.head _)))) (Inc.cons (.tail _ (.tail _ (.tail _ (.tail _ (.head _))))) (Inc.cons (.tail _ (.tail _ (.tail _ (.tail _ (.tail _ (.head _)))))) (Inc.cons (.tail _ (.tail _ (.tail _ (.tail _ (.tail _ (.tail _ (.head _))))))) (Inc.cons (.tail _ (.tail _ (.tail _ (.tail _ (.tail _ (.tail _ (.tail _ (.head _)))))))) Inc.nil)))))), ?_⟩
                refine Aw_two 5 6 (by kernel_rfl) ?_ ?_
                · skip
                  refine id (Ax_mk rfl rfl ?_)
                  have hs3445 := (hs3436).mono hK3442
                  have hs3446 := (hs3437).mono hK3442
                  have hs3447 := (hs3438).mono hK3442
                  refine OpW_call rfl Try.call17 rfl rfl (c_M_draw_Codes_Op b893 (Draw_Codes.mk x890.list x3277 x3278) v894 x908 v910 v911 x3289 x3290 x3291 hx3292 _ _ hs3445 hs3446 hs3447) ?_
                  rintro _ K3450 _ hK3451 ⟨v3448, v3449, rfl, rfl, hs3452, hs3453⟩
                  refine ⟨(Inc.cons (.tail _ (.tail _ (.head _))) (Inc.cons (.tail _ (.tail _ (.tail _ (.head _)))) (Inc.cons (.tail _ (.tail _ (.tail _ (.tail _ (.head _))))) (Inc.cons (.tail _ (.tail _ (.tail _ (.tail _ (.tail _ (.head _)))))) (Inc.cons (.tail _ (.tail _ (.tail _ (.tail _ (.tail _ (.tail _ (.head _))))))) (Inc.cons (.tail _ (.tail _ (.tail _ (.tail _ (.tail _ (.tail _ (.tail _ (.head _)))))))) Inc.nil)))))), ?_⟩
                  refine Aw_one 6 (by kernel_rfl) (Ax_mk rfl rfl ?_)
                  refine OpW_alloc (cs := (Op.cells (Op.mk 0 0 0 0 0 [] []) nilS nilS)) rfl rfl rfl rfl (fun b3454 => ⟨(Inc.cons (.tail _ (.tail _ (.tail _ (.head _)))) (Inc.cons (.tail _ (.tail _ (.tail _ (.tail _ (.head _))))) (Inc.cons (.tail _ (.tail _ (.tail _ (.tail _ (.tail _ (.head _)))))) (Inc.cons (.tail _ (.tail _ (.tail _ (.tail _ (.tail _ (.tail _ (.head _))))))) (Inc.cons (.tail _ (.tail _ (.tail _ (.tail _ (.tail _ (.tail _ (.tail _ (.head _)))))))) (Inc.cons (.tail _ (.tail _ (.tail _ (.tail _ (.tail _ (.tail _ (.tail _ (.tail _ (.head _))))))))) Inc.nil)))))), ?_⟩)
                  refine Aw_one 8 (by kernel_rfl) (Ax_mk rfl rfl ?_)
                  refine OpW_store (vs := (Op.cells x3276 v3439 v3440)) (all' := (Op.cells x3276 v3439 v3440)) rfl rfl rfl rfl rfl .here rfl rfl rfl ⟨(Inc.cons (.tail _ (.tail _ (.tail _ (.head _)))) (Inc.cons (.tail _ (.tail _ (.tail _ (.tail _ (.head _))))) (Inc.cons (.tail _ (.tail _ (.tail _ (.tail _ (.tail _ (.head _)))))) (Inc.cons (.tail _ (.tail _ (.tail _ (.tail _ (.tail _ (.tail _ (.head _))))))) (Inc.cons (.tail _ (.tail _ (.tail _ (.tail _ (.tail _ (.tail _ (.tail _ (.head _)))))))) (Inc.cons (.tail _ (.tail _ (.tail _ (.tail _ (.tail _ (.tail _ (.tail _ (.tail _ (.head _))))))))) Inc.nil)))))), ?_⟩
                  refine Aw_one 9 (by kernel_rfl) (Ax_mk rfl rfl ?_)
                  refine OpW_store (vs := (Op.cells x3289 v3448 v3449)) (all' := (Op.cells x3289 v3448 v3449)) rfl rfl rfl rfl rfl (.there (.there .here)) rfl rfl rfl ⟨(Inc.cons (.tail _ (.tail _ (.tail _ (.head _)))) (Inc.cons (.tail _ (.tail _ (.tail _ (.tail _ (.head _))))) (Inc.cons (.tail _ (.tail _ (.tail _ (.tail _ (.tail _ (.head _)))))) (Inc.cons (.tail _ (.tail _ (.tail _ (.tail _ (.tail _ (.tail _ (.head _))))))) (Inc.cons (.tail _ (.tail _ (.tail _ (.tail _ (.tail _ (.tail _ (.tail _ (.head _)))))))) (Inc.cons (.tail _ (.tail _ (.tail _ (.tail _ (.tail _ (.tail _ (.tail _ (.tail _ (.head _))))))))) Inc.nil)))))), ?_⟩
                  refine Aw_done (by kernel_rfl) ?_
                  refine Shift.pull (.there (.there (.there (.there (.there (.there (.there (.there .here)))))))) ?_
                  refine Shift.pull (.there (.there (.there (.there (.there (.there (.there (.there .here)))))))) ?_
                  refine Shift.pull (.there (.there (.there (.there (.there (.there (.there (.there .here)))))))) ?_
                  refine Shift.pull (.there (.there (.there (.there (.there (.there (.there (.there .here)))))))) ?_
                  refine Shift.pull (.there (.there (.there (.there (.there (.there (.there (.there .here)))))))) ?_
                  refine Shift.pull (.there (.there (.there (.there (.there (.there .here)))))) ?_
                  refine Shift.pull (.there (.there (.there (.there (.there (.there (.there (.there .here)))))))) ?_
                  refine Shift.pull (.there (.there (.there (.there (.there (.there (.there .here))))))) ?_
                  refine Shift.pull (.there (.there (.there (.there (.there (.there (.there (.there .here)))))))) ?_
                  have hs3455 := (hs3443).mono hK3451
                  have hs3456 := (hs3444).mono hK3451
                  refine Shift.done ?_
                  exact ⟨[(4, (.pointer (some ((⟨b878, 0, none⟩ : Addr).add 0)))), (5, (.pointer (some ((⟨b879, 0, none⟩ : Addr).add 0)))), (7, (.pointer (some ((⟨b893, 0, none⟩ : Addr).add 0)))), (8, (sv v900)), (9, (.pointer (some ((⟨b916, 0, none⟩ : Addr).add 0)))), (10, (.int .i64 i2628)), (11, (.pointer (some ((⟨b3454, 0, none⟩ : Addr).add 0)))), (12, (.pointer (some ((⟨b3435, 0, none⟩ : Addr).add 0))))], ⟨rfl, rfl, rfl, rfl, rfl, rfl, rfl, rfl, trivial⟩, b3454, b3435, x3289.kind, x3289.mode, x3289.channel, x3289.value, x3289.deadline, v3448, x3289.cases, v3449, x3289.draws, x3276.kind, x3276.mode, x3276.channel, x3276.value, x3276.deadline, v3439, x3276.cases, v3440, x3276.draws, x3290, x3291, rfl, rfl, H, hs3452, hs3453, hs3455, hs3456⟩
                · skip
                  refine id (Ax_mk rfl rfl ?_)
                  refine OpW_alloc (cs := (Op.cells (Op.mk 0 0 0 0 0 [] []) nilS nilS)) rfl rfl rfl rfl (fun b3457 => ⟨(Inc.cons (.tail _ (.tail _ (.tail _ (.head _)))) (Inc.cons (.tail _ (.tail _ (.tail _ (.tail _ (.head _))))) (Inc.cons (.tail _ (.tail _ (.tail _ (.tail _ (.tail _ (.head _)))))) (Inc.cons (.tail _ (.tail _ (.tail _ (.tail _ (.tail _ (.tail _ (.head _))))))) (Inc.cons (.tail _ (.tail _ (.tail _ (.tail _ (.tail _ (.tail _ (.tail _ (.head _)))))))) (Inc.cons (.tail _ (.tail _ (.tail _ (.tail _ (.tail _ (.tail _ (.tail _ (.tail _ (.head _))))))))) Inc.nil)))))), ?_⟩)
                  refine Aw_one 5 (by kernel_rfl) (Ax_mk rfl rfl ?_)
                  refine OpW.shift (Shift.pull (.there .here) (Shift.done ?_))
                  have hs3458 := (hs3436).mono hK3442
                  have hs3459 := (hs3437).mono hK3442
                  have hs3460 := (hs3438).mono hK3442
                  refine OpW_call rfl Try.call17 rfl rfl (c_M_draw_Codes_Op b893 (Draw_Codes.mk x890.list x3277 x3278) v894 x908 v910 v911 x3289 x3290 x3291 hx3292 _ _ hs3458 hs3459 hs3460) ?_
                  rintro _ K3463 _ hK3464 ⟨v3461, v3462, rfl, rfl, hs3465, hs3466⟩
                  refine ⟨(Inc.cons (.tail _ (.tail _ (.tail _ (.head _)))) (Inc.cons (.tail _ (.tail _ (.tail _ (.tail _ (.head _))))) (Inc.cons (.tail _ (.tail _ (.tail _ (.tail _ (.tail _ (.head _)))))) (Inc.cons (.tail _ (.tail _ (.tail _ (.tail _ (.tail _ (.tail _ (.head _))))))) (Inc.cons (.tail _ (.tail _ (.tail _ (.tail _ (.tail _ (.tail _ (.tail _ (.head _)))))))) (Inc.cons (.tail _ (.tail _ (.tail _ (.tail _ (.tail _ (.tail _ (.tail _ (.tail _ (.head _))))))))) Inc.nil)))))), ?_⟩
                  refine Aw_one 8 (by kernel_rfl) (Ax_mk rfl rfl ?_)
                  refine OpW_store (vs := (Op.cells x3276 v3439 v3440)) (all' := (Op.cells x3276 v3439 v3440)) rfl rfl rfl rfl rfl (.there .here) rfl rfl rfl ⟨(Inc.cons (.tail _ (.tail _ (.tail _ (.head _)))) (Inc.cons (.tail _ (.tail _ (.tail _ (.tail _ (.head _))))) (Inc.cons (.tail _ (.tail _ (.tail _ (.tail _ (.tail _ (.head _)))))) (Inc.cons (.tail _ (.tail _ (.tail _ (.tail _ (.tail _ (.tail _ (.head _))))))) (Inc.cons (.tail _ (.tail _ (.tail _ (.tail _ (.tail _ (.tail _ (.tail _ (.head _)))))))) (Inc.cons (.tail _ (.tail _ (.tail _ (.tail _ (.tail _ (.tail _ (.tail _ (.tail _ (.head _))))))))) Inc.nil)))))), ?_⟩
                  refine Aw_one 9 (by kernel_rfl) (Ax_mk rfl rfl ?_)
                  refine OpW_store (vs := (Op.cells x3289 v3461 v3462)) (all' := (Op.cells x3289 v3461 v3462)) rfl rfl rfl rfl rfl (.there (.there .here)) rfl rfl rfl ⟨(Inc.cons (.tail _ (.tail _ (.tail _ (.head _)))) (Inc.cons (.tail _ (.tail _ (.tail _ (.tail _ (.head _))))) (Inc.cons (.tail _ (.tail _ (.tail _ (.tail _ (.tail _ (.head _)))))) (Inc.cons (.tail _ (.tail _ (.tail _ (.tail _ (.tail _ (.tail _ (.head _))))))) (Inc.cons (.tail _ (.tail _ (.tail _ (.tail _ (.tail _ (.tail _ (.tail _ (.head _)))))))) (Inc.cons (.tail _ (.tail _ (.tail _ (.tail _ (.tail _ (.tail _ (.tail _ (.tail _ (.head _))))))))) Inc.nil)))))), ?_⟩
                  refine Aw_done (by kernel_rfl) ?_
                  refine Shift.pull (.there (.there (.there (.there (.there (.there (.there (.there .here)))))))) ?_
                  refine Shift.pull (.there (.there (.there (.there (.there (.there (.there (.there .here)))))))) ?_
                  refine Shift.pull (.there (.there (.there (.there (.there (.there (.there (.there .here)))))))) ?_
                  refine Shift.pull (.there (.there (.there (.there (.there (.there (.there (.there .here)))))))) ?_
                  refine Shift.pull (.there (.there (.there (.there (.there (.there (.there (.there .here)))))))) ?_
                  refine Shift.pull (.there (.there (.there (.there (.there .here))))) ?_
                  refine Shift.pull (.there (.there (.there (.there (.there (.there (.there (.there .here)))))))) ?_
                  refine Shift.pull (.there (.there (.there (.there (.there (.there (.there .here))))))) ?_
                  refine Shift.pull (.there (.there (.there (.there (.there (.there (.there (.there .here)))))))) ?_
                  have hs3467 := (hs3443).mono hK3464
                  have hs3468 := (hs3444).mono hK3464
                  refine Shift.done ?_
                  exact ⟨[(4, (.pointer (some ((⟨b878, 0, none⟩ : Addr).add 0)))), (5, (.pointer (some ((⟨b879, 0, none⟩ : Addr).add 0)))), (7, (.pointer (some ((⟨b893, 0, none⟩ : Addr).add 0)))), (8, (sv v900)), (9, (.pointer (some ((⟨b916, 0, none⟩ : Addr).add 0)))), (10, (.int .i64 i2628)), (11, (.pointer (some ((⟨b3457, 0, none⟩ : Addr).add 0)))), (12, (.pointer (some ((⟨b3435, 0, none⟩ : Addr).add 0))))], ⟨rfl, rfl, rfl, rfl, rfl, rfl, rfl, rfl, trivial⟩, b3457, b3435, x3289.kind, x3289.mode, x3289.channel, x3289.value, x3289.deadline, v3461, x3289.cases, v3462, x3289.draws, x3276.kind, x3276.mode, x3276.channel, x3276.value, x3276.deadline, v3439, x3276.cases, v3440, x3276.draws, x3290, x3291, rfl, rfl, H, hs3465, hs3466, hs3467, hs3468⟩
              · skip
                refine id (Ax_mk rfl rfl ?_)
                refine OpW_alloc (cs := (Op.cells (Op.mk 0 0 0 0 0 [] []) nilS nilS)) rfl rfl rfl rfl (fun b3469 => ⟨(Inc.cons (.tail _ (.tail _ (.head _))) (Inc.cons (.tail _ (.tail _ (.tail _ (.tail _ (.head _))))) (Inc.cons (.tail _ (.tail _ (.tail _ (.tail _ (.tail _ (.head _)))))) (Inc.cons (.tail _ (.tail _ (.tail _ (.tail _ (.tail _ (.tail _ (.head _))))))) (Inc.cons (.tail _ (.tail _ (.tail _ (.tail _ (.tail _ (.tail _ (.tail _ (.head _)))))))) (Inc.cons (.tail _ (.tail _ (.tail _ (.tail _ (.tail _ (.tail _ (.tail _ (.tail _ (.head _))))))))) Inc.nil)))))), ?_⟩)
                refine Aw_one 2 (by kernel_rfl) (Ax_mk rfl rfl ?_)
                refine OpW.shift (Shift.pull (.there (.there (.there .here))) (Shift.done ?_))
                have hs3470 := ((((hs895).mono hK903).mono hK906).mono hK913).mono hK2633
                have hs3471 := (hs914).mono hK2633
                have hs3472 := (hs915).mono hK2633
                refine OpW_call rfl Try.call17 rfl rfl (c_M_draw_Codes_Op b893 (Draw_Codes.mk x890.list i2629 i2630) v894 x908 v910 v911 x3276 x3277 x3278 hx3279 _ _ hs3470 hs3471 hs3472) ?_
                rintro _ K3475 _ hK3476 ⟨v3473, v3474, rfl, rfl, hs3477, hs3478⟩
                refine ⟨(Inc.cons (.tail _ (.tail _ (.tail _ (.head _)))) (Inc.cons (.tail _ (.tail _ (.tail _ (.tail _ (.head _))))) (Inc.cons (.tail _ (.tail _ (.tail _ (.tail _ (.tail _ (.head _)))))) (Inc.cons (.tail _ (.tail _ (.tail _ (.tail _ (.tail _ (.tail _ (.head _))))))) (Inc.cons (.tail _ (.tail _ (.tail _ (.tail _ (.tail _ (.tail _ (.tail _ (.head _)))))))) (Inc.cons (.tail _ (.tail _ (.tail _ (.tail _ (.tail _ (.tail _ (.tail _ (.tail _ (.head _))))))))) Inc.nil)))))), ?_⟩
                refine Aw_one 5 (by kernel_rfl) (Ax_mk rfl rfl ?_)
                have hs3479 := (hs3470).mono hK3476
                have hs3480 := (hs3471).mono hK3476
                have hs3481 := (hs3472).mono hK3476
                refine OpW_call rfl Try.call17 rfl rfl (c_M_draw_Codes_Op b893 (Draw_Codes.mk x890.list x3277 x3278) v894 x908 v910 v911 x3289 x3290 x3291 hx3292 _ _ hs3479 hs3480 hs3481) ?_
                rintro _ K3484 _ hK3485 ⟨v3482, v3483, rfl, rfl, hs3486, hs3487⟩
                refine ⟨(Inc.cons (.tail _ (.tail _ (.tail _ (.head _)))) (Inc.cons (.tail _ (.tail _ (.tail _ (.tail _ (.head _))))) (Inc.cons (.tail _ (.tail _ (.tail _ (.tail _ (.tail _ (.head _)))))) (Inc.cons (.tail _ (.tail _ (.tail _ (.tail _ (.tail _ (.tail _ (.head _))))))) (Inc.cons (.tail _ (.tail _ (.tail _ (.tail _ (.tail _ (.tail _ (.tail _ (.head _)))))))) (Inc.cons (.tail _ (.tail _ (.tail _ (.tail _ (.tail _ (.tail _ (.tail _ (.tail _ (.head _))))))))) Inc.nil)))))), ?_⟩
                refine Aw_one 8 (by kernel_rfl) (Ax_mk rfl rfl ?_)
                refine OpW_store (vs := (Op.cells x3276 v3473 v3474)) (all' := (Op.cells x3276 v3473 v3474)) rfl rfl rfl rfl rfl (.there .here) rfl rfl rfl ⟨(Inc.cons (.tail _ (.tail _ (.tail _ (.head _)))) (Inc.cons (.tail _ (.tail _ (.tail _ (.tail _ (.head _))))) (Inc.cons (.tail _ (.tail _ (.tail _ (.tail _ (.tail _ (.head _)))))) (Inc.cons (.tail _ (.tail _ (.tail _ (.tail _ (.tail _ (.tail _ (.head _))))))) (Inc.cons (.tail _ (.tail _ (.tail _ (.tail _ (.tail _ (.tail _ (.tail _ (.head _)))))))) (Inc.cons (.tail _ (.tail _ (.tail _ (.tail _ (.tail _ (.tail _ (.tail _ (.tail _ (.head _))))))))) Inc.nil)))))), ?_⟩
                refine Aw_one 9 (by kernel_rfl) (Ax_mk rfl rfl ?_)
                refine OpW_store (vs := (Op.cells x3289 v3482 v3483)) (all' := (Op.cells x3289 v3482 v3483)) rfl rfl rfl rfl rfl (.there (.there .here)) rfl rfl rfl ⟨(Inc.cons (.tail _ (.tail _ (.tail _ (.head _)))) (Inc.cons (.tail _ (.tail _ (.tail _ (.tail _ (.head _))))) (Inc.cons (.tail _ (.tail _ (.tail _ (.tail _ (.tail _ (.head _)))))) (Inc.cons (.tail _ (.tail _ (.tail _ (.tail _ (.tail _ (.tail _ (.head _))))))) (Inc.cons (.tail _ (.tail _ (.tail _ (.tail _ (.tail _ (.tail _ (.tail _ (.head _)))))))) (Inc.cons (.tail _ (.tail _ (.tail _ (.tail _ (.tail _ (.tail _ (.tail _ (.tail _ (.head _))))))))) Inc.nil)))))), ?_⟩
                refine Aw_done (by kernel_rfl) ?_
                refine Shift.pull (.there (.there (.there (.there (.there (.there (.there (.there .here)))))))) ?_
                refine Shift.pull (.there (.there (.there (.there (.there (.there (.there (.there .here)))))))) ?_
                refine Shift.pull (.there (.there (.there (.there (.there (.there (.there (.there .here)))))))) ?_
                refine Shift.pull (.there (.there (.there (.there (.there (.there (.there (.there .here)))))))) ?_
                refine Shift.pull (.there (.there (.there (.there (.there (.there (.there (.there .here)))))))) ?_
                refine Shift.pull (.there (.there (.there (.there (.there .here))))) ?_
                refine Shift.pull (.there (.there (.there (.there (.there (.there (.there (.there .here)))))))) ?_
                refine Shift.pull (.there (.there (.there (.there (.there (.there (.there .here))))))) ?_
                refine Shift.pull (.there (.there (.there (.there (.there (.there (.there (.there .here)))))))) ?_
                have hs3488 := (hs3477).mono hK3485
                have hs3489 := (hs3478).mono hK3485
                refine Shift.done ?_
                exact ⟨[(4, (.pointer (some ((⟨b878, 0, none⟩ : Addr).add 0)))), (5, (.pointer (some ((⟨b879, 0, none⟩ : Addr).add 0)))), (7, (.pointer (some ((⟨b893, 0, none⟩ : Addr).add 0)))), (8, (sv v900)), (9, (.pointer (some ((⟨b916, 0, none⟩ : Addr).add 0)))), (10, (.int .i64 i2628)), (11, (.pointer (some ((⟨b3469, 0, none⟩ : Addr).add 0)))), (12, (.pointer (some ((⟨b3435, 0, none⟩ : Addr).add 0))))], ⟨rfl, rfl, rfl, rfl, rfl, rfl, rfl, rfl, trivial⟩, b3469, b3435, x3289.kind, x3289.mode, x3289.channel, x3289.value, x3289.deadline, v3482, x3289.cases, v3483, x3289.draws, x3276.kind, x3276.mode, x3276.channel, x3276.value, x3276.deadline, v3473, x3276.cases, v3474, x3276.draws, x3290, x3291, rfl, rfl, H, hs3486, hs3487, hs3488, hs3489⟩
          rintro _ K3490 _ hK3491 ⟨b3250, b3251, i3252, i3253, i3254, i3255, i3256, v3257, l3258, v3260, l3261, i3263, i3264, i3265, i3266, i3267, v3268, l3269, v3271, l3272, i3274, i3275, rfl, rfl, H, hs3259, hs3262, hs3270, hs3273⟩
          unfold M_law14_ModelPairs_J3 at H
          refine Cw_join (fun env' K' G' => [(4, (.pointer (some ((⟨b878, 0, none⟩ : Addr).add 0)))), (5, (.pointer (some ((⟨b879, 0, none⟩ : Addr).add 0)))), (7, (.pointer (some ((⟨b893, 0, none⟩ : Addr).add 0)))), (8, (sv v900)), (9, (.pointer (some ((⟨b916, 0, none⟩ : Addr).add 0)))), (10, (.int .i64 i2628)), (11, (.pointer (some ((⟨b3250, 0, none⟩ : Addr).add 0)))), (12, (.pointer (some ((⟨b3251, 0, none⟩ : Addr).add 0))))] = env' ∧ (.blk b3251 38 (Op.cells (Op.mk i3252 i3253 i3254 i3255 i3256 l3258 l3261) v3257 v3260)) :: (.blk b3250 38 (Op.cells (Op.mk i3263 i3264 i3265 i3266 i3267 l3269 l3272) v3268 v3271)) :: (.blk b916 34 (Config.cells x908 v910 v911)) :: (.blk b893 85 (Draw_Codes.cells (Draw_Codes.mk x890.list i3274 i3275) v894)) :: (.blk b879 25 (Result.cells p2)) :: (.blk b878 25 (Result.cells p1)) :: (.tok 3 1 [(sv v910)]) :: (.tok 23 1 [(sv v911)]) :: (.tok 83 3 [(sv v900)]) :: G = G' ∧ M_law14_ModelPairs_J4 x896 i2628 i3252 i3253 i3254 i3255 i3256 l3258 l3261 i3263 i3264 i3265 i3266 i3267 l3269 l3272 x908 x890 i3274 i3275 p2 p1 k2635 = some y0) ?_ ?_
          · skip
            refine Cw_seq ?_
            refine Cw_region ?_
            refine Ow_q rfl rfl rfl (Qt_move rfl) ?_
            refine Ow_q rfl rfl rfl (Qt_loadA (m := 7) (cs := (Op.cells (Op.mk i3263 i3264 i3265 i3266 i3267 l3269 l3272) v3268 v3271)) rfl rfl rfl rfl ⟨rfl, Rdc.blk (.tail _ (.head _)) rfl⟩) ?_
            refine Ow_q rfl rfl rfl (Qt_loadA (m := 7) (cs := (Op.cells (Op.mk i3252 i3253 i3254 i3255 i3256 l3258 l3261) v3257 v3260)) rfl rfl rfl rfl ⟨rfl, Rdc.blk (.head _) rfl⟩) ?_
            obtain ⟨x3575, hx3576, H⟩ := bnd H
            have hs3577 := (((hs907).mono hK913).mono hK2633).mono hK3491
            refine Ow_cons rfl (OpW_call rfl Try.call22 rfl rfl (c_M_ref14_Meeting x896 v900 (Op.mk i3263 i3264 i3265 i3266 i3267 l3269 l3272) v3268 v3271 (Op.mk i3252 i3253 i3254 i3255 i3256 l3258 l3261) v3257 v3260 x3575 hx3576 _ _ hs3577 hs3270 hs3273 hs3259 hs3262) ?_)
            rintro _ K3579 _ hK3580 ⟨v3578, rfl, rfl, hs3581⟩
            refine Ow_q rfl rfl rfl (Q_len (T := TyA2Result) hs3581 rfl rfl) ?_
            refine Ow_q rfl rfl rfl (Qt_move rfl) ?_
            refine Ow_nil ?_
            refine Cw_block ?_
            refine Cw_loopM (fun n3658 env' K' G' => ∃ (i3657 : Int), [(4, (.pointer (some ((⟨b878, 0, none⟩ : Addr).add 0)))), (5, (.pointer (some ((⟨b879, 0, none⟩ : Addr).add 0)))), (7, (.pointer (some ((⟨b893, 0, none⟩ : Addr).add 0)))), (8, (sv v900)), (9, (.pointer (some ((⟨b916, 0, none⟩ : Addr).add 0)))), (10, (.int .i64 i2628)), (11, (.pointer (some ((⟨b3250, 0, none⟩ : Addr).add 0)))), (12, (.pointer (some ((⟨b3251, 0, none⟩ : Addr).add 0)))), (38, (sv v3578)), (39, (.int .i64 (x3575.length : Int))), (40, (.int .i64 i3657))] = env' ∧ K3579 = K' ∧ (.blk b3251 38 (Op.cells (Op.mk i3252 i3253 i3254 i3255 i3256 l3258 l3261) v3257 v3260)) :: (.blk b3250 38 (Op.cells (Op.mk i3263 i3264 i3265 i3266 i3267 l3269 l3272) v3268 v3271)) :: (.blk b916 34 (Config.cells x908 v910 v911)) :: (.blk b893 85 (Draw_Codes.cells (Draw_Codes.mk x890.list i3274 i3275) v894)) :: (.blk b879 25 (Result.cells p2)) :: (.blk b878 25 (Result.cells p1)) :: (.tok 48 10 [(sv v3578)]) :: (.tok 3 1 [(sv v910)]) :: (.tok 23 1 [(sv v911)]) :: (.tok 83 3 [(sv v900)]) :: G = G' ∧ lp1 (M_law14_ModelPairs_L2 x896 i2628 x3575 i3252 i3253 i3254 i3255 i3256 l3258 l3261 i3263 i3264 i3265 i3266 i3267 l3269 l3272 x908 x890 i3274 i3275 p2 p1 k2635) n3658 i3657 = some y0) BIG ?_ ?_
            · skip
              refine Shift.pull (.there (.there (.there (.there (.there (.there (.there (.there (.there .here))))))))) ?_
              refine Shift.pull (.there (.there (.there (.there (.there (.there (.there (.there (.there .here))))))))) ?_
              refine Shift.pull (.there (.there (.there (.there (.there (.there (.there (.there (.there .here))))))))) ?_
              refine Shift.pull (.there (.there (.there .here))) ?_
              refine Shift.pull (.there (.there (.there (.there (.there (.there (.there (.there (.there .here))))))))) ?_
              refine Shift.pull (.there (.there (.there (.there (.there (.there (.there (.there (.there .here))))))))) ?_
              refine Shift.pull (.there (.there (.there (.there (.there (.there (.there (.there (.there .here))))))))) ?_
              refine Shift.pull (.there (.there (.there (.there (.there (.there (.there (.there (.there .here))))))))) ?_
              refine Shift.pull (.there (.there (.there (.there (.there (.there (.there (.there (.there .here))))))))) ?_
              refine Shift.pull (.there (.there (.there (.there (.there (.there (.there (.there (.there .here))))))))) ?_
              refine Shift.done ?_
              exact ⟨[(4, (.pointer (some ((⟨b878, 0, none⟩ : Addr).add 0)))), (5, (.pointer (some ((⟨b879, 0, none⟩ : Addr).add 0)))), (7, (.pointer (some ((⟨b893, 0, none⟩ : Addr).add 0)))), (8, (sv v900)), (9, (.pointer (some ((⟨b916, 0, none⟩ : Addr).add 0)))), (10, (.int .i64 i2628)), (11, (.pointer (some ((⟨b3250, 0, none⟩ : Addr).add 0)))), (12, (.pointer (some ((⟨b3251, 0, none⟩ : Addr).add 0)))), (38, (sv v3578)), (39, (.int .i64 (x3575.length : Int))), (40, (.int .i64 0))], ⟨rfl, rfl, rfl, rfl, rfl, rfl, rfl, rfl, rfl, rfl, rfl, trivial⟩, 0, rfl, rfl, rfl, H⟩
            rintro n3658 _ _ _ - ⟨i3657, rfl, rfl, rfl, H⟩
            obtain ⟨m3659, k3660, rfl, hkk3661, H⟩ := lps1 H
            unfold M_law14_ModelPairs_L2 at H
            refine Cw_seq ?_
            refine Cw_region ?_
            refine Ow_q rfl rfl rfl (Qt_cmp rfl rfl rfl) ?_
            refine Ow_nil ?_
            refine Cw_seq ?_
            refine Cw_cond rfl ?_ ?_
            · intro h3663
              have h3663 := dcd_t (h3663)
              have H := ift h3663 H
              refine Cw_skip ?_
              refine Cw_seq ?_
              refine Cw_block ?_
              refine Cw_seq ?_
              refine Cw_region ?_
              obtain ⟨x3697, hx3698, H⟩ := bnd H
              obtain ⟨r3699, hr3700, hk3701⟩ := Slr.at hs3581 hx3698
              obtain rfl := hr3700
              refine Ow_q rfl rfl rfl (Q_ix (T := TyA2Result) hs3581 hx3698 rfl rfl rfl rfl rfl) ?_
              refine Ow_q rfl rfl rfl (Qt_loadA (m := 10) (cs := (A2Result.cells x3697)) rfl rfl rfl rfl ⟨rfl, Rdc.k hk3701 rfl⟩) ?_
              refine Ow_cons rfl (OpW_alloc (cs := (A2Result.cells (A2Result.mk (Result.mk 0 0 0 false 0) (Result.mk 0 0 0 false 0)))) rfl rfl rfl rfl (fun b3702 => ?_))
              refine Ow_cons rfl (OpW_store (vs := (A2Result.cells x3697)) (all' := (A2Result.cells x3697)) rfl rfl rfl rfl rfl .here rfl rfl rfl ?_)
              refine Ow_nil ?_
              refine Cw_seq ?_
              refine Cw_join (fun env' K' G' => ∃ (t3725 : Bool), [(4, (.pointer (some ((⟨b878, 0, none⟩ : Addr).add 0)))), (5, (.pointer (some ((⟨b879, 0, none⟩ : Addr).add 0)))), (7, (.pointer (some ((⟨b893, 0, none⟩ : Addr).add 0)))), (8, (sv v900)), (9, (.pointer (some ((⟨b916, 0, none⟩ : Addr).add 0)))), (10, (.int .i64 i2628)), (11, (.pointer (some ((⟨b3250, 0, none⟩ : Addr).add 0)))), (12, (.pointer (some ((⟨b3251, 0, none⟩ : Addr).add 0)))), (14, (.pointer (some ((⟨b3702, 0, none⟩ : Addr).add 0)))), (38, (sv v3578)), (39, (.int .i64 (x3575.length : Int))), (40, (.int .i64 i3657)), (63, (.bool t3725))] = env' ∧ K3579 = K' ∧ (.blk b3702 48 (A2Result.cells x3697)) :: (.blk b3251 38 (Op.cells (Op.mk i3252 i3253 i3254 i3255 i3256 l3258 l3261) v3257 v3260)) :: (.blk b3250 38 (Op.cells (Op.mk i3263 i3264 i3265 i3266 i3267 l3269 l3272) v3268 v3271)) :: (.blk b916 34 (Config.cells x908 v910 v911)) :: (.blk b893 85 (Draw_Codes.cells (Draw_Codes.mk x890.list i3274 i3275) v894)) :: (.blk b879 25 (Result.cells p2)) :: (.blk b878 25 (Result.cells p1)) :: (.tok 48 10 [(sv v3578)]) :: (.tok 3 1 [(sv v910)]) :: (.tok 23 1 [(sv v911)]) :: (.tok 83 3 [(sv v900)]) :: G = G' ∧ M_law14_ModelPairs_J5 x896 i2628 x3575 i3657 x3697 i3252 i3253 i3254 i3255 i3256 l3258 l3261 i3263 i3264 i3265 i3266 i3267 l3269 l3272 x908 x890 i3274 i3275 p2 p1 k2635 k3660 t3725 = some y0) ?_ ?_
              · skip
                refine Cw_region ?_
                refine Ow_q rfl rfl rfl (Qt_move rfl) ?_
                refine Ow_q rfl rfl rfl (Qt_loadA (m := 7) (cs := (Op.cells (Op.mk i3263 i3264 i3265 i3266 i3267 l3269 l3272) v3268 v3271)) rfl rfl rfl rfl ⟨rfl, Rdc.blk (.tail _ (.tail _ (.head _))) rfl⟩) ?_
                refine Ow_q rfl rfl rfl (Qt_ixArr (q := 0) (m := 0) rfl rfl rfl rfl rfl (by decide) rfl (by decide)) ?_
                refine Ow_q rfl rfl rfl (Qt_loadA (m := 5) (cs := (Result.cells x3697.x0)) rfl rfl rfl rfl ⟨rfl, Rdc.blk (.head _) rfl⟩) ?_
                refine Ow_q rfl rfl rfl (Qt_loadA (m := 7) (cs := (Op.cells (Op.mk i3252 i3253 i3254 i3255 i3256 l3258 l3261) v3257 v3260)) rfl rfl rfl rfl ⟨rfl, Rdc.blk (.tail _ (.head _)) rfl⟩) ?_
                refine Ow_q rfl rfl rfl (Qt_ixArr (q := 1) (m := 5) rfl rfl rfl rfl rfl (by decide) rfl (by decide)) ?_
                refine Ow_q rfl rfl rfl (Qt_loadA (m := 5) (cs := (Result.cells x3697.x1)) rfl rfl rfl rfl ⟨rfl, Rdc.blk (.head _) rfl⟩) ?_
                obtain ⟨x3726, hx3727, H⟩ := bnd H
                have hs3728 := (hs3577).mono hK3580
                have hs3729 := (hs3270).mono hK3580
                have hs3730 := (hs3273).mono hK3580
                have hs3731 := (hs3259).mono hK3580
                have hs3732 := (hs3262).mono hK3580
                refine Ow_cons rfl (OpW_call rfl Try.call23 rfl rfl (c_M_model_Pair x896 v900 (Op.mk i3263 i3264 i3265 i3266 i3267 l3269 l3272) v3268 v3271 x3697.x0 (Op.mk i3252 i3253 i3254 i3255 i3256 l3258 l3261) v3257 v3260 x3697.x1 x3726 hx3727 _ _ hs3728 hs3729 hs3730 hs3731 hs3732) ?_)
                rintro _ _ _ - ⟨rfl, rfl, rfl⟩
                refine Ow_q rfl rfl rfl (Qt_not rfl) ?_
                refine Ow_q rfl rfl rfl (Qt_move rfl) ?_
                refine Ow_caseG rfl rfl rfl ?_ ?_
                · intro h3733
                  have h3733 := nt_t (h3733)
                  have H := iff_ (btf h3733) H
                  refine Ow_pass rfl rfl rfl rfl rfl rfl rfl ?_
                  refine Ow_pass rfl rfl rfl rfl rfl rfl rfl ?_
                  refine Ow_pass rfl rfl rfl rfl rfl rfl rfl ?_
                  refine Ow_pass rfl rfl rfl rfl rfl rfl rfl ?_
                  refine Ow_pass rfl rfl rfl rfl rfl rfl rfl ?_
                  refine Ow_pass rfl rfl rfl rfl rfl rfl rfl ?_
                  refine Ow_pass rfl rfl rfl rfl rfl rfl rfl ?_
                  refine Ow_pass rfl rfl rfl rfl rfl rfl rfl ?_
                  refine Ow_pass rfl rfl rfl rfl rfl rfl rfl ?_
                  refine Ow_q rfl rfl rfl (Qt_pick_t rfl rfl) ?_
                  refine Ow_nil ?_
                  refine Shift.pull (.there (.there (.there (.there (.there (.there (.there (.there (.there (.there .here)))))))))) ?_
                  refine Shift.pull (.there (.there (.there (.there (.there (.there (.there (.there (.there (.there .here)))))))))) ?_
                  refine Shift.pull (.there (.there (.there (.there (.there (.there (.there (.there (.there (.there .here)))))))))) ?_
                  refine Shift.pull (.there (.there (.there (.there (.there (.there (.there (.there (.there (.there .here)))))))))) ?_
                  refine Shift.pull (.there (.there (.there (.there (.there (.there (.there (.there (.there (.there .here)))))))))) ?_
                  refine Shift.pull (.there (.there (.there (.there (.there (.there (.there (.there (.there (.there .here)))))))))) ?_
                  refine Shift.pull (.there (.there (.there (.there (.there (.there (.there (.there (.there (.there .here)))))))))) ?_
                  refine Shift.pull (.there (.there (.there (.there (.there (.there (.there (.there (.there (.there .here)))))))))) ?_
                  refine Shift.pull (.there (.there (.there (.there (.there (.there (.there (.there (.there (.there .here)))))))))) ?_
                  refine Shift.pull (.there (.there (.there (.there (.there (.there (.there (.there (.there (.there .here)))))))))) ?_
                  refine Shift.pull (.there (.there (.there (.there (.there (.there (.there (.there (.there (.there .here)))))))))) ?_
                  refine Shift.done ?_
                  exact ⟨[(4, (.pointer (some ((⟨b878, 0, none⟩ : Addr).add 0)))), (5, (.pointer (some ((⟨b879, 0, none⟩ : Addr).add 0)))), (7, (.pointer (some ((⟨b893, 0, none⟩ : Addr).add 0)))), (8, (sv v900)), (9, (.pointer (some ((⟨b916, 0, none⟩ : Addr).add 0)))), (10, (.int .i64 i2628)), (11, (.pointer (some ((⟨b3250, 0, none⟩ : Addr).add 0)))), (12, (.pointer (some ((⟨b3251, 0, none⟩ : Addr).add 0)))), (14, (.pointer (some ((⟨b3702, 0, none⟩ : Addr).add 0)))), (38, (sv v3578)), (39, (.int .i64 (x3575.length : Int))), (40, (.int .i64 i3657)), (63, (.bool true))], ⟨rfl, rfl, rfl, rfl, rfl, rfl, rfl, rfl, rfl, rfl, rfl, rfl, rfl, trivial⟩, true, rfl, rfl, rfl, H⟩
                · intro h3733
                  have h3733 := nt_f (h3733)
                  have H := ift h3733 H
                  refine Ow_qw rfl rfl rfl rfl rfl rfl (Qt_move rfl) ?_
                  refine Ow_qw rfl rfl rfl rfl rfl rfl (Qt_loadA (m := 7) (cs := (Op.cells (Op.mk i3252 i3253 i3254 i3255 i3256 l3258 l3261) v3257 v3260)) rfl rfl rfl rfl ⟨rfl, Rdc.blk (.tail _ (.head _)) rfl⟩) ?_
                  refine Ow_qw rfl rfl rfl rfl rfl rfl (Qt_ixArr (q := 1) (m := 5) rfl rfl rfl rfl rfl (by decide) rfl (by decide)) ?_
                  refine Ow_qw rfl rfl rfl rfl rfl rfl (Qt_loadA (m := 5) (cs := (Result.cells x3697.x1)) rfl rfl rfl rfl ⟨rfl, Rdc.blk (.head _) rfl⟩) ?_
                  refine Ow_qw rfl rfl rfl rfl rfl rfl (Qt_loadA (m := 7) (cs := (Op.cells (Op.mk i3263 i3264 i3265 i3266 i3267 l3269 l3272) v3268 v3271)) rfl rfl rfl rfl ⟨rfl, Rdc.blk (.tail _ (.tail _ (.head _))) rfl⟩) ?_
                  refine Ow_qw rfl rfl rfl rfl rfl rfl (Qt_ixArr (q := 0) (m := 0) rfl rfl rfl rfl rfl (by decide) rfl (by decide)) ?_
                  refine Ow_qw rfl rfl rfl rfl rfl rfl (Qt_loadA (m := 5) (cs := (Result.cells x3697.x0)) rfl rfl rfl rfl ⟨rfl, Rdc.blk (.head _) rfl⟩) ?_
                  obtain ⟨x3734, hx3735, H⟩ := bnd H
                  refine Ow_want rfl rfl rfl rfl (OpW_call rfl Try.call23 rfl rfl (c_M_model_Pair x896 v900 (Op.mk i3252 i3253 i3254 i3255 i3256 l3258 l3261) v3257 v3260 x3697.x1 (Op.mk i3263 i3264 i3265 i3266 i3267 l3269 l3272) v3268 v3271 x3697.x0 x3734 hx3735 _ _ hs3728 hs3731 hs3732 hs3729 hs3730) ?_)
                  rintro _ _ _ - ⟨rfl, rfl, rfl⟩
                  refine Ow_qw rfl rfl rfl rfl rfl rfl (Qt_not rfl) ?_
                  refine Ow_q rfl rfl rfl (Qt_pick_f rfl rfl) ?_
                  refine Ow_nil ?_
                  refine Shift.pull (.there (.there (.there (.there (.there (.there (.there (.there (.there (.there .here)))))))))) ?_
                  refine Shift.pull (.there (.there (.there (.there (.there (.there (.there (.there (.there (.there .here)))))))))) ?_
                  refine Shift.pull (.there (.there (.there (.there (.there (.there (.there (.there (.there (.there .here)))))))))) ?_
                  refine Shift.pull (.there (.there (.there (.there (.there (.there (.there (.there (.there (.there .here)))))))))) ?_
                  refine Shift.pull (.there (.there (.there (.there (.there (.there (.there (.there (.there (.there .here)))))))))) ?_
                  refine Shift.pull (.there (.there (.there (.there (.there (.there (.there (.there (.there (.there .here)))))))))) ?_
                  refine Shift.pull (.there (.there (.there (.there (.there (.there (.there (.there (.there (.there .here)))))))))) ?_
                  refine Shift.pull (.there (.there (.there (.there (.there (.there (.there (.there (.there (.there .here)))))))))) ?_
                  refine Shift.pull (.there (.there (.there (.there (.there (.there (.there (.there (.there (.there .here)))))))))) ?_
                  refine Shift.pull (.there (.there (.there (.there (.there (.there (.there (.there (.there (.there .here)))))))))) ?_
                  refine Shift.pull (.there (.there (.there (.there (.there (.there (.there (.there (.there (.there .here)))))))))) ?_
                  refine Shift.done ?_
                  exact ⟨[(4, (.pointer (some ((⟨b878, 0, none⟩ : Addr).add 0)))), (5, (.pointer (some ((⟨b879, 0, none⟩ : Addr).add 0)))), (7, (.pointer (some ((⟨b893, 0, none⟩ : Addr).add 0)))), (8, (sv v900)), (9, (.pointer (some ((⟨b916, 0, none⟩ : Addr).add 0)))), (10, (.int .i64 i2628)), (11, (.pointer (some ((⟨b3250, 0, none⟩ : Addr).add 0)))), (12, (.pointer (some ((⟨b3251, 0, none⟩ : Addr).add 0)))), (14, (.pointer (some ((⟨b3702, 0, none⟩ : Addr).add 0)))), (38, (sv v3578)), (39, (.int .i64 (x3575.length : Int))), (40, (.int .i64 i3657)), (63, (.bool (!(x3734))))], ⟨rfl, rfl, rfl, rfl, rfl, rfl, rfl, rfl, rfl, rfl, rfl, rfl, rfl, trivial⟩, (!(x3734)), rfl, rfl, rfl, H⟩
              rintro _ _ _ - ⟨t3725, rfl, rfl, rfl, H⟩
              unfold M_law14_ModelPairs_J5 at H
              refine Cw_cond rfl ?_ ?_
              · intro h3736
                have H := ift h3736 H
                refine Cw_seq ?_
                refine Cw_region ?_
                refine Ow_q rfl rfl rfl (Qt_assign rfl) ?_
                refine Ow_nil ?_
                refine Cw_ret ?_
                obtain ey0 := inj1 H
                subst y0
                refine ⟨(by first | exact .inl rfl | exact .inr rfl), [(.bool false)], ⟨(.bool false), _, rfl, rfl, rfl⟩, ?_⟩
                refine Shift.rem .here ?_
                refine Shift.rem .here ?_
                refine Shift.rem .here ?_
                refine Shift.rem .here ?_
                refine Shift.rem .here ?_
                refine Shift.rem .here ?_
                refine Shift.rem .here ?_
                refine Shift.rem .here ?_
                refine Shift.rem .here ?_
                refine Shift.rem .here ?_
                refine Shift.rem .here ?_
                refine Shift.done ?_
                exact ⟨rfl, rfl⟩
              · intro h3736
                have H := iff_ (btf h3736) H
                refine Cw_skip ?_
                refine Cw_seq ?_
                refine Cw_region ?_
                refine Ow_q rfl rfl rfl (Qt_ixArr (q := 1) (m := 5) rfl rfl rfl rfl rfl (by decide) rfl (by decide)) ?_
                refine Ow_q rfl rfl rfl (Qt_fieldAddr (m := 7) rfl rfl rfl rfl rfl) ?_
                refine Ow_q rfl rfl rfl (Qt_load1 (v := (.int .u64 x3697.x1.value)) rfl rfl rfl (Rdc.blk (.head _) rfl)) ?_
                refine Ow_q rfl rfl rfl (Qt_arith (e := wU (x3697.x1.value + 1)) rfl rfl rfl rfl) ?_
                refine Ow_q rfl rfl rfl (Qt_ixArr (q := 1) (m := 5) rfl rfl rfl rfl rfl (by decide) rfl (by decide)) ?_
                refine Ow_q rfl rfl rfl (Qt_fieldAddr (m := 7) rfl rfl rfl rfl rfl) ?_
                refine Ow_cons rfl (OpW_store (vs := [(.int .u64 (wU (x3697.x1.value + 1)))]) (all' := (A2Result.cells (A2Result.mk x3697.x0 (Result.mk x3697.x1.kind x3697.x1.case_ (wU (x3697.x1.value + 1)) x3697.x1.ok x3697.x1.number)))) rfl rfl rfl rfl rfl .here rfl rfl rfl ?_)
                refine Ow_nil ?_
                refine Cw_seq ?_
                obtain ⟨x3751, hx3752, H⟩ := bnd H
                obtain ⟨x3758, hx3759, H⟩ := bnd H
                refine Cw_region_any [.blk b3702 48 (A2Result.cells (A2Result.mk x3697.x0 (Result.mk x3697.x1.kind x3697.x1.case_ (wU (x3697.x1.value + 1)) x3697.x1.ok x3697.x1.number))), .blk b3251 38 (Op.cells (Op.mk i3252 i3253 i3254 i3255 i3256 l3258 l3261) v3257 v3260), .blk b3250 38 (Op.cells (Op.mk i3263 i3264 i3265 i3266 i3267 l3269 l3272) v3268 v3271), .blk b916 34 (Config.cells x908 v910 v911), .blk b893 85 (Draw_Codes.cells (Draw_Codes.mk x890.list i3274 i3275) v894), .blk b879 25 (Result.cells p2), .blk b878 25 (Result.cells p1), .tok 48 10 [(sv v3578)], .tok 3 1 [(sv v910)], .tok 23 1 [(sv v911)], .tok 83 3 [(sv v900)]] rfl (Inc.cons (.head _) (Inc.cons (.tail _ (.head _)) (Inc.cons (.tail _ (.tail _ (.head _))) (Inc.cons (.tail _ (.tail _ (.tail _ (.head _)))) (Inc.cons (.tail _ (.tail _ (.tail _ (.tail _ (.head _))))) (Inc.cons (.tail _ (.tail _ (.tail _ (.tail _ (.tail _ (.head _)))))) (Inc.cons (.tail _ (.tail _ (.tail _ (.tail _ (.tail _ (.tail _ (.head _))))))) (Inc.cons (.tail _ (.tail _ (.tail _ (.tail _ (.tail _ (.tail _ (.tail _ (.head _)))))))) (Inc.cons (.tail _ (.tail _ (.tail _ (.tail _ (.tail _ (.tail _ (.tail _ (.tail _ (.head _))))))))) (Inc.cons (.tail _ (.tail _ (.tail _ (.tail _ (.tail _ (.tail _ (.tail _ (.tail _ (.tail _ (.head _)))))))))) (Inc.cons (.tail _ (.tail _ (.tail _ (.tail _ (.tail _ (.tail _ (.tail _ (.tail _ (.tail _ (.tail _ (.head _))))))))))) Inc.nil))))))))))) ?_
                refine Aw_q 0 rfl (by kernel_rfl) (by kernel_rfl) (by kernel_rfl) rfl rfl rfl (Qt_move rfl) ?_
                refine Aw_q 1 rfl (by kernel_rfl) (by kernel_rfl) (by kernel_rfl) rfl rfl rfl (Qt_loadA (m := 7) (cs := (Op.cells (Op.mk i3263 i3264 i3265 i3266 i3267 l3269 l3272) v3268 v3271)) rfl rfl rfl rfl ⟨rfl, Rdc.blk (.tail _ (.tail _ (.head _))) rfl⟩) ?_
                refine Aw_q 2 rfl (by kernel_rfl) (by kernel_rfl) (by kernel_rfl) rfl rfl rfl (Qt_ixArr (q := 0) (m := 0) rfl rfl rfl rfl rfl (by decide) rfl (by decide)) ?_
                refine Aw_q 3 rfl (by kernel_rfl) (by kernel_rfl) (by kernel_rfl) rfl rfl rfl (Qt_loadA (m := 5) (cs := (Result.cells x3697.x0)) rfl rfl rfl rfl ⟨rfl, Rdc.blk (.head _) rfl⟩) ?_
                refine Aw_q 4 rfl (by kernel_rfl) (by kernel_rfl) (by kernel_rfl) rfl rfl rfl (Qt_loadA (m := 7) (cs := (Op.cells (Op.mk i3252 i3253 i3254 i3255 i3256 l3258 l3261) v3257 v3260)) rfl rfl rfl rfl ⟨rfl, Rdc.blk (.tail _ (.head _)) rfl⟩) ?_
                refine Aw_q 5 rfl (by kernel_rfl) (by kernel_rfl) (by kernel_rfl) rfl rfl rfl (Qt_ixArr (q := 1) (m := 5) rfl rfl rfl rfl rfl (by decide) rfl (by decide)) ?_
                refine Aw_q 6 rfl (by kernel_rfl) (by kernel_rfl) (by kernel_rfl) rfl rfl rfl (Qt_loadA (m := 5) (cs := (Result.cells (Result.mk x3697.x1.kind x3697.x1.case_ (wU (x3697.x1.value + 1)) x3697.x1.ok x3697.x1.number))) rfl rfl rfl rfl ⟨rfl, Rdc.blk (.head _) rfl⟩) ?_
                refine Aw_q 8 rfl (by kernel_rfl) (by kernel_rfl) (by kernel_rfl) rfl rfl rfl (Qt_move rfl) ?_
                refine Aw_q 9 rfl (by kernel_rfl) (by kernel_rfl) (by kernel_rfl) rfl rfl rfl (Qt_loadA (m := 7) (cs := (Op.cells (Op.mk i3263 i3264 i3265 i3266 i3267 l3269 l3272) v3268 v3271)) rfl rfl rfl rfl ⟨rfl, Rdc.blk (.tail _ (.tail _ (.head _))) rfl⟩) ?_
                refine Aw_q 10 rfl (by kernel_rfl) (by kernel_rfl) (by kernel_rfl) rfl rfl rfl (Qt_ixArr (q := 0) (m := 0) rfl rfl rfl rfl rfl (by decide) rfl (by decide)) ?_
                refine Aw_q 11 rfl (by kernel_rfl) (by kernel_rfl) (by kernel_rfl) rfl rfl rfl (Qt_loadA (m := 5) (cs := (Result.cells x3697.x0)) rfl rfl rfl rfl ⟨rfl, Rdc.blk (.head _) rfl⟩) ?_
                refine Aw_q 12 rfl (by kernel_rfl) (by kernel_rfl) (by kernel_rfl) rfl rfl rfl (Qt_loadA (m := 7) (cs := (Op.cells (Op.mk i3252 i3253 i3254 i3255 i3256 l3258 l3261) v3257 v3260)) rfl rfl rfl rfl ⟨rfl, Rdc.blk (.tail _ (.head _)) rfl⟩) ?_
                refine Aw_q 13 rfl (by kernel_rfl) (by kernel_rfl) (by kernel_rfl) rfl rfl rfl (Qt_ixArr (q := 1) (m := 5) rfl rfl rfl rfl rfl (by decide) rfl (by decide)) ?_
                refine Aw_q 14 rfl (by kernel_rfl) (by kernel_rfl) (by kernel_rfl) rfl rfl rfl (Qt_loadA (m := 5) (cs := (Result.cells (Result.mk x3697.x1.kind x3697.x1.case_ (wU (x3697.x1.value + 1)) x3697.x1.ok x3697.x1.number))) rfl rfl rfl rfl ⟨rfl, Rdc.blk (.head _) rfl⟩) ?_
                refine Aw_one 7 (by kernel_rfl) (Ax_mk rfl rfl ?_)
                have hs3760 := (hs3577).mono hK3580
                have hs3761 := (hs3270).mono hK3580
                have hs3762 := (hs3273).mono hK3580
                have hs3763 := (hs3259).mono hK3580
                have hs3764 := (hs3262).mono hK3580
                refine OpW_call rfl Try.call23 rfl rfl (c_M_model_Pair x896 v900 (Op.mk i3263 i3264 i3265 i3266 i3267 l3269 l3272) v3268 v3271 x3697.x0 (Op.mk i3252 i3253 i3254 i3255 i3256 l3258 l3261) v3257 v3260 (Result.mk x3697.x1.kind x3697.x1.case_ (wU (x3697.x1.value + 1)) x3697.x1.ok x3697.x1.number) x3751 hx3752 _ _ hs3760 hs3761 hs3762 hs3763 hs3764) ?_
                rintro _ _ _ - ⟨rfl, rfl, rfl⟩
                refine ⟨(Inc.cons (.head _) (Inc.cons (.tail _ (.head _)) (Inc.cons (.tail _ (.tail _ (.head _))) (Inc.cons (.tail _ (.tail _ (.tail _ (.head _)))) (Inc.cons (.tail _ (.tail _ (.tail _ (.tail _ (.head _))))) (Inc.cons (.tail _ (.tail _ (.tail _ (.tail _ (.tail _ (.head _)))))) (Inc.cons (.tail _ (.tail _ (.tail _ (.tail _ (.tail _ (.tail _ (.head _))))))) (Inc.cons (.tail _ (.tail _ (.tail _ (.tail _ (.tail _ (.tail _ (.tail _ (.head _)))))))) (Inc.cons (.tail _ (.tail _ (.tail _ (.tail _ (.tail _ (.tail _ (.tail _ (.tail _ (.head _))))))))) (Inc.cons (.tail _ (.tail _ (.tail _ (.tail _ (.tail _ (.tail _ (.tail _ (.tail _ (.tail _ (.head _)))))))))) (Inc.cons (.tail _ (.tail _ (.tail _ (.tail _ (.tail _ (.tail _ (.tail _ (.tail _ (.tail _ (.tail _ (.head _))))))))))) Inc.nil))))))))))), ?_⟩
                refine Aw_one 15 (by kernel_rfl) (Ax_mk rfl rfl ?_)
                refine OpW_call rfl Try.call24 rfl rfl (c_M_ref14_Pair x896 v900 (Op.mk i3263 i3264 i3265 i3266 i3267 l3269 l3272) v3268 v3271 x3697.x0 (Op.mk i3252 i3253 i3254 i3255 i3256 l3258 l3261) v3257 v3260 (Result.mk x3697.x1.kind x3697.x1.case_ (wU (x3697.x1.value + 1)) x3697.x1.ok x3697.x1.number) x3758 hx3759 _ _ hs3760 hs3761 hs3762 hs3763 hs3764) ?_
                rintro _ _ _ - ⟨rfl, rfl, rfl⟩
                refine ⟨(Inc.cons (.head _) (Inc.cons (.tail _ (.head _)) (Inc.cons (.tail _ (.tail _ (.head _))) (Inc.cons (.tail _ (.tail _ (.tail _ (.head _)))) (Inc.cons (.tail _ (.tail _ (.tail _ (.tail _ (.head _))))) (Inc.cons (.tail _ (.tail _ (.tail _ (.tail _ (.tail _ (.head _)))))) (Inc.cons (.tail _ (.tail _ (.tail _ (.tail _ (.tail _ (.tail _ (.head _))))))) (Inc.cons (.tail _ (.tail _ (.tail _ (.tail _ (.tail _ (.tail _ (.tail _ (.head _)))))))) (Inc.cons (.tail _ (.tail _ (.tail _ (.tail _ (.tail _ (.tail _ (.tail _ (.tail _ (.head _))))))))) (Inc.cons (.tail _ (.tail _ (.tail _ (.tail _ (.tail _ (.tail _ (.tail _ (.tail _ (.tail _ (.head _)))))))))) (Inc.cons (.tail _ (.tail _ (.tail _ (.tail _ (.tail _ (.tail _ (.tail _ (.tail _ (.tail _ (.tail _ (.head _))))))))))) Inc.nil))))))))))), ?_⟩
                refine Aw_q 16 rfl (by kernel_rfl) (by kernel_rfl) (by kernel_rfl) rfl rfl rfl (Qt_neB rfl rfl rfl) ?_
                refine Aw_done (by kernel_rfl) ?_
                refine Cw_cond rfl ?_ ?_
                · intro h3765
                  have h3765 := nt_t (h3765)
                  have H := iff_ (btf h3765) H
                  refine Cw_seq ?_
                  refine Cw_region ?_
                  refine Ow_q rfl rfl rfl (Qt_assign rfl) ?_
                  refine Ow_nil ?_
                  refine Cw_ret ?_
                  obtain ey0 := inj1 H
                  subst y0
                  refine ⟨(by first | exact .inl rfl | exact .inr rfl), [(.bool false)], ⟨(.bool false), _, rfl, rfl, rfl⟩, ?_⟩
                  refine Shift.rem .here ?_
                  refine Shift.rem .here ?_
                  refine Shift.rem .here ?_
                  refine Shift.rem .here ?_
                  refine Shift.rem .here ?_
                  refine Shift.rem .here ?_
                  refine Shift.rem .here ?_
                  refine Shift.rem .here ?_
                  refine Shift.rem .here ?_
                  refine Shift.rem .here ?_
                  refine Shift.rem .here ?_
                  refine Shift.done ?_
                  exact ⟨rfl, rfl⟩
                · intro h3765
                  have h3765 := nt_f (h3765)
                  have H := ift h3765 H
                  refine Cw_skip ?_
                  refine Cw_region ?_
                  refine Ow_q rfl rfl rfl (Qt_arith (e := wI (i3657 + 1)) rfl rfl rfl rfl) ?_
                  refine Ow_q rfl rfl rfl (Qt_move rfl) ?_
                  refine Ow_nil ?_
                  refine Shift.pull (.there (.there (.there (.there (.there (.there (.there (.there (.there (.there .here)))))))))) ?_
                  refine Shift.pull (.there (.there (.there (.there (.there (.there (.there (.there (.there (.there .here)))))))))) ?_
                  refine Shift.pull (.there (.there (.there (.there (.there (.there (.there (.there (.there (.there .here)))))))))) ?_
                  refine Shift.pull (.there (.there (.there (.there (.there (.there (.there (.there (.there (.there .here)))))))))) ?_
                  refine Shift.pull (.there (.there (.there (.there (.there (.there (.there (.there (.there (.there .here)))))))))) ?_
                  refine Shift.pull (.there (.there (.there (.there (.there (.there (.there (.there (.there (.there .here)))))))))) ?_
                  refine Shift.pull (.there (.there (.there (.there (.there (.there (.there (.there (.there (.there .here)))))))))) ?_
                  refine Shift.pull (.there (.there (.there (.there (.there (.there (.there (.there (.there (.there .here)))))))))) ?_
                  refine Shift.pull (.there (.there (.there (.there (.there (.there (.there (.there (.there (.there .here)))))))))) ?_
                  refine Shift.pull (.there (.there (.there (.there (.there (.there (.there (.there (.there (.there .here)))))))))) ?_
                  refine Shift.rem (.there (.there (.there (.there (.there (.there (.there (.there (.there (.there .here)))))))))) ?_
                  refine Shift.done ?_
                  exact ⟨[(4, (.pointer (some ((⟨b878, 0, none⟩ : Addr).add 0)))), (5, (.pointer (some ((⟨b879, 0, none⟩ : Addr).add 0)))), (7, (.pointer (some ((⟨b893, 0, none⟩ : Addr).add 0)))), (8, (sv v900)), (9, (.pointer (some ((⟨b916, 0, none⟩ : Addr).add 0)))), (10, (.int .i64 i2628)), (11, (.pointer (some ((⟨b3250, 0, none⟩ : Addr).add 0)))), (12, (.pointer (some ((⟨b3251, 0, none⟩ : Addr).add 0)))), (38, (sv v3578)), (39, (.int .i64 (x3575.length : Int))), (40, (.int .i64 (wI (i3657 + 1))))], ⟨rfl, rfl, rfl, rfl, rfl, rfl, rfl, rfl, rfl, rfl, rfl, trivial⟩, _, Nat.lt_succ_self _, (wI (i3657 + 1)), rfl, rfl, rfl, (hkk3661 ▸ H)⟩
            · intro h3663
              have h3663 := dcd_f (h3663)
              have H := iff_ h3663 H
              refine Cw_exit ?_
              refine Shift.pull (.there (.there (.there (.there (.there (.there (.there (.there (.there .here))))))))) ?_
              refine Shift.pull (.there (.there (.there (.there (.there (.there (.there (.there (.there .here))))))))) ?_
              refine Shift.pull (.there (.there (.there (.there (.there (.there (.there (.there (.there .here))))))))) ?_
              refine Shift.pull (.there (.there (.there (.there (.there (.there (.there (.there .here)))))))) ?_
              refine Shift.pull (.there (.there (.there (.there (.there (.there (.there (.there .here)))))))) ?_
              refine Shift.pull (.there (.there (.there (.there (.there (.there (.there (.there .here)))))))) ?_
              refine Shift.pull (.there (.there (.there (.there (.there (.there (.there (.there .here)))))))) ?_
              refine Shift.pull (.there (.there (.there (.there (.there (.there (.there (.there .here)))))))) ?_
              refine Shift.pull (.there (.there (.there (.there (.there (.there (.there (.there .here)))))))) ?_
              refine Shift.rem (.there (.there (.there (.there (.there (.there (.there (.there (.there .here))))))))) ?_
              refine Shift.done ?_
              exact ⟨[(4, (.pointer (some ((⟨b878, 0, none⟩ : Addr).add 0)))), (5, (.pointer (some ((⟨b879, 0, none⟩ : Addr).add 0)))), (7, (.pointer (some ((⟨b893, 0, none⟩ : Addr).add 0)))), (8, (sv v900)), (9, (.pointer (some ((⟨b916, 0, none⟩ : Addr).add 0)))), (10, (.int .i64 i2628)), (11, (.pointer (some ((⟨b3250, 0, none⟩ : Addr).add 0)))), (12, (.pointer (some ((⟨b3251, 0, none⟩ : Addr).add 0))))], ⟨rfl, rfl, rfl, rfl, rfl, rfl, rfl, rfl, trivial⟩, rfl, rfl, H⟩
          rintro _ K3766 _ hK3767 ⟨rfl, rfl, H⟩
          unfold M_law14_ModelPairs_J4 at H
          refine Cw_join (fun env' K' G' => ∃ (b3844 : Nat) (b3845 : Nat) (i3846 : Int) (i3847 : Int) (i3848 : Int) (t3849 : Bool) (i3850 : Int) (i3851 : Int) (i3852 : Int) (i3853 : Int) (t3854 : Bool) (i3855 : Int) (i3856 : Int) (i3857 : Int), [(4, (.pointer (some ((⟨b878, 0, none⟩ : Addr).add 0)))), (5, (.pointer (some ((⟨b879, 0, none⟩ : Addr).add 0)))), (7, (.pointer (some ((⟨b893, 0, none⟩ : Addr).add 0)))), (8, (sv v900)), (9, (.pointer (some ((⟨b916, 0, none⟩ : Addr).add 0)))), (10, (.int .i64 i2628)), (11, (.pointer (some ((⟨b3250, 0, none⟩ : Addr).add 0)))), (12, (.pointer (some ((⟨b3251, 0, none⟩ : Addr).add 0)))), (15, (.pointer (some ((⟨b3844, 0, none⟩ : Addr).add 0)))), (16, (.pointer (some ((⟨b3845, 0, none⟩ : Addr).add 0))))] = env' ∧ K3766 = K' ∧ (.blk b3845 25 (Result.cells (Result.mk i3846 i3847 i3848 t3849 i3850))) :: (.blk b3844 25 (Result.cells (Result.mk i3851 i3852 i3853 t3854 i3855))) :: (.blk b3251 38 (Op.cells (Op.mk i3252 i3253 i3254 i3255 i3256 l3258 l3261) v3257 v3260)) :: (.blk b3250 38 (Op.cells (Op.mk i3263 i3264 i3265 i3266 i3267 l3269 l3272) v3268 v3271)) :: (.blk b916 34 (Config.cells x908 v910 v911)) :: (.blk b893 85 (Draw_Codes.cells (Draw_Codes.mk x890.list i3856 i3857) v894)) :: (.blk b879 25 (Result.cells p2)) :: (.blk b878 25 (Result.cells p1)) :: (.tok 3 1 [(sv v910)]) :: (.tok 23 1 [(sv v911)]) :: (.tok 83 3 [(sv v900)]) :: G = G' ∧ M_law14_ModelPairs_J6 x896 i2628 i3252 i3253 i3254 i3255 i3256 l3258 l3261 i3263 i3264 i3265 i3266 i3267 l3269 l3272 x908 x890 p2 p1 k2635 i3846 i3847 i3848 t3849 i3850 i3851 i3852 i3853 t3854 i3855 i3856 i3857 = some y0) ?_ ?_
          · skip
            obtain ⟨x3858, x3859, x3860, hx3861, H⟩ := bnd3 H
            obtain ⟨x3866, x3867, x3868, hx3869, H⟩ := bnd3 H
            refine Cw_region_any [.blk b3251 38 (Op.cells (Op.mk i3252 i3253 i3254 i3255 i3256 l3258 l3261) v3257 v3260), .blk b3250 38 (Op.cells (Op.mk i3263 i3264 i3265 i3266 i3267 l3269 l3272) v3268 v3271), .blk b916 34 (Config.cells x908 v910 v911), .blk b879 25 (Result.cells p2), .blk b878 25 (Result.cells p1), .tok 3 1 [(sv v910)], .tok 23 1 [(sv v911)], .tok 83 3 [(sv v900)]] rfl (Inc.cons (.head _) (Inc.cons (.tail _ (.head _)) (Inc.cons (.tail _ (.tail _ (.head _))) (Inc.cons (.tail _ (.tail _ (.tail _ (.tail _ (.head _))))) (Inc.cons (.tail _ (.tail _ (.tail _ (.tail _ (.tail _ (.head _)))))) (Inc.cons (.tail _ (.tail _ (.tail _ (.tail _ (.tail _ (.tail _ (.head _))))))) (Inc.cons (.tail _ (.tail _ (.tail _ (.tail _ (.tail _ (.tail _ (.tail _ (.head _)))))))) (Inc.cons (.tail _ (.tail _ (.tail _ (.tail _ (.tail _ (.tail _ (.tail _ (.tail _ (.head _))))))))) Inc.nil)))))))) ?_
            refine Aw_q 0 rfl (by kernel_rfl) (by kernel_rfl) (by kernel_rfl) rfl rfl rfl (Qt_move rfl) ?_
            refine Aw_q 1 rfl (by kernel_rfl) (by kernel_rfl) (by kernel_rfl) rfl rfl rfl (Qt_move rfl) ?_
            refine Aw_q 2 rfl (by kernel_rfl) (by kernel_rfl) (by kernel_rfl) rfl rfl rfl (Qt_loadA (m := 7) (cs := (Op.cells (Op.mk i3263 i3264 i3265 i3266 i3267 l3269 l3272) v3268 v3271)) rfl rfl rfl rfl ⟨rfl, Rdc.blk (.tail _ (.head _)) rfl⟩) ?_
            refine Aw_q 4 rfl (by kernel_rfl) (by kernel_rfl) (by kernel_rfl) rfl rfl rfl (Qt_move rfl) ?_
            refine Aw_q 5 rfl (by kernel_rfl) (by kernel_rfl) (by kernel_rfl) rfl rfl rfl (Qt_move rfl) ?_
            refine Aw_q 6 rfl (by kernel_rfl) (by kernel_rfl) (by kernel_rfl) rfl rfl rfl (Qt_loadA (m := 7) (cs := (Op.cells (Op.mk i3252 i3253 i3254 i3255 i3256 l3258 l3261) v3257 v3260)) rfl rfl rfl rfl ⟨rfl, Rdc.blk (.head _) rfl⟩) ?_
            refine Aw_three 3 8 9 (by kernel_rfl) ?_ ?_ ?_
            · skip
              refine id (Ax_mk rfl rfl ?_)
              refine OpW.shift (Shift.pull (.there (.there (.there .here))) (Shift.done ?_))
              have hs3874 := ((((((hs895).mono hK903).mono hK906).mono hK913).mono hK2633).mono hK3491).mono hK3767
              have hs3875 := ((((hs907).mono hK913).mono hK2633).mono hK3491).mono hK3767
              have hs3876 := (hs3270).mono hK3767
              have hs3877 := (hs3273).mono hK3767
              refine OpW_call rfl Try.call18 rfl rfl (c_M_law14_result b893 (Draw_Codes.mk x890.list i3274 i3275) v894 x896 v900 (Op.mk i3263 i3264 i3265 i3266 i3267 l3269 l3272) v3268 v3271 x3858 x3859 x3860 hx3861 _ _ hs3874 hs3875 hs3876 hs3877) ?_
              rintro _ _ _ - ⟨rfl, rfl, rfl⟩
              refine ⟨(Inc.cons (.tail _ (.head _)) (Inc.cons (.tail _ (.tail _ (.head _))) (Inc.cons (.tail _ (.tail _ (.tail _ (.head _)))) (Inc.cons (.tail _ (.tail _ (.tail _ (.tail _ (.head _))))) (Inc.cons (.tail _ (.tail _ (.tail _ (.tail _ (.tail _ (.head _)))))) (Inc.cons (.tail _ (.tail _ (.tail _ (.tail _ (.tail _ (.tail _ (.head _))))))) (Inc.cons (.tail _ (.tail _ (.tail _ (.tail _ (.tail _ (.tail _ (.tail _ (.head _)))))))) (Inc.cons (.tail _ (.tail _ (.tail _ (.tail _ (.tail _ (.tail _ (.tail _ (.tail _ (.head _))))))))) Inc.nil)))))))), ?_⟩
              refine Aw_three 7 8 9 (by kernel_rfl) ?_ ?_ ?_
              · skip
                refine id (Ax_mk rfl rfl ?_)
                have hs3878 := (hs3259).mono hK3767
                have hs3879 := (hs3262).mono hK3767
                refine OpW_call rfl Try.call18 rfl rfl (c_M_law14_result b893 (Draw_Codes.mk x890.list x3859 x3860) v894 x896 v900 (Op.mk i3252 i3253 i3254 i3255 i3256 l3258 l3261) v3257 v3260 x3866 x3867 x3868 hx3869 _ _ hs3874 hs3875 hs3878 hs3879) ?_
                rintro _ _ _ - ⟨rfl, rfl, rfl⟩
                refine ⟨(Inc.cons (.tail _ (.head _)) (Inc.cons (.tail _ (.tail _ (.head _))) (Inc.cons (.tail _ (.tail _ (.tail _ (.head _)))) (Inc.cons (.tail _ (.tail _ (.tail _ (.tail _ (.head _))))) (Inc.cons (.tail _ (.tail _ (.tail _ (.tail _ (.tail _ (.head _)))))) (Inc.cons (.tail _ (.tail _ (.tail _ (.tail _ (.tail _ (.tail _ (.head _))))))) (Inc.cons (.tail _ (.tail _ (.tail _ (.tail _ (.tail _ (.tail _ (.tail _ (.head _)))))))) (Inc.cons (.tail _ (.tail _ (.tail _ (.tail _ (.tail _ (.tail _ (.tail _ (.tail _ (.head _))))))))) Inc.nil)))))))), ?_⟩
                refine Aw_two 8 9 (by kernel_rfl) ?_ ?_
                · skip
                  refine id (Ax_mk rfl rfl ?_)
                  refine OpW_alloc (cs := (Result.cells (Result.mk 0 0 0 false 0))) rfl rfl rfl rfl (fun b3880 => ⟨(Inc.cons (.tail _ (.tail _ (.head _))) (Inc.cons (.tail _ (.tail _ (.tail _ (.head _)))) (Inc.cons (.tail _ (.tail _ (.tail _ (.tail _ (.head _))))) (Inc.cons (.tail _ (.tail _ (.tail _ (.tail _ (.tail _ (.head _)))))) (Inc.cons (.tail _ (.tail _ (.tail _ (.tail _ (.tail _ (.tail _ (.head _))))))) (Inc.cons (.tail _ (.tail _ (.tail _ (.tail _ (.tail _ (.tail _ (.tail _ (.head _)))))))) (Inc.cons (.tail _ (.tail _ (.tail _ (.tail _ (.tail _ (.tail _ (.tail _ (.tail _ (.head _))))))))) (Inc.cons (.tail _ (.tail _ (.tail _ (.tail _ (.tail _ (.tail _ (.tail _ (.tail _ (.tail _ (.head _)))))))))) Inc.nil)))))))), ?_⟩)
                  refine Aw_one 9 (by kernel_rfl) (Ax_mk rfl rfl ?_)
                  refine OpW_alloc (cs := (Result.cells (Result.mk 0 0 0 false 0))) rfl rfl rfl rfl (fun b3881 => ⟨(Inc.cons (.tail _ (.tail _ (.tail _ (.head _)))) (Inc.cons (.tail _ (.tail _ (.tail _ (.tail _ (.head _))))) (Inc.cons (.tail _ (.tail _ (.tail _ (.tail _ (.tail _ (.head _)))))) (Inc.cons (.tail _ (.tail _ (.tail _ (.tail _ (.tail _ (.tail _ (.head _))))))) (Inc.cons (.tail _ (.tail _ (.tail _ (.tail _ (.tail _ (.tail _ (.tail _ (.head _)))))))) (Inc.cons (.tail _ (.tail _ (.tail _ (.tail _ (.tail _ (.tail _ (.tail _ (.tail _ (.head _))))))))) (Inc.cons (.tail _ (.tail _ (.tail _ (.tail _ (.tail _ (.tail _ (.tail _ (.tail _ (.tail _ (.head _)))))))))) (Inc.cons (.tail _ (.tail _ (.tail _ (.tail _ (.tail _ (.tail _ (.tail _ (.tail _ (.tail _ (.tail _ (.head _))))))))))) Inc.nil)))))))), ?_⟩)
                  refine Aw_one 10 (by kernel_rfl) (Ax_mk rfl rfl ?_)
                  refine OpW_store (vs := (Result.cells x3858)) (all' := (Result.cells x3858)) rfl rfl rfl rfl rfl (.there .here) rfl rfl rfl ⟨(Inc.cons (.tail _ (.tail _ (.tail _ (.head _)))) (Inc.cons (.tail _ (.tail _ (.tail _ (.tail _ (.head _))))) (Inc.cons (.tail _ (.tail _ (.tail _ (.tail _ (.tail _ (.head _)))))) (Inc.cons (.tail _ (.tail _ (.tail _ (.tail _ (.tail _ (.tail _ (.head _))))))) (Inc.cons (.tail _ (.tail _ (.tail _ (.tail _ (.tail _ (.tail _ (.tail _ (.head _)))))))) (Inc.cons (.tail _ (.tail _ (.tail _ (.tail _ (.tail _ (.tail _ (.tail _ (.tail _ (.head _))))))))) (Inc.cons (.tail _ (.tail _ (.tail _ (.tail _ (.tail _ (.tail _ (.tail _ (.tail _ (.tail _ (.head _)))))))))) (Inc.cons (.tail _ (.tail _ (.tail _ (.tail _ (.tail _ (.tail _ (.tail _ (.tail _ (.tail _ (.tail _ (.head _))))))))))) Inc.nil)))))))), ?_⟩
                  refine Aw_one 11 (by kernel_rfl) (Ax_mk rfl rfl ?_)
                  refine OpW_store (vs := (Result.cells x3866)) (all' := (Result.cells x3866)) rfl rfl rfl rfl rfl .here rfl rfl rfl ⟨(Inc.cons (.tail _ (.tail _ (.tail _ (.head _)))) (Inc.cons (.tail _ (.tail _ (.tail _ (.tail _ (.head _))))) (Inc.cons (.tail _ (.tail _ (.tail _ (.tail _ (.tail _ (.head _)))))) (Inc.cons (.tail _ (.tail _ (.tail _ (.tail _ (.tail _ (.tail _ (.head _))))))) (Inc.cons (.tail _ (.tail _ (.tail _ (.tail _ (.tail _ (.tail _ (.tail _ (.head _)))))))) (Inc.cons (.tail _ (.tail _ (.tail _ (.tail _ (.tail _ (.tail _ (.tail _ (.tail _ (.head _))))))))) (Inc.cons (.tail _ (.tail _ (.tail _ (.tail _ (.tail _ (.tail _ (.tail _ (.tail _ (.tail _ (.head _)))))))))) (Inc.cons (.tail _ (.tail _ (.tail _ (.tail _ (.tail _ (.tail _ (.tail _ (.tail _ (.tail _ (.tail _ (.head _))))))))))) Inc.nil)))))))), ?_⟩
                  refine Aw_done (by kernel_rfl) ?_
                  refine Shift.pull (.there (.there (.there (.there (.there (.there (.there (.there (.there (.there .here)))))))))) ?_
                  refine Shift.pull (.there (.there (.there (.there (.there (.there (.there (.there (.there (.there .here)))))))))) ?_
                  refine Shift.pull (.there (.there (.there (.there (.there (.there (.there (.there (.there (.there .here)))))))))) ?_
                  refine Shift.pull (.there (.there (.there (.there (.there (.there (.there (.there (.there (.there .here)))))))))) ?_
                  refine Shift.pull (.there (.there (.there (.there (.there (.there (.there (.there (.there (.there .here)))))))))) ?_
                  refine Shift.pull (.there (.there (.there (.there (.there (.there (.there .here))))))) ?_
                  refine Shift.pull (.there (.there (.there (.there (.there (.there (.there (.there (.there (.there .here)))))))))) ?_
                  refine Shift.pull (.there (.there (.there (.there (.there (.there (.there (.there (.there (.there .here)))))))))) ?_
                  refine Shift.pull (.there (.there (.there (.there (.there (.there (.there (.there (.there (.there .here)))))))))) ?_
                  refine Shift.pull (.there (.there (.there (.there (.there (.there (.there (.there (.there (.there .here)))))))))) ?_
                  refine Shift.pull (.there (.there (.there (.there (.there (.there (.there (.there (.there (.there .here)))))))))) ?_
                  refine Shift.done ?_
                  exact ⟨[(4, (.pointer (some ((⟨b878, 0, none⟩ : Addr).add 0)))), (5, (.pointer (some ((⟨b879, 0, none⟩ : Addr).add 0)))), (7, (.pointer (some ((⟨b893, 0, none⟩ : Addr).add 0)))), (8, (sv v900)), (9, (.pointer (some ((⟨b916, 0, none⟩ : Addr).add 0)))), (10, (.int .i64 i2628)), (11, (.pointer (some ((⟨b3250, 0, none⟩ : Addr).add 0)))), (12, (.pointer (some ((⟨b3251, 0, none⟩ : Addr).add 0)))), (15, (.pointer (some ((⟨b3880, 0, none⟩ : Addr).add 0)))), (16, (.pointer (some ((⟨b3881, 0, none⟩ : Addr).add 0))))], ⟨rfl, rfl, rfl, rfl, rfl, rfl, rfl, rfl, rfl, rfl, trivial⟩, b3880, b3881, x3866.kind, x3866.case_, x3866.value, x3866.ok, x3866.number, x3858.kind, x3858.case_, x3858.value, x3858.ok, x3858.number, x3867, x3868, rfl, rfl, rfl, H⟩
                · skip
                  refine id (Ax_mk rfl rfl ?_)
                  refine OpW_alloc (cs := (Result.cells (Result.mk 0 0 0 false 0))) rfl rfl rfl rfl (fun b3882 => ⟨(Inc.cons (.tail _ (.tail _ (.head _))) (Inc.cons (.tail _ (.tail _ (.tail _ (.head _)))) (Inc.cons (.tail _ (.tail _ (.tail _ (.tail _ (.head _))))) (Inc.cons (.tail _ (.tail _ (.tail _ (.tail _ (.tail _ (.head _)))))) (Inc.cons (.tail _ (.tail _ (.tail _ (.tail _ (.tail _ (.tail _ (.head _))))))) (Inc.cons (.tail _ (.tail _ (.tail _ (.tail _ (.tail _ (.tail _ (.tail _ (.head _)))))))) (Inc.cons (.tail _ (.tail _ (.tail _ (.tail _ (.tail _ (.tail _ (.tail _ (.tail _ (.head _))))))))) (Inc.cons (.tail _ (.tail _ (.tail _ (.tail _ (.tail _ (.tail _ (.tail _ (.tail _ (.tail _ (.head _)))))))))) Inc.nil)))))))), ?_⟩)
                  refine Aw_one 8 (by kernel_rfl) (Ax_mk rfl rfl ?_)
                  refine OpW_alloc (cs := (Result.cells (Result.mk 0 0 0 false 0))) rfl rfl rfl rfl (fun b3883 => ⟨(Inc.cons (.tail _ (.tail _ (.tail _ (.head _)))) (Inc.cons (.tail _ (.tail _ (.tail _ (.tail _ (.head _))))) (Inc.cons (.tail _ (.tail _ (.tail _ (.tail _ (.tail _ (.head _)))))) (Inc.cons (.tail _ (.tail _ (.tail _ (.tail _ (.tail _ (.tail _ (.head _))))))) (Inc.cons (.tail _ (.tail _ (.tail _ (.tail _ (.tail _ (.tail _ (.tail _ (.head _)))))))) (Inc.cons (.tail _ (.tail _ (.tail _ (.tail _ (.tail _ (.tail _ (.tail _ (.tail _ (.head _))))))))) (Inc.cons (.tail _ (.tail _ (.tail _ (.tail _ (.tail _ (.tail _ (.tail _ (.tail _ (.tail _ (.head _)))))))))) (Inc.cons (.tail _ (.tail _ (.tail _ (.tail _ (.tail _ (.tail _ (.tail _ (.tail _ (.tail _ (.tail _ (.head _))))))))))) Inc.nil)))))))), ?_⟩)
                  refine Aw_one 10 (by kernel_rfl) (Ax_mk rfl rfl ?_)
                  refine OpW_store (vs := (Result.cells x3858)) (all' := (Result.cells x3858)) rfl rfl rfl rfl rfl .here rfl rfl rfl ⟨(Inc.cons (.tail _ (.tail _ (.tail _ (.head _)))) (Inc.cons (.tail _ (.tail _ (.tail _ (.tail _ (.head _))))) (Inc.cons (.tail _ (.tail _ (.tail _ (.tail _ (.tail _ (.head _)))))) (Inc.cons (.tail _ (.tail _ (.tail _ (.tail _ (.tail _ (.tail _ (.head _))))))) (Inc.cons (.tail _ (.tail _ (.tail _ (.tail _ (.tail _ (.tail _ (.tail _ (.head _)))))))) (Inc.cons (.tail _ (.tail _ (.tail _ (.tail _ (.tail _ (.tail _ (.tail _ (.tail _ (.head _))))))))) (Inc.cons (.tail _ (.tail _ (.tail _ (.tail _ (.tail _ (.tail _ (.tail _ (.tail _ (.tail _ (.head _)))))))))) (Inc.cons (.tail _ (.tail _ (.tail _ (.tail _ (.tail _ (.tail _ (.tail _ (.tail _ (.tail _ (.tail _ (.head _))))))))))) Inc.nil)))))))), ?_⟩
                  refine Aw_one 11 (by kernel_rfl) (Ax_mk rfl rfl ?_)
                  refine OpW_store (vs := (Result.cells x3866)) (all' := (Result.cells x3866)) rfl rfl rfl rfl rfl (.there .here) rfl rfl rfl ⟨(Inc.cons (.tail _ (.tail _ (.tail _ (.head _)))) (Inc.cons (.tail _ (.tail _ (.tail _ (.tail _ (.head _))))) (Inc.cons (.tail _ (.tail _ (.tail _ (.tail _ (.tail _ (.head _)))))) (Inc.cons (.tail _ (.tail _ (.tail _ (.tail _ (.tail _ (.tail _ (.head _))))))) (Inc.cons (.tail _ (.tail _ (.tail _ (.tail _ (.tail _ (.tail _ (.tail _ (.head _)))))))) (Inc.cons (.tail _ (.tail _ (.tail _ (.tail _ (.tail _ (.tail _ (.tail _ (.tail _ (.head _))))))))) (Inc.cons (.tail _ (.tail _ (.tail _ (.tail _ (.tail _ (.tail _ (.tail _ (.tail _ (.tail _ (.head _)))))))))) (Inc.cons (.tail _ (.tail _ (.tail _ (.tail _ (.tail _ (.tail _ (.tail _ (.tail _ (.tail _ (.tail _ (.head _))))))))))) Inc.nil)))))))), ?_⟩
                  refine Aw_done (by kernel_rfl) ?_
                  refine Shift.pull (.there (.there (.there (.there (.there (.there (.there (.there (.there (.there .here)))))))))) ?_
                  refine Shift.pull (.there (.there (.there (.there (.there (.there (.there (.there (.there (.there .here)))))))))) ?_
                  refine Shift.pull (.there (.there (.there (.there (.there (.there (.there (.there (.there (.there .here)))))))))) ?_
                  refine Shift.pull (.there (.there (.there (.there (.there (.there (.there (.there (.there (.there .here)))))))))) ?_
                  refine Shift.pull (.there (.there (.there (.there (.there (.there (.there (.there (.there (.there .here)))))))))) ?_
                  refine Shift.pull (.there (.there (.there (.there (.there (.there (.there .here))))))) ?_
                  refine Shift.pull (.there (.there (.there (.there (.there (.there (.there (.there (.there (.there .here)))))))))) ?_
                  refine Shift.pull (.there (.there (.there (.there (.there (.there (.there (.there (.there (.there .here)))))))))) ?_
                  refine Shift.pull (.there (.there (.there (.there (.there (.there (.there (.there (.there (.there .here)))))))))) ?_
                  refine Shift.pull (.there (.there (.there (.there (.there (.there (.there (.there (.there .here))))))))) ?_
                  refine Shift.pull (.there (.there (.there (.there (.there (.there (.there (.there (.there (.there .here)))))))))) ?_
                  refine Shift.done ?_
                  exact ⟨[(4, (.pointer (some ((⟨b878, 0, none⟩ : Addr).add 0)))), (5, (.pointer (some ((⟨b879, 0, none⟩ : Addr).add 0)))), (7, (.pointer (some ((⟨b893, 0, none⟩ : Addr).add 0)))), (8, (sv v900)), (9, (.pointer (some ((⟨b916, 0, none⟩ : Addr).add 0)))), (10, (.int .i64 i2628)), (11, (.pointer (some ((⟨b3250, 0, none⟩ : Addr).add 0)))), (12, (.pointer (some ((⟨b3251, 0, none⟩ : Addr).add 0)))), (15, (.pointer (some ((⟨b3883, 0, none⟩ : Addr).add 0)))), (16, (.pointer (some ((⟨b3882, 0, none⟩ : Addr).add 0))))], ⟨rfl, rfl, rfl, rfl, rfl, rfl, rfl, rfl, rfl, rfl, trivial⟩, b3883, b3882, x3866.kind, x3866.case_, x3866.value, x3866.ok, x3866.number, x3858.kind, x3858.case_, x3858.value, x3858.ok, x3858.number, x3867, x3868, rfl, rfl, rfl, H⟩
              · skip
                refine id (Ax_mk rfl rfl ?_)
                refine OpW_alloc (cs := (Result.cells (Result.mk 0 0 0 false 0))) rfl rfl rfl rfl (fun b3884 => ⟨(Inc.cons (.tail _ (.tail _ (.head _))) (Inc.cons (.tail _ (.tail _ (.tail _ (.head _)))) (Inc.cons (.tail _ (.tail _ (.tail _ (.tail _ (.head _))))) (Inc.cons (.tail _ (.tail _ (.tail _ (.tail _ (.tail _ (.head _)))))) (Inc.cons (.tail _ (.tail _ (.tail _ (.tail _ (.tail _ (.tail _ (.head _))))))) (Inc.cons (.tail _ (.tail _ (.tail _ (.tail _ (.tail _ (.tail _ (.tail _ (.head _)))))))) (Inc.cons (.tail _ (.tail _ (.tail _ (.tail _ (.tail _ (.tail _ (.tail _ (.tail _ (.head _))))))))) (Inc.cons (.tail _ (.tail _ (.tail _ (.tail _ (.tail _ (.tail _ (.tail _ (.tail _ (.tail _ (.head _)))))))))) Inc.nil)))))))), ?_⟩)
                refine Aw_two 7 9 (by kernel_rfl) ?_ ?_
                · skip
                  refine id (Ax_mk rfl rfl ?_)
                  refine OpW.shift (Shift.pull (.there .here) (Shift.done ?_))
                  have hs3885 := (hs3259).mono hK3767
                  have hs3886 := (hs3262).mono hK3767
                  refine OpW_call rfl Try.call18 rfl rfl (c_M_law14_result b893 (Draw_Codes.mk x890.list x3859 x3860) v894 x896 v900 (Op.mk i3252 i3253 i3254 i3255 i3256 l3258 l3261) v3257 v3260 x3866 x3867 x3868 hx3869 _ _ hs3874 hs3875 hs3885 hs3886) ?_
                  rintro _ _ _ - ⟨rfl, rfl, rfl⟩
                  refine ⟨(Inc.cons (.tail _ (.tail _ (.head _))) (Inc.cons (.tail _ (.tail _ (.tail _ (.head _)))) (Inc.cons (.tail _ (.tail _ (.tail _ (.tail _ (.head _))))) (Inc.cons (.tail _ (.tail _ (.tail _ (.tail _ (.tail _ (.head _)))))) (Inc.cons (.tail _ (.tail _ (.tail _ (.tail _ (.tail _ (.tail _ (.head _))))))) (Inc.cons (.tail _ (.tail _ (.tail _ (.tail _ (.tail _ (.tail _ (.tail _ (.head _)))))))) (Inc.cons (.tail _ (.tail _ (.tail _ (.tail _ (.tail _ (.tail _ (.tail _ (.tail _ (.head _))))))))) (Inc.cons (.tail _ (.tail _ (.tail _ (.tail _ (.tail _ (.tail _ (.tail _ (.tail _ (.tail _ (.head _)))))))))) Inc.nil)))))))), ?_⟩
                  refine Aw_one 9 (by kernel_rfl) (Ax_mk rfl rfl ?_)
                  refine OpW_alloc (cs := (Result.cells (Result.mk 0 0 0 false 0))) rfl rfl rfl rfl (fun b3887 => ⟨(Inc.cons (.tail _ (.tail _ (.tail _ (.head _)))) (Inc.cons (.tail _ (.tail _ (.tail _ (.tail _ (.head _))))) (Inc.cons (.tail _ (.tail _ (.tail _ (.tail _ (.tail _ (.head _)))))) (Inc.cons (.tail _ (.tail _ (.tail _ (.tail _ (.tail _ (.tail _ (.head _))))))) (Inc.cons (.tail _ (.tail _ (.tail _ (.tail _ (.tail _ (.tail _ (.tail _ (.head _)))))))) (Inc.cons (.tail _ (.tail _ (.tail _ (.tail _ (.tail _ (.tail _ (.tail _ (.tail _ (.head _))))))))) (Inc.cons (.tail _ (.tail _ (.tail _ (.tail _ (.tail _ (.tail _ (.tail _ (.tail _ (.tail _ (.head _)))))))))) (Inc.cons (.tail _ (.tail _ (.tail _ (.tail _ (.tail _ (.tail _ (.tail _ (.tail _ (.tail _ (.tail _ (.head _))))))))))) Inc.nil)))))))), ?_⟩)
                  refine Aw_one 10 (by kernel_rfl) (Ax_mk rfl rfl ?_)
                  refine OpW_store (vs := (Result.cells x3858)) (all' := (Result.cells x3858)) rfl rfl rfl rfl rfl (.there (.there .here)) rfl rfl rfl ⟨(Inc.cons (.tail _ (.tail _ (.tail _ (.head _)))) (Inc.cons (.tail _ (.tail _ (.tail _ (.tail _ (.head _))))) (Inc.cons (.tail _ (.tail _ (.tail _ (.tail _ (.tail _ (.head _)))))) (Inc.cons (.tail _ (.tail _ (.tail _ (.tail _ (.tail _ (.tail _ (.head _))))))) (Inc.cons (.tail _ (.tail _ (.tail _ (.tail _ (.tail _ (.tail _ (.tail _ (.head _)))))))) (Inc.cons (.tail _ (.tail _ (.tail _ (.tail _ (.tail _ (.tail _ (.tail _ (.tail _ (.head _))))))))) (Inc.cons (.tail _ (.tail _ (.tail _ (.tail _ (.tail _ (.tail _ (.tail _ (.tail _ (.tail _ (.head _)))))))))) (Inc.cons (.tail _ (.tail _ (.tail _ (.tail _ (.tail _ (.tail _ (.tail _ (.tail _ (.tail _ (.tail _ (.head _))))))))))) Inc.nil)))))))), ?_⟩
                  refine Aw_one 11 (by kernel_rfl) (Ax_mk rfl rfl ?_)
                  refine OpW_store (vs := (Result.cells x3866)) (all' := (Result.cells x3866)) rfl rfl rfl rfl rfl .here rfl rfl rfl ⟨(Inc.cons (.tail _ (.tail _ (.tail _ (.head _)))) (Inc.cons (.tail _ (.tail _ (.tail _ (.tail _ (.head _))))) (Inc.cons (.tail _ (.tail _ (.tail _ (.tail _ (.tail _ (.head _)))))) (Inc.cons (.tail _ (.tail _ (.tail _ (.tail _ (.tail _ (.tail _ (.head _))))))) (Inc.cons (.tail _ (.tail _ (.tail _ (.tail _ (.tail _ (.tail _ (.tail _ (.head _)))))))) (Inc.cons (.tail _ (.tail _ (.tail _ (.tail _ (.tail _ (.tail _ (.tail _ (.tail _ (.head _))))))))) (Inc.cons (.tail _ (.tail _ (.tail _ (.tail _ (.tail _ (.tail _ (.tail _ (.tail _ (.tail _ (.head _)))))))))) (Inc.cons (.tail _ (.tail _ (.tail _ (.tail _ (.tail _ (.tail _ (.tail _ (.tail _ (.tail _ (.tail _ (.head _))))))))))) Inc.nil)))))))), ?_⟩
                  refine Aw_done (by kernel_rfl) ?_
                  refine Shift.pull (.there (.there (.there (.there (.there (.there (.there (.there (.there (.there .here)))))))))) ?_
                  refine Shift.pull (.there (.there (.there (.there (.there (.there (.there (.there (.there (.there .here)))))))))) ?_
                  refine Shift.pull (.there (.there (.there (.there (.there (.there (.there (.there (.there (.there .here)))))))))) ?_
                  refine Shift.pull (.there (.there (.there (.there (.there (.there (.there (.there (.there (.there .here)))))))))) ?_
                  refine Shift.pull (.there (.there (.there (.there (.there (.there (.there (.there (.there (.there .here)))))))))) ?_
                  refine Shift.pull (.there (.there (.there (.there (.there (.there .here)))))) ?_
                  refine Shift.pull (.there (.there (.there (.there (.there (.there (.there (.there (.there (.there .here)))))))))) ?_
                  refine Shift.pull (.there (.there (.there (.there (.there (.there (.there (.there (.there (.there .here)))))))))) ?_
                  refine Shift.pull (.there (.there (.there (.there (.there (.there (.there (.there (.there (.there .here)))))))))) ?_
                  refine Shift.pull (.there (.there (.there (.there (.there (.there (.there (.there (.there (.there .here)))))))))) ?_
                  refine Shift.pull (.there (.there (.there (.there (.there (.there (.there (.there (.there (.there .here)))))))))) ?_
                  refine Shift.done ?_
                  exact ⟨[(4, (.pointer (some ((⟨b878, 0, none⟩ : Addr).add 0)))), (5, (.pointer (some ((⟨b879, 0, none⟩ : Addr).add 0)))), (7, (.pointer (some ((⟨b893, 0, none⟩ : Addr).add 0)))), (8, (sv v900)), (9, (.pointer (some ((⟨b916, 0, none⟩ : Addr).add 0)))), (10, (.int .i64 i2628)), (11, (.pointer (some ((⟨b3250, 0, none⟩ : Addr).add 0)))), (12, (.pointer (some ((⟨b3251, 0, none⟩ : Addr).add 0)))), (15, (.pointer (some ((⟨b3884, 0, none⟩ : Addr).add 0)))), (16, (.pointer (some ((⟨b3887, 0, none⟩ : Addr).add 0))))], ⟨rfl, rfl, rfl, rfl, rfl, rfl, rfl, rfl, rfl, rfl, trivial⟩, b3884, b3887, x3866.kind, x3866.case_, x3866.value, x3866.ok, x3866.number, x3858.kind, x3858.case_, x3858.value, x3858.ok, x3858.number, x3867, x3868, rfl, rfl, rfl, H⟩
                · skip
                  refine id (Ax_mk rfl rfl ?_)
                  refine OpW_alloc (cs := (Result.cells (Result.mk 0 0 0 false 0))) rfl rfl rfl rfl (fun b3888 => ⟨(Inc.cons (.tail _ (.tail _ (.tail _ (.head _)))) (Inc.cons (.tail _ (.tail _ (.tail _ (.tail _ (.head _))))) (Inc.cons (.tail _ (.tail _ (.tail _ (.tail _ (.tail _ (.head _)))))) (Inc.cons (.tail _ (.tail _ (.tail _ (.tail _ (.tail _ (.tail _ (.head _))))))) (Inc.cons (.tail _ (.tail _ (.tail _ (.tail _ (.tail _ (.tail _ (.tail _ (.head _)))))))) (Inc.cons (.tail _ (.tail _ (.tail _ (.tail _ (.tail _ (.tail _ (.tail _ (.tail _ (.head _))))))))) (Inc.cons (.tail _ (.tail _ (.tail _ (.tail _ (.tail _ (.tail _ (.tail _ (.tail _ (.tail _ (.head _)))))))))) (Inc.cons (.tail _ (.tail _ (.tail _ (.tail _ (.tail _ (.tail _ (.tail _ (.tail _ (.tail _ (.tail _ (.head _))))))))))) Inc.nil)))))))), ?_⟩)
                  refine Aw_one 7 (by kernel_rfl) (Ax_mk rfl rfl ?_)
                  refine OpW.shift (Shift.pull (.there (.there .here)) (Shift.done ?_))
                  have hs3889 := (hs3259).mono hK3767
                  have hs3890 := (hs3262).mono hK3767
                  refine OpW_call rfl Try.call18 rfl rfl (c_M_law14_result b893 (Draw_Codes.mk x890.list x3859 x3860) v894 x896 v900 (Op.mk i3252 i3253 i3254 i3255 i3256 l3258 l3261) v3257 v3260 x3866 x3867 x3868 hx3869 _ _ hs3874 hs3875 hs3889 hs3890) ?_
                  rintro _ _ _ - ⟨rfl, rfl, rfl⟩
                  refine ⟨(Inc.cons (.tail _ (.tail _ (.tail _ (.head _)))) (Inc.cons (.tail _ (.tail _ (.tail _ (.tail _ (.head _))))) (Inc.cons (.tail _ (.tail _ (.tail _ (.tail _ (.tail _ (.head _)))))) (Inc.cons (.tail _ (.tail _ (.tail _ (.tail _ (.tail _ (.tail _ (.head _))))))) (Inc.cons (.tail _ (.tail _ (.tail _ (.tail _ (.tail _ (.tail _ (.tail _ (.head _)))))))) (Inc.cons (.tail _ (.tail _ (.tail _ (.tail _ (.tail _ (.tail _ (.tail _ (.tail _ (.head _))))))))) (Inc.cons (.tail _ (.tail _ (.tail _ (.tail _ (.tail _ (.tail _ (.tail _ (.tail _ (.tail _ (.head _)))))))))) (Inc.cons (.tail _ (.tail _ (.tail _ (.tail _ (.tail _ (.tail _ (.tail _ (.tail _ (.tail _ (.tail _ (.head _))))))))))) Inc.nil)))))))), ?_⟩
                  refine Aw_one 10 (by kernel_rfl) (Ax_mk rfl rfl ?_)
                  refine OpW_store (vs := (Result.cells x3858)) (all' := (Result.cells x3858)) rfl rfl rfl rfl rfl (.there (.there .here)) rfl rfl rfl ⟨(Inc.cons (.tail _ (.tail _ (.tail _ (.head _)))) (Inc.cons (.tail _ (.tail _ (.tail _ (.tail _ (.head _))))) (Inc.cons (.tail _ (.tail _ (.tail _ (.tail _ (.tail _ (.head _)))))) (Inc.cons (.tail _ (.tail _ (.tail _ (.tail _ (.tail _ (.tail _ (.head _))))))) (Inc.cons (.tail _ (.tail _ (.tail _ (.tail _ (.tail _ (.tail _ (.tail _ (.head _)))))))) (Inc.cons (.tail _ (.tail _ (.tail _ (.tail _ (.tail _ (.tail _ (.tail _ (.tail _ (.head _))))))))) (Inc.cons (.tail _ (.tail _ (.tail _ (.tail _ (.tail _ (.tail _ (.tail _ (.tail _ (.tail _ (.head _)))))))))) (Inc.cons (.tail _ (.tail _ (.tail _ (.tail _ (.tail _ (.tail _ (.tail _ (.tail _ (.tail _ (.tail _ (.head _))))))))))) Inc.nil)))))))), ?_⟩
                  refine Aw_one 11 (by kernel_rfl) (Ax_mk rfl rfl ?_)
                  refine OpW_store (vs := (Result.cells x3866)) (all' := (Result.cells x3866)) rfl rfl rfl rfl rfl (.there .here) rfl rfl rfl ⟨(Inc.cons (.tail _ (.tail _ (.tail _ (.head _)))) (Inc.cons (.tail _ (.tail _ (.tail _ (.tail _ (.head _))))) (Inc.cons (.tail _ (.tail _ (.tail _ (.tail _ (.tail _ (.head _)))))) (Inc.cons (.tail _ (.tail _ (.tail _ (.tail _ (.tail _ (.tail _ (.head _))))))) (Inc.cons (.tail _ (.tail _ (.tail _ (.tail _ (.tail _ (.tail _ (.tail _ (.head _)))))))) (Inc.cons (.tail _ (.tail _ (.tail _ (.tail _ (.tail _ (.tail _ (.tail _ (.tail _ (.head _))))))))) (Inc.cons (.tail _ (.tail _ (.tail _ (.tail _ (.tail _ (.tail _ (.tail _ (.tail _ (.tail _ (.head _)))))))))) (Inc.cons (.tail _ (.tail _ (.tail _ (.tail _ (.tail _ (.tail _ (.tail _ (.tail _ (.tail _ (.tail _ (.head _))))))))))) Inc.nil)))))))), ?_⟩
                  refine Aw_done (by kernel_rfl) ?_
                  refine Shift.pull (.there (.there (.there (.there (.there (.there (.there (.there (.there (.there .here)))))))))) ?_
                  refine Shift.pull (.there (.there (.there (.there (.there (.there (.there (.there (.there (.there .here)))))))))) ?_
                  refine Shift.pull (.there (.there (.there (.there (.there (.there (.there (.there (.there (.there .here)))))))))) ?_
                  refine Shift.pull (.there (.there (.there (.there (.there (.there (.there (.there (.there (.there .here)))))))))) ?_
                  refine Shift.pull (.there (.there (.there (.there (.there (.there (.there (.there (.there (.there .here)))))))))) ?_
                  refine Shift.pull (.there (.there (.there (.there (.there .here))))) ?_
                  refine Shift.pull (.there (.there (.there (.there (.there (.there (.there (.there (.there (.there .here)))))))))) ?_
                  refine Shift.pull (.there (.there (.there (.there (.there (.there (.there (.there (.there (.there .here)))))))))) ?_
                  refine Shift.pull (.there (.there (.there (.there (.there (.there (.there (.there (.there (.there .here)))))))))) ?_
                  refine Shift.pull (.there (.there (.there (.there (.there (.there (.there (.there (.there (.there .here)))))))))) ?_
                  refine Shift.pull (.there (.there (.there (.there (.there (.there (.there (.there (.there (.there .here)))))))))) ?_
                  refine Shift.done ?_
                  exact ⟨[(4, (.pointer (some ((⟨b878, 0, none⟩ : Addr).add 0)))), (5, (.pointer (some ((⟨b879, 0, none⟩ : Addr).add 0)))), (7, (.pointer (some ((⟨b893, 0, none⟩ : Addr).add 0)))), (8, (sv v900)), (9, (.pointer (some ((⟨b916, 0, none⟩ : Addr).add 0)))), (10, (.int .i64 i2628)), (11, (.pointer (some ((⟨b3250, 0, none⟩ : Addr).add 0)))), (12, (.pointer (some ((⟨b3251, 0, none⟩ : Addr).add 0)))), (15, (.pointer (some ((⟨b3884, 0, none⟩ : Addr).add 0)))), (16, (.pointer (some ((⟨b3888, 0, none⟩ : Addr).add 0))))], ⟨rfl, rfl, rfl, rfl, rfl, rfl, rfl, rfl, rfl, rfl, trivial⟩, b3884, b3888, x3866.kind, x3866.case_, x3866.value, x3866.ok, x3866.number, x3858.kind, x3858.case_, x3858.value, x3858.ok, x3858.number, x3867, x3868, rfl, rfl, rfl, H⟩
              · skip
                refine id (Ax_mk rfl rfl ?_)
                refine OpW_alloc (cs := (Result.cells (Result.mk 0 0 0 false 0))) rfl rfl rfl rfl (fun b3891 => ⟨(Inc.cons (.tail _ (.tail _ (.head _))) (Inc.cons (.tail _ (.tail _ (.tail _ (.head _)))) (Inc.cons (.tail _ (.tail _ (.tail _ (.tail _ (.head _))))) (Inc.cons (.tail _ (.tail _ (.tail _ (.tail _ (.tail _ (.head _)))))) (Inc.cons (.tail _ (.tail _ (.tail _ (.tail _ (.tail _ (.tail _ (.head _))))))) (Inc.cons (.tail _ (.tail _ (.tail _ (.tail _ (.tail _ (.tail _ (.tail _ (.head _)))))))) (Inc.cons (.tail _ (.tail _ (.tail _ (.tail _ (.tail _ (.tail _ (.tail _ (.tail _ (.head _))))))))) (Inc.cons (.tail _ (.tail _ (.tail _ (.tail _ (.tail _ (.tail _ (.tail _ (.tail _ (.tail _ (.head _)))))))))) Inc.nil)))))))), ?_⟩)
                refine Aw_two 7 8 (by kernel_rfl) ?_ ?_
                · skip
                  refine id (Ax_mk rfl rfl ?_)
                  refine OpW.shift (Shift.pull (.there .here) (Shift.done ?_))
                  have hs3892 := (hs3259).mono hK3767
                  have hs3893 := (hs3262).mono hK3767
                  refine OpW_call rfl Try.call18 rfl rfl (c_M_law14_result b893 (Draw_Codes.mk x890.list x3859 x3860) v894 x896 v900 (Op.mk i3252 i3253 i3254 i3255 i3256 l3258 l3261) v3257 v3260 x3866 x3867 x3868 hx3869 _ _ hs3874 hs3875 hs3892 hs3893) ?_
                  rintro _ _ _ - ⟨rfl, rfl, rfl⟩
                  refine ⟨(Inc.cons (.tail _ (.tail _ (.head _))) (Inc.cons (.tail _ (.tail _ (.tail _ (.head _)))) (Inc.cons (.tail _ (.tail _ (.tail _ (.tail _ (.head _))))) (Inc.cons (.tail _ (.tail _ (.tail _ (.tail _ (.tail _ (.head _)))))) (Inc.cons (.tail _ (.tail _ (.tail _ (.tail _ (.tail _ (.tail _ (.head _))))))) (Inc.cons (.tail _ (.tail _ (.tail _ (.tail _ (.tail _ (.tail _ (.tail _ (.head _)))))))) (Inc.cons (.tail _ (.tail _ (.tail _ (.tail _ (.tail _ (.tail _ (.tail _ (.tail _ (.head _))))))))) (Inc.cons (.tail _ (.tail _ (.tail _ (.tail _ (.tail _ (.tail _ (.tail _ (.tail _ (.tail _ (.head _)))))))))) Inc.nil)))))))), ?_⟩
                  refine Aw_one 8 (by kernel_rfl) (Ax_mk rfl rfl ?_)
                  refine OpW_alloc (cs := (Result.cells (Result.mk 0 0 0 false 0))) rfl rfl rfl rfl (fun b3894 => ⟨(Inc.cons (.tail _ (.tail _ (.tail _ (.head _)))) (Inc.cons (.tail _ (.tail _ (.tail _ (.tail _ (.head _))))) (Inc.cons (.tail _ (.tail _ (.tail _ (.tail _ (.tail _ (.head _)))))) (Inc.cons (.tail _ (.tail _ (.tail _ (.tail _ (.tail _ (.tail _ (.head _))))))) (Inc.cons (.tail _ (.tail _ (.tail _ (.tail _ (.tail _ (.tail _ (.tail _ (.head _)))))))) (Inc.cons (.tail _ (.tail _ (.tail _ (.tail _ (.tail _ (.tail _ (.tail _ (.tail _ (.head _))))))))) (Inc.cons (.tail _ (.tail _ (.tail _ (.tail _ (.tail _ (.tail _ (.tail _ (.tail _ (.tail _ (.head _)))))))))) (Inc.cons (.tail _ (.tail _ (.tail _ (.tail _ (.tail _ (.tail _ (.tail _ (.tail _ (.tail _ (.tail _ (.head _))))))))))) Inc.nil)))))))), ?_⟩)
                  refine Aw_one 10 (by kernel_rfl) (Ax_mk rfl rfl ?_)
                  refine OpW_store (vs := (Result.cells x3858)) (all' := (Result.cells x3858)) rfl rfl rfl rfl rfl .here rfl rfl rfl ⟨(Inc.cons (.tail _ (.tail _ (.tail _ (.head _)))) (Inc.cons (.tail _ (.tail _ (.tail _ (.tail _ (.head _))))) (Inc.cons (.tail _ (.tail _ (.tail _ (.tail _ (.tail _ (.head _)))))) (Inc.cons (.tail _ (.tail _ (.tail _ (.tail _ (.tail _ (.tail _ (.head _))))))) (Inc.cons (.tail _ (.tail _ (.tail _ (.tail _ (.tail _ (.tail _ (.tail _ (.head _)))))))) (Inc.cons (.tail _ (.tail _ (.tail _ (.tail _ (.tail _ (.tail _ (.tail _ (.tail _ (.head _))))))))) (Inc.cons (.tail _ (.tail _ (.tail _ (.tail _ (.tail _ (.tail _ (.tail _ (.tail _ (.tail _ (.head _)))))))))) (Inc.cons (.tail _ (.tail _ (.tail _ (.tail _ (.tail _ (.tail _ (.tail _ (.tail _ (.tail _ (.tail _ (.head _))))))))))) Inc.nil)))))))), ?_⟩
                  refine Aw_one 11 (by kernel_rfl) (Ax_mk rfl rfl ?_)
                  refine OpW_store (vs := (Result.cells x3866)) (all' := (Result.cells x3866)) rfl rfl rfl rfl rfl (.there (.there .here)) rfl rfl rfl ⟨(Inc.cons (.tail _ (.tail _ (.tail _ (.head _)))) (Inc.cons (.tail _ (.tail _ (.tail _ (.tail _ (.head _))))) (Inc.cons (.tail _ (.tail _ (.tail _ (.tail _ (.tail _ (.head _)))))) (Inc.cons (.tail _ (.tail _ (.tail _ (.tail _ (.tail _ (.tail _ (.head _))))))) (Inc.cons (.tail _ (.tail _ (.tail _ (.tail _ (.tail _ (.tail _ (.tail _ (.head _)))))))) (Inc.cons (.tail _ (.tail _ (.tail _ (.tail _ (.tail _ (.tail _ (.tail _ (.tail _ (.head _))))))))) (Inc.cons (.tail _ (.tail _ (.tail _ (.tail _ (.tail _ (.tail _ (.tail _ (.tail _ (.tail _ (.head _)))))))))) (Inc.cons (.tail _ (.tail _ (.tail _ (.tail _ (.tail _ (.tail _ (.tail _ (.tail _ (.tail _ (.tail _ (.head _))))))))))) Inc.nil)))))))), ?_⟩
                  refine Aw_done (by kernel_rfl) ?_
                  refine Shift.pull (.there (.there (.there (.there (.there (.there (.there (.there (.there (.there .here)))))))))) ?_
                  refine Shift.pull (.there (.there (.there (.there (.there (.there (.there (.there (.there (.there .here)))))))))) ?_
                  refine Shift.pull (.there (.there (.there (.there (.there (.there (.there (.there (.there (.there .here)))))))))) ?_
                  refine Shift.pull (.there (.there (.there (.there (.there (.there (.there (.there (.there (.there .here)))))))))) ?_
                  refine Shift.pull (.there (.there (.there (.there (.there (.there (.there (.there (.there (.there .here)))))))))) ?_
                  refine Shift.pull (.there (.there (.there (.there (.there (.there .here)))))) ?_
                  refine Shift.pull (.there (.there (.there (.there (.there (.there (.there (.there (.there (.there .here)))))))))) ?_
                  refine Shift.pull (.there (.there (.there (.there (.there (.there (.there (.there (.there (.there .here)))))))))) ?_
                  refine Shift.pull (.there (.there (.there (.there (.there (.there (.there (.there (.there (.there .here)))))))))) ?_
                  refine Shift.pull (.there (.there (.there (.there (.there (.there (.there (.there (.there .here))))))))) ?_
                  refine Shift.pull (.there (.there (.there (.there (.there (.there (.there (.there (.there (.there .here)))))))))) ?_
                  refine Shift.done ?_
                  exact ⟨[(4, (.pointer (some ((⟨b878, 0, none⟩ : Addr).add 0)))), (5, (.pointer (some ((⟨b879, 0, none⟩ : Addr).add 0)))), (7, (.pointer (some ((⟨b893, 0, none⟩ : Addr).add 0)))), (8, (sv v900)), (9, (.pointer (some ((⟨b916, 0, none⟩ : Addr).add 0)))), (10, (.int .i64 i2628)), (11, (.pointer (some ((⟨b3250, 0, none⟩ : Addr).add 0)))), (12, (.pointer (some ((⟨b3251, 0, none⟩ : Addr).add 0)))), (15, (.pointer (some ((⟨b3894, 0, none⟩ : Addr).add 0)))), (16, (.pointer (some ((⟨b3891, 0, none⟩ : Addr).add 0))))], ⟨rfl, rfl, rfl, rfl, rfl, rfl, rfl, rfl, rfl, rfl, trivial⟩, b3894, b3891, x3866.kind, x3866.case_, x3866.value, x3866.ok, x3866.number, x3858.kind, x3858.case_, x3858.value, x3858.ok, x3858.number, x3867, x3868, rfl, rfl, rfl, H⟩
                · skip
                  refine id (Ax_mk rfl rfl ?_)
                  refine OpW_alloc (cs := (Result.cells (Result.mk 0 0 0 false 0))) rfl rfl rfl rfl (fun b3895 => ⟨(Inc.cons (.tail _ (.tail _ (.tail _ (.head _)))) (Inc.cons (.tail _ (.tail _ (.tail _ (.tail _ (.head _))))) (Inc.cons (.tail _ (.tail _ (.tail _ (.tail _ (.tail _ (.head _)))))) (Inc.cons (.tail _ (.tail _ (.tail _ (.tail _ (.tail _ (.tail _ (.head _))))))) (Inc.cons (.tail _ (.tail _ (.tail _ (.tail _ (.tail _ (.tail _ (.tail _ (.head _)))))))) (Inc.cons (.tail _ (.tail _ (.tail _ (.tail _ (.tail _ (.tail _ (.tail _ (.tail _ (.head _))))))))) (Inc.cons (.tail _ (.tail _ (.tail _ (.tail _ (.tail _ (.tail _ (.tail _ (.tail _ (.tail _ (.head _)))))))))) (Inc.cons (.tail _ (.tail _ (.tail _ (.tail _ (.tail _ (.tail _ (.tail _ (.tail _ (.tail _ (.tail _ (.head _))))))))))) Inc.nil)))))))), ?_⟩)
                  refine Aw_one 7 (by kernel_rfl) (Ax_mk rfl rfl ?_)
                  refine OpW.shift (Shift.pull (.there (.there .here)) (Shift.done ?_))
                  have hs3896 := (hs3259).mono hK3767
                  have hs3897 := (hs3262).mono hK3767
                  refine OpW_call rfl Try.call18 rfl rfl (c_M_law14_result b893 (Draw_Codes.mk x890.list x3859 x3860) v894 x896 v900 (Op.mk i3252 i3253 i3254 i3255 i3256 l3258 l3261) v3257 v3260 x3866 x3867 x3868 hx3869 _ _ hs3874 hs3875 hs3896 hs3897) ?_
                  rintro _ _ _ - ⟨rfl, rfl, rfl⟩
                  refine ⟨(Inc.cons (.tail _ (.tail _ (.tail _ (.head _)))) (Inc.cons (.tail _ (.tail _ (.tail _ (.tail _ (.head _))))) (Inc.cons (.tail _ (.tail _ (.tail _ (.tail _ (.tail _ (.head _)))))) (Inc.cons (.tail _ (.tail _ (.tail _ (.tail _ (.tail _ (.tail _ (.head _))))))) (Inc.cons (.tail _ (.tail _ (.tail _ (.tail _ (.tail _ (.tail _ (.tail _ (.head _)))))))) (Inc.cons (.tail _ (.tail _ (.tail _ (.tail _ (.tail _ (.tail _ (.tail _ (.tail _ (.head _))))))))) (Inc.cons (.tail _ (.tail _ (.tail _ (.tail _ (.tail _ (.tail _ (.tail _ (.tail _ (.tail _ (.head _)))))))))) (Inc.cons (.tail _ (.tail _ (.tail _ (.tail _ (.tail _ (.tail _ (.tail _ (.tail _ (.tail _ (.tail _ (.head _))))))))))) Inc.nil)))))))), ?_⟩
                  refine Aw_one 10 (by kernel_rfl) (Ax_mk rfl rfl ?_)
                  refine OpW_store (vs := (Result.cells x3858)) (all' := (Result.cells x3858)) rfl rfl rfl rfl rfl (.there .here) rfl rfl rfl ⟨(Inc.cons (.tail _ (.tail _ (.tail _ (.head _)))) (Inc.cons (.tail _ (.tail _ (.tail _ (.tail _ (.head _))))) (Inc.cons (.tail _ (.tail _ (.tail _ (.tail _ (.tail _ (.head _)))))) (Inc.cons (.tail _ (.tail _ (.tail _ (.tail _ (.tail _ (.tail _ (.head _))))))) (Inc.cons (.tail _ (.tail _ (.tail _ (.tail _ (.tail _ (.tail _ (.tail _ (.head _)))))))) (Inc.cons (.tail _ (.tail _ (.tail _ (.tail _ (.tail _ (.tail _ (.tail _ (.tail _ (.head _))))))))) (Inc.cons (.tail _ (.tail _ (.tail _ (.tail _ (.tail _ (.tail _ (.tail _ (.tail _ (.tail _ (.head _)))))))))) (Inc.cons (.tail _ (.tail _ (.tail _ (.tail _ (.tail _ (.tail _ (.tail _ (.tail _ (.tail _ (.tail _ (.head _))))))))))) Inc.nil)))))))), ?_⟩
                  refine Aw_one 11 (by kernel_rfl) (Ax_mk rfl rfl ?_)
                  refine OpW_store (vs := (Result.cells x3866)) (all' := (Result.cells x3866)) rfl rfl rfl rfl rfl (.there (.there .here)) rfl rfl rfl ⟨(Inc.cons (.tail _ (.tail _ (.tail _ (.head _)))) (Inc.cons (.tail _ (.tail _ (.tail _ (.tail _ (.head _))))) (Inc.cons (.tail _ (.tail _ (.tail _ (.tail _ (.tail _ (.head _)))))) (Inc.cons (.tail _ (.tail _ (.tail _ (.tail _ (.tail _ (.tail _ (.head _))))))) (Inc.cons (.tail _ (.tail _ (.tail _ (.tail _ (.tail _ (.tail _ (.tail _ (.head _)))))))) (Inc.cons (.tail _ (.tail _ (.tail _ (.tail _ (.tail _ (.tail _ (.tail _ (.tail _ (.head _))))))))) (Inc.cons (.tail _ (.tail _ (.tail _ (.tail _ (.tail _ (.tail _ (.tail _ (.tail _ (.tail _ (.head _)))))))))) (Inc.cons (.tail _ (.tail _ (.tail _ (.tail _ (.tail _ (.tail _ (.tail _ (.tail _ (.tail _ (.tail _ (.head _))))))))))) Inc.nil)))))))), ?_⟩
                  refine Aw_done (by kernel_rfl) ?_
                  refine Shift.pull (.there (.there (.there (.there (.there (.there (.there (.there (.there (.there .here)))))))))) ?_
                  refine Shift.pull (.there (.there (.there (.there (.there (.there (.there (.there (.there (.there .here)))))))))) ?_
                  refine Shift.pull (.there (.there (.there (.there (.there (.there (.there (.there (.there (.there .here)))))))))) ?_
                  refine Shift.pull (.there (.there (.there (.there (.there (.there (.there (.there (.there (.there .here)))))))))) ?_
                  refine Shift.pull (.there (.there (.there (.there (.there (.there (.there (.there (.there (.there .here)))))))))) ?_
                  refine Shift.pull (.there (.there (.there (.there (.there .here))))) ?_
                  refine Shift.pull (.there (.there (.there (.there (.there (.there (.there (.there (.there (.there .here)))))))))) ?_
                  refine Shift.pull (.there (.there (.there (.there (.there (.there (.there (.there (.there (.there .here)))))))))) ?_
                  refine Shift.pull (.there (.there (.there (.there (.there (.there (.there (.there (.there (.there .here)))))))))) ?_
                  refine Shift.pull (.there (.there (.there (.there (.there (.there (.there (.there (.there .here))))))))) ?_
                  refine Shift.pull (.there (.there (.there (.there (.there (.there (.there (.there (.there (.there .here)))))))))) ?_
                  refine Shift.done ?_
                  exact ⟨[(4, (.pointer (some ((⟨b878, 0, none⟩ : Addr).add 0)))), (5, (.pointer (some ((⟨b879, 0, none⟩ : Addr).add 0)))), (7, (.pointer (some ((⟨b893, 0, none⟩ : Addr).add 0)))), (8, (sv v900)), (9, (.pointer (some ((⟨b916, 0, none⟩ : Addr).add 0)))), (10, (.int .i64 i2628)), (11, (.pointer (some ((⟨b3250, 0, none⟩ : Addr).add 0)))), (12, (.pointer (some ((⟨b3251, 0, none⟩ : Addr).add 0)))), (15, (.pointer (some ((⟨b3895, 0, none⟩ : Addr).add 0)))), (16, (.pointer (some ((⟨b3891, 0, none⟩ : Addr).add 0))))], ⟨rfl, rfl, rfl, rfl, rfl, rfl, rfl, rfl, rfl, rfl, trivial⟩, b3895, b3891, x3866.kind, x3866.case_, x3866.value, x3866.ok, x3866.number, x3858.kind, x3858.case_, x3858.value, x3858.ok, x3858.number, x3867, x3868, rfl, rfl, rfl, H⟩
            · skip
              refine id (Ax_mk rfl rfl ?_)
              refine OpW_alloc (cs := (Result.cells (Result.mk 0 0 0 false 0))) rfl rfl rfl rfl (fun b3898 => ⟨(Inc.cons (.tail _ (.head _)) (Inc.cons (.tail _ (.tail _ (.head _))) (Inc.cons (.tail _ (.tail _ (.tail _ (.head _)))) (Inc.cons (.tail _ (.tail _ (.tail _ (.tail _ (.tail _ (.head _)))))) (Inc.cons (.tail _ (.tail _ (.tail _ (.tail _ (.tail _ (.tail _ (.head _))))))) (Inc.cons (.tail _ (.tail _ (.tail _ (.tail _ (.tail _ (.tail _ (.tail _ (.head _)))))))) (Inc.cons (.tail _ (.tail _ (.tail _ (.tail _ (.tail _ (.tail _ (.tail _ (.tail _ (.head _))))))))) (Inc.cons (.tail _ (.tail _ (.tail _ (.tail _ (.tail _ (.tail _ (.tail _ (.tail _ (.tail _ (.head _)))))))))) Inc.nil)))))))), ?_⟩)
              refine Aw_two 3 9 (by kernel_rfl) ?_ ?_
              · skip
                refine id (Ax_mk rfl rfl ?_)
                refine OpW.shift (Shift.pull (.there (.there (.there (.there .here)))) (Shift.done ?_))
                have hs3899 := ((((((hs895).mono hK903).mono hK906).mono hK913).mono hK2633).mono hK3491).mono hK3767
                have hs3900 := ((((hs907).mono hK913).mono hK2633).mono hK3491).mono hK3767
                have hs3901 := (hs3270).mono hK3767
                have hs3902 := (hs3273).mono hK3767
                refine OpW_call rfl Try.call18 rfl rfl (c_M_law14_result b893 (Draw_Codes.mk x890.list i3274 i3275) v894 x896 v900 (Op.mk i3263 i3264 i3265 i3266 i3267 l3269 l3272) v3268 v3271 x3858 x3859 x3860 hx3861 _ _ hs3899 hs3900 hs3901 hs3902) ?_
                rintro _ _ _ - ⟨rfl, rfl, rfl⟩
                refine ⟨(Inc.cons (.tail _ (.tail _ (.head _))) (Inc.cons (.tail _ (.tail _ (.tail _ (.head _)))) (Inc.cons (.tail _ (.tail _ (.tail _ (.tail _ (.head _))))) (Inc.cons (.tail _ (.tail _ (.tail _ (.tail _ (.tail _ (.head _)))))) (Inc.cons (.tail _ (.tail _ (.tail _ (.tail _ (.tail _ (.tail _ (.head _))))))) (Inc.cons (.tail _ (.tail _ (.tail _ (.tail _ (.tail _ (.tail _ (.tail _ (.head _)))))))) (Inc.cons (.tail _ (.tail _ (.tail _ (.tail _ (.tail _ (.tail _ (.tail _ (.tail _ (.head _))))))))) (Inc.cons (.tail _ (.tail _ (.tail _ (.tail _ (.tail _ (.tail _ (.tail _ (.tail _ (.tail _ (.head _)))))))))) Inc.nil)))))))), ?_⟩
                refine Aw_two 7 9 (by kernel_rfl) ?_ ?_
                · skip
                  refine id (Ax_mk rfl rfl ?_)
                  have hs3903 := (hs3259).mono hK3767
                  have hs3904 := (hs3262).mono hK3767
                  refine OpW_call rfl Try.call18 rfl rfl (c_M_law14_result b893 (Draw_Codes.mk x890.list x3859 x3860) v894 x896 v900 (Op.mk i3252 i3253 i3254 i3255 i3256 l3258 l3261) v3257 v3260 x3866 x3867 x3868 hx3869 _ _ hs3899 hs3900 hs3903 hs3904) ?_
                  rintro _ _ _ - ⟨rfl, rfl, rfl⟩
                  refine ⟨(Inc.cons (.tail _ (.tail _ (.head _))) (Inc.cons (.tail _ (.tail _ (.tail _ (.head _)))) (Inc.cons (.tail _ (.tail _ (.tail _ (.tail _ (.head _))))) (Inc.cons (.tail _ (.tail _ (.tail _ (.tail _ (.tail _ (.head _)))))) (Inc.cons (.tail _ (.tail _ (.tail _ (.tail _ (.tail _ (.tail _ (.head _))))))) (Inc.cons (.tail _ (.tail _ (.tail _ (.tail _ (.tail _ (.tail _ (.tail _ (.head _)))))))) (Inc.cons (.tail _ (.tail _ (.tail _ (.tail _ (.tail _ (.tail _ (.tail _ (.tail _ (.head _))))))))) (Inc.cons (.tail _ (.tail _ (.tail _ (.tail _ (.tail _ (.tail _ (.tail _ (.tail _ (.tail _ (.head _)))))))))) Inc.nil)))))))), ?_⟩
                  refine Aw_one 9 (by kernel_rfl) (Ax_mk rfl rfl ?_)
                  refine OpW_alloc (cs := (Result.cells (Result.mk 0 0 0 false 0))) rfl rfl rfl rfl (fun b3905 => ⟨(Inc.cons (.tail _ (.tail _ (.tail _ (.head _)))) (Inc.cons (.tail _ (.tail _ (.tail _ (.tail _ (.head _))))) (Inc.cons (.tail _ (.tail _ (.tail _ (.tail _ (.tail _ (.head _)))))) (Inc.cons (.tail _ (.tail _ (.tail _ (.tail _ (.tail _ (.tail _ (.head _))))))) (Inc.cons (.tail _ (.tail _ (.tail _ (.tail _ (.tail _ (.tail _ (.tail _ (.head _)))))))) (Inc.cons (.tail _ (.tail _ (.tail _ (.tail _ (.tail _ (.tail _ (.tail _ (.tail _ (.head _))))))))) (Inc.cons (.tail _ (.tail _ (.tail _ (.tail _ (.tail _ (.tail _ (.tail _ (.tail _ (.tail _ (.head _)))))))))) (Inc.cons (.tail _ (.tail _ (.tail _ (.tail _ (.tail _ (.tail _ (.tail _ (.tail _ (.tail _ (.tail _ (.head _))))))))))) Inc.nil)))))))), ?_⟩)
                  refine Aw_one 10 (by kernel_rfl) (Ax_mk rfl rfl ?_)
                  refine OpW_store (vs := (Result.cells x3858)) (all' := (Result.cells x3858)) rfl rfl rfl rfl rfl (.there (.there .here)) rfl rfl rfl ⟨(Inc.cons (.tail _ (.tail _ (.tail _ (.head _)))) (Inc.cons (.tail _ (.tail _ (.tail _ (.tail _ (.head _))))) (Inc.cons (.tail _ (.tail _ (.tail _ (.tail _ (.tail _ (.head _)))))) (Inc.cons (.tail _ (.tail _ (.tail _ (.tail _ (.tail _ (.tail _ (.head _))))))) (Inc.cons (.tail _ (.tail _ (.tail _ (.tail _ (.tail _ (.tail _ (.tail _ (.head _)))))))) (Inc.cons (.tail _ (.tail _ (.tail _ (.tail _ (.tail _ (.tail _ (.tail _ (.tail _ (.head _))))))))) (Inc.cons (.tail _ (.tail _ (.tail _ (.tail _ (.tail _ (.tail _ (.tail _ (.tail _ (.tail _ (.head _)))))))))) (Inc.cons (.tail _ (.tail _ (.tail _ (.tail _ (.tail _ (.tail _ (.tail _ (.tail _ (.tail _ (.tail _ (.head _))))))))))) Inc.nil)))))))), ?_⟩
                  refine Aw_one 11 (by kernel_rfl) (Ax_mk rfl rfl ?_)
                  refine OpW_store (vs := (Result.cells x3866)) (all' := (Result.cells x3866)) rfl rfl rfl rfl rfl .here rfl rfl rfl ⟨(Inc.cons (.tail _ (.tail _ (.tail _ (.head _)))) (Inc.cons (.tail _ (.tail _ (.tail _ (.tail _ (.head _))))) (Inc.cons (.tail _ (.tail _ (.tail _ (.tail _ (.tail _ (.head _)))))) (Inc.cons (.tail _ (.tail _ (.tail _ (.tail _ (.tail _ (.tail _ (.head _))))))) (Inc.cons (.tail _ (.tail _ (.tail _ (.tail _ (.tail _ (.tail _ (.tail _ (.head _)))))))) (Inc.cons (.tail _ (.tail _ (.tail _ (.tail _ (.tail _ (.tail _ (.tail _ (.tail _ (.head _))))))))) (Inc.cons (.tail _ (.tail _ (.tail _ (.tail _ (.tail _ (.tail _ (.tail _ (.tail _ (.tail _ (.head _)))))))))) (Inc.cons (.tail _ (.tail _ (.tail _ (.tail _ (.tail _ (.tail _ (.tail _ (.tail _ (.tail _ (.tail _ (.head _))))))))))) Inc.nil)))))))), ?_⟩
                  refine Aw_done (by kernel_rfl) ?_
                  refine Shift.pull (.there (.there (.there (.there (.there (.there (.there (.there (.there (.there .here)))))))))) ?_
                  refine Shift.pull (.there (.there (.there (.there (.there (.there (.there (.there (.there (.there .here)))))))))) ?_
                  refine Shift.pull (.there (.there (.there (.there (.there (.there (.there (.there (.there (.there .here)))))))))) ?_
                  refine Shift.pull (.there (.there (.there (.there (.there (.there (.there (.there (.there (.there .here)))))))))) ?_
                  refine Shift.pull (.there (.there (.there (.there (.there (.there (.there (.there (.there (.there .here)))))))))) ?_
                  refine Shift.pull (.there (.there (.there (.there (.there (.there .here)))))) ?_
                  refine Shift.pull (.there (.there (.there (.there (.there (.there (.there (.there (.there (.there .here)))))))))) ?_
                  refine Shift.pull (.there (.there (.there (.there (.there (.there (.there (.there (.there (.there .here)))))))))) ?_
                  refine Shift.pull (.there (.there (.there (.there (.there (.there (.there (.there (.there (.there .here)))))))))) ?_
                  refine Shift.pull (.there (.there (.there (.there (.there (.there (.there (.there (.there (.there .here)))))))))) ?_
                  refine Shift.pull (.there (.there (.there (.there (.there (.there (.there (.there (.there (.there .here)))))))))) ?_
                  refine Shift.done ?_
                  exact ⟨[(4, (.pointer (some ((⟨b878, 0, none⟩ : Addr).add 0)))), (5, (.pointer (some ((⟨b879, 0, none⟩ : Addr).add 0)))), (7, (.pointer (some ((⟨b893, 0, none⟩ : Addr).add 0)))), (8, (sv v900)), (9, (.pointer (some ((⟨b916, 0, none⟩ : Addr).add 0)))), (10, (.int .i64 i2628)), (11, (.pointer (some ((⟨b3250, 0, none⟩ : Addr).add 0)))), (12, (.pointer (some ((⟨b3251, 0, none⟩ : Addr).add 0)))), (15, (.pointer (some ((⟨b3898, 0, none⟩ : Addr).add 0)))), (16, (.pointer (some ((⟨b3905, 0, none⟩ : Addr).add 0))))], ⟨rfl, rfl, rfl, rfl, rfl, rfl, rfl, rfl, rfl, rfl, trivial⟩, b3898, b3905, x3866.kind, x3866.case_, x3866.value, x3866.ok, x3866.number, x3858.kind, x3858.case_, x3858.value, x3858.ok, x3858.number, x3867, x3868, rfl, rfl, rfl, H⟩
                · skip
                  refine id (Ax_mk rfl rfl ?_)
                  refine OpW_alloc (cs := (Result.cells (Result.mk 0 0 0 false 0))) rfl rfl rfl rfl (fun b3906 => ⟨(Inc.cons (.tail _ (.tail _ (.tail _ (.head _)))) (Inc.cons (.tail _ (.tail _ (.tail _ (.tail _ (.head _))))) (Inc.cons (.tail _ (.tail _ (.tail _ (.tail _ (.tail _ (.head _)))))) (Inc.cons (.tail _ (.tail _ (.tail _ (.tail _ (.tail _ (.tail _ (.head _))))))) (Inc.cons (.tail _ (.tail _ (.tail _ (.tail _ (.tail _ (.tail _ (.tail _ (.head _)))))))) (Inc.cons (.tail _ (.tail _ (.tail _ (.tail _ (.tail _ (.tail _ (.tail _ (.tail _ (.head _))))))))) (Inc.cons (.tail _ (.tail _ (.tail _ (.tail _ (.tail _ (.tail _ (.tail _ (.tail _ (.tail _ (.head _)))))))))) (Inc.cons (.tail _ (.tail _ (.tail _ (.tail _ (.tail _ (.tail _ (.tail _ (.tail _ (.tail _ (.tail _ (.head _))))))))))) Inc.nil)))))))), ?_⟩)
                  refine Aw_one 7 (by kernel_rfl) (Ax_mk rfl rfl ?_)
                  refine OpW.shift (Shift.pull (.there .here) (Shift.done ?_))
                  have hs3907 := (hs3259).mono hK3767
                  have hs3908 := (hs3262).mono hK3767
                  refine OpW_call rfl Try.call18 rfl rfl (c_M_law14_result b893 (Draw_Codes.mk x890.list x3859 x3860) v894 x896 v900 (Op.mk i3252 i3253 i3254 i3255 i3256 l3258 l3261) v3257 v3260 x3866 x3867 x3868 hx3869 _ _ hs3899 hs3900 hs3907 hs3908) ?_
                  rintro _ _ _ - ⟨rfl, rfl, rfl⟩
                  refine ⟨(Inc.cons (.tail _ (.tail _ (.tail _ (.head _)))) (Inc.cons (.tail _ (.tail _ (.tail _ (.tail _ (.head _))))) (Inc.cons (.tail _ (.tail _ (.tail _ (.tail _ (.tail _ (.head _)))))) (Inc.cons (.tail _ (.tail _ (.tail _ (.tail _ (.tail _ (.tail _ (.head _))))))) (Inc.cons (.tail _ (.tail _ (.tail _ (.tail _ (.tail _ (.tail _ (.tail _ (.head _)))))))) (Inc.cons (.tail _ (.tail _ (.tail _ (.tail _ (.tail _ (.tail _ (.tail _ (.tail _ (.head _))))))))) (Inc.cons (.tail _ (.tail _ (.tail _ (.tail _ (.tail _ (.tail _ (.tail _ (.tail _ (.tail _ (.head _)))))))))) (Inc.cons (.tail _ (.tail _ (.tail _ (.tail _ (.tail _ (.tail _ (.tail _ (.tail _ (.tail _ (.tail _ (.head _))))))))))) Inc.nil)))))))), ?_⟩
                  refine Aw_one 10 (by kernel_rfl) (Ax_mk rfl rfl ?_)
                  refine OpW_store (vs := (Result.cells x3858)) (all' := (Result.cells x3858)) rfl rfl rfl rfl rfl (.there (.there .here)) rfl rfl rfl ⟨(Inc.cons (.tail _ (.tail _ (.tail _ (.head _)))) (Inc.cons (.tail _ (.tail _ (.tail _ (.tail _ (.head _))))) (Inc.cons (.tail _ (.tail _ (.tail _ (.tail _ (.tail _ (.head _)))))) (Inc.cons (.tail _ (.tail _ (.tail _ (.tail _ (.tail _ (.tail _ (.head _))))))) (Inc.cons (.tail _ (.tail _ (.tail _ (.tail _ (.tail _ (.tail _ (.tail _ (.head _)))))))) (Inc.cons (.tail _ (.tail _ (.tail _ (.tail _ (.tail _ (.tail _ (.tail _ (.tail _ (.head _))))))))) (Inc.cons (.tail _ (.tail _ (.tail _ (.tail _ (.tail _ (.tail _ (.tail _ (.tail _ (.tail _ (.head _)))))))))) (Inc.cons (.tail _ (.tail _ (.tail _ (.tail _ (.tail _ (.tail _ (.tail _ (.tail _ (.tail _ (.tail _ (.head _))))))))))) Inc.nil)))))))), ?_⟩
                  refine Aw_one 11 (by kernel_rfl) (Ax_mk rfl rfl ?_)
                  refine OpW_store (vs := (Result.cells x3866)) (all' := (Result.cells x3866)) rfl rfl rfl rfl rfl (.there .here) rfl rfl rfl ⟨(Inc.cons (.tail _ (.tail _ (.tail _ (.head _)))) (Inc.cons (.tail _ (.tail _ (.tail _ (.tail _ (.head _))))) (Inc.cons (.tail _ (.tail _ (.tail _ (.tail _ (.tail _ (.head _)))))) (Inc.cons (.tail _ (.tail _ (.tail _ (.tail _ (.tail _ (.tail _ (.head _))))))) (Inc.cons (.tail _ (.tail _ (.tail _ (.tail _ (.tail _ (.tail _ (.tail _ (.head _)))))))) (Inc.cons (.tail _ (.tail _ (.tail _ (.tail _ (.tail _ (.tail _ (.tail _ (.tail _ (.head _))))))))) (Inc.cons (.tail _ (.tail _ (.tail _ (.tail _ (.tail _ (.tail _ (.tail _ (.tail _ (.tail _ (.head _)))))))))) (Inc.cons (.tail _ (.tail _ (.tail _ (.tail _ (.tail _ (.tail _ (.tail _ (.tail _ (.tail _ (.tail _ (.head _))))))))))) Inc.nil)))))))), ?_⟩
                  refine Aw_done (by kernel_rfl) ?_
                  refine Shift.pull (.there (.there (.there (.there (.there (.there (.there (.there (.there (.there .here)))))))))) ?_
                  refine Shift.pull (.there (.there (.there (.there (.there (.there (.there (.there (.there (.there .here)))))))))) ?_
                  refine Shift.pull (.there (.there (.there (.there (.there (.there (.there (.there (.there (.there .here)))))))))) ?_
                  refine Shift.pull (.there (.there (.there (.there (.there (.there (.there (.there (.there (.there .here)))))))))) ?_
                  refine Shift.pull (.there (.there (.there (.there (.there (.there (.there (.there (.there (.there .here)))))))))) ?_
                  refine Shift.pull (.there (.there (.there (.there (.there .here))))) ?_
                  refine Shift.pull (.there (.there (.there (.there (.there (.there (.there (.there (.there (.there .here)))))))))) ?_
                  refine Shift.pull (.there (.there (.there (.there (.there (.there (.there (.there (.there (.there .here)))))))))) ?_
                  refine Shift.pull (.there (.there (.there (.there (.there (.there (.there (.there (.there (.there .here)))))))))) ?_
                  refine Shift.pull (.there (.there (.there (.there (.there (.there (.there (.there (.there (.there .here)))))))))) ?_
                  refine Shift.pull (.there (.there (.there (.there (.there (.there (.there (.there (.there (.there .here)))))))))) ?_
                  refine Shift.done ?_
                  exact ⟨[(4, (.pointer (some ((⟨b878, 0, none⟩ : Addr).add 0)))), (5, (.pointer (some ((⟨b879, 0, none⟩ : Addr).add 0)))), (7, (.pointer (some ((⟨b893, 0, none⟩ : Addr).add 0)))), (8, (sv v900)), (9, (.pointer (some ((⟨b916, 0, none⟩ : Addr).add 0)))), (10, (.int .i64 i2628)), (11, (.pointer (some ((⟨b3250, 0, none⟩ : Addr).add 0)))), (12, (.pointer (some ((⟨b3251, 0, none⟩ : Addr).add 0)))), (15, (.pointer (some ((⟨b3898, 0, none⟩ : Addr).add 0)))), (16, (.pointer (some ((⟨b3906, 0, none⟩ : Addr).add 0))))], ⟨rfl, rfl, rfl, rfl, rfl, rfl, rfl, rfl, rfl, rfl, trivial⟩, b3898, b3906, x3866.kind, x3866.case_, x3866.value, x3866.ok, x3866.number, x3858.kind, x3858.case_, x3858.value, x3858.ok, x3858.number, x3867, x3868, rfl, rfl, rfl, H⟩
              · skip
                refine id (Ax_mk rfl rfl ?_)
                refine OpW_alloc (cs := (Result.cells (Result.mk 0 0 0 false 0))) rfl rfl rfl rfl (fun b3909 => ⟨(Inc.cons (.tail _ (.tail _ (.head _))) (Inc.cons (.tail _ (.tail _ (.tail _ (.head _)))) (Inc.cons (.tail _ (.tail _ (.tail _ (.tail _ (.head _))))) (Inc.cons (.tail _ (.tail _ (.tail _ (.tail _ (.tail _ (.tail _ (.head _))))))) (Inc.cons (.tail _ (.tail _ (.tail _ (.tail _ (.tail _ (.tail _ (.tail _ (.head _)))))))) (Inc.cons (.tail _ (.tail _ (.tail _ (.tail _ (.tail _ (.tail _ (.tail _ (.tail _ (.head _))))))))) (Inc.cons (.tail _ (.tail _ (.tail _ (.tail _ (.tail _ (.tail _ (.tail _ (.tail _ (.tail _ (.head _)))))))))) (Inc.cons (.tail _ (.tail _ (.tail _ (.tail _ (.tail _ (.tail _ (.tail _ (.tail _ (.tail _ (.tail _ (.head _))))))))))) Inc.nil)))))))), ?_⟩)
                refine Aw_one 3 (by kernel_rfl) (Ax_mk rfl rfl ?_)
                refine OpW.shift (Shift.pull (.there (.there (.there (.there (.there .here))))) (Shift.done ?_))
                have hs3910 := ((((((hs895).mono hK903).mono hK906).mono hK913).mono hK2633).mono hK3491).mono hK3767
                have hs3911 := ((((hs907).mono hK913).mono hK2633).mono hK3491).mono hK3767
                have hs3912 := (hs3270).mono hK3767
                have hs3913 := (hs3273).mono hK3767
                refine OpW_call rfl Try.call18 rfl rfl (c_M_law14_result b893 (Draw_Codes.mk x890.list i3274 i3275) v894 x896 v900 (Op.mk i3263 i3264 i3265 i3266 i3267 l3269 l3272) v3268 v3271 x3858 x3859 x3860 hx3861 _ _ hs3910 hs3911 hs3912 hs3913) ?_
                rintro _ _ _ - ⟨rfl, rfl, rfl⟩
                refine ⟨(Inc.cons (.tail _ (.tail _ (.tail _ (.head _)))) (Inc.cons (.tail _ (.tail _ (.tail _ (.tail _ (.head _))))) (Inc.cons (.tail _ (.tail _ (.tail _ (.tail _ (.tail _ (.head _)))))) (Inc.cons (.tail _ (.tail _ (.tail _ (.tail _ (.tail _ (.tail _ (.head _))))))) (Inc.cons (.tail _ (.tail _ (.tail _ (.tail _ (.tail _ (.tail _ (.tail _ (.head _)))))))) (Inc.cons (.tail _ (.tail _ (.tail _ (.tail _ (.tail _ (.tail _ (.tail _ (.tail _ (.head _))))))))) (Inc.cons (.tail _ (.tail _ (.tail _ (.tail _ (.tail _ (.tail _ (.tail _ (.tail _ (.tail _ (.head _)))))))))) (Inc.cons (.tail _ (.tail _ (.tail _ (.tail _ (.tail _ (.tail _ (.tail _ (.tail _ (.tail _ (.tail _ (.head _))))))))))) Inc.nil)))))))), ?_⟩
                refine Aw_one 7 (by kernel_rfl) (Ax_mk rfl rfl ?_)
                have hs3914 := (hs3259).mono hK3767
                have hs3915 := (hs3262).mono hK3767
                refine OpW_call rfl Try.call18 rfl rfl (c_M_law14_result b893 (Draw_Codes.mk x890.list x3859 x3860) v894 x896 v900 (Op.mk i3252 i3253 i3254 i3255 i3256 l3258 l3261) v3257 v3260 x3866 x3867 x3868 hx3869 _ _ hs3910 hs3911 hs3914 hs3915) ?_
                rintro _ _ _ - ⟨rfl, rfl, rfl⟩
                refine ⟨(Inc.cons (.tail _ (.tail _ (.tail _ (.head _)))) (Inc.cons (.tail _ (.tail _ (.tail _ (.tail _ (.head _))))) (Inc.cons (.tail _ (.tail _ (.tail _ (.tail _ (.tail _ (.head _)))))) (Inc.cons (.tail _ (.tail _ (.tail _ (.tail _ (.tail _ (.tail _ (.head _))))))) (Inc.cons (.tail _ (.tail _ (.tail _ (.tail _ (.tail _ (.tail _ (.tail _ (.head _)))))))) (Inc.cons (.tail _ (.tail _ (.tail _ (.tail _ (.tail _ (.tail _ (.tail _ (.tail _ (.head _))))))))) (Inc.cons (.tail _ (.tail _ (.tail _ (.tail _ (.tail _ (.tail _ (.tail _ (.tail _ (.tail _ (.head _)))))))))) (Inc.cons (.tail _ (.tail _ (.tail _ (.tail _ (.tail _ (.tail _ (.tail _ (.tail _ (.tail _ (.tail _ (.head _))))))))))) Inc.nil)))))))), ?_⟩
                refine Aw_one 10 (by kernel_rfl) (Ax_mk rfl rfl ?_)
                refine OpW_store (vs := (Result.cells x3858)) (all' := (Result.cells x3858)) rfl rfl rfl rfl rfl (.there (.there .here)) rfl rfl rfl ⟨(Inc.cons (.tail _ (.tail _ (.tail _ (.head _)))) (Inc.cons (.tail _ (.tail _ (.tail _ (.tail _ (.head _))))) (Inc.cons (.tail _ (.tail _ (.tail _ (.tail _ (.tail _ (.head _)))))) (Inc.cons (.tail _ (.tail _ (.tail _ (.tail _ (.tail _ (.tail _ (.head _))))))) (Inc.cons (.tail _ (.tail _ (.tail _ (.tail _ (.tail _ (.tail _ (.tail _ (.head _)))))))) (Inc.cons (.tail _ (.tail _ (.tail _ (.tail _ (.tail _ (.tail _ (.tail _ (.tail _ (.head _))))))))) (Inc.cons (.tail _ (.tail _ (.tail _ (.tail _ (.tail _ (.tail _ (.tail _ (.tail _ (.tail _ (.head _)))))))))) (Inc.cons (.tail _ (.tail _ (.tail _ (.tail _ (.tail _ (.tail _ (.tail _ (.tail _ (.tail _ (.tail _ (.head _))))))))))) Inc.nil)))))))), ?_⟩
                refine Aw_one 11 (by kernel_rfl) (Ax_mk rfl rfl ?_)
                refine OpW_store (vs := (Result.cells x3866)) (all' := (Result.cells x3866)) rfl rfl rfl rfl rfl (.there .here) rfl rfl rfl ⟨(Inc.cons (.tail _ (.tail _ (.tail _ (.head _)))) (Inc.cons (.tail _ (.tail _ (.tail _ (.tail _ (.head _))))) (Inc.cons (.tail _ (.tail _ (.tail _ (.tail _ (.tail _ (.head _)))))) (Inc.cons (.tail _ (.tail _ (.tail _ (.tail _ (.tail _ (.tail _ (.head _))))))) (Inc.cons (.tail _ (.tail _ (.tail _ (.tail _ (.tail _ (.tail _ (.tail _ (.head _)))))))) (Inc.cons (.tail _ (.tail _ (.tail _ (.tail _ (.tail _ (.tail _ (.tail _ (.tail _ (.head _))))))))) (Inc.cons (.tail _ (.tail _ (.tail _ (.tail _ (.tail _ (.tail _ (.tail _ (.tail _ (.tail _ (.head _)))))))))) (Inc.cons (.tail _ (.tail _ (.tail _ (.tail _ (.tail _ (.tail _ (.tail _ (.tail _ (.tail _ (.tail _ (.head _))))))))))) Inc.nil)))))))), ?_⟩
                refine Aw_done (by kernel_rfl) ?_
                refine Shift.pull (.there (.there (.there (.there (.there (.there (.there (.there (.there (.there .here)))))))))) ?_
                refine Shift.pull (.there (.there (.there (.there (.there (.there (.there (.there (.there (.there .here)))))))))) ?_
                refine Shift.pull (.there (.there (.there (.there (.there (.there (.there (.there (.there (.there .here)))))))))) ?_
                refine Shift.pull (.there (.there (.there (.there (.there (.there (.there (.there (.there (.there .here)))))))))) ?_
                refine Shift.pull (.there (.there (.there (.there (.there (.there (.there (.there (.there (.there .here)))))))))) ?_
                refine Shift.pull (.there (.there (.there (.there (.there .here))))) ?_
                refine Shift.pull (.there (.there (.there (.there (.there (.there (.there (.there (.there (.there .here)))))))))) ?_
                refine Shift.pull (.there (.there (.there (.there (.there (.there (.there (.there (.there (.there .here)))))))))) ?_
                refine Shift.pull (.there (.there (.there (.there (.there (.there (.there (.there (.there (.there .here)))))))))) ?_
                refine Shift.pull (.there (.there (.there (.there (.there (.there (.there (.there (.there (.there .here)))))))))) ?_
                refine Shift.pull (.there (.there (.there (.there (.there (.there (.there (.there (.there (.there .here)))))))))) ?_
                refine Shift.done ?_
                exact ⟨[(4, (.pointer (some ((⟨b878, 0, none⟩ : Addr).add 0)))), (5, (.pointer (some ((⟨b879, 0, none⟩ : Addr).add 0)))), (7, (.pointer (some ((⟨b893, 0, none⟩ : Addr).add 0)))), (8, (sv v900)), (9, (.pointer (some ((⟨b916, 0, none⟩ : Addr).add 0)))), (10, (.int .i64 i2628)), (11, (.pointer (some ((⟨b3250, 0, none⟩ : Addr).add 0)))), (12, (.pointer (some ((⟨b3251, 0, none⟩ : Addr).add 0)))), (15, (.pointer (some ((⟨b3898, 0, none⟩ : Addr).add 0)))), (16, (.pointer (some ((⟨b3909, 0, none⟩ : Addr).add 0))))], ⟨rfl, rfl, rfl, rfl, rfl, rfl, rfl, rfl, rfl, rfl, trivial⟩, b3898, b3909, x3866.kind, x3866.case_, x3866.value, x3866.ok, x3866.number, x3858.kind, x3858.case_, x3858.value, x3858.ok, x3858.number, x3867, x3868, rfl, rfl, rfl, H⟩
            · skip
              refine id (Ax_mk rfl rfl ?_)
              refine OpW_alloc (cs := (Result.cells (Result.mk 0 0 0 false 0))) rfl rfl rfl rfl (fun b3916 => ⟨(Inc.cons (.tail _ (.head _)) (Inc.cons (.tail _ (.tail _ (.head _))) (Inc.cons (.tail _ (.tail _ (.tail _ (.head _)))) (Inc.cons (.tail _ (.tail _ (.tail _ (.tail _ (.tail _ (.head _)))))) (Inc.cons (.tail _ (.tail _ (.tail _ (.tail _ (.tail _ (.tail _ (.head _))))))) (Inc.cons (.tail _ (.tail _ (.tail _ (.tail _ (.tail _ (.tail _ (.tail _ (.head _)))))))) (Inc.cons (.tail _ (.tail _ (.tail _ (.tail _ (.tail _ (.tail _ (.tail _ (.tail _ (.head _))))))))) (Inc.cons (.tail _ (.tail _ (.tail _ (.tail _ (.tail _ (.tail _ (.tail _ (.tail _ (.tail _ (.head _)))))))))) Inc.nil)))))))), ?_⟩)
              refine Aw_two 3 8 (by kernel_rfl) ?_ ?_
              · skip
                refine id (Ax_mk rfl rfl ?_)
                refine OpW.shift (Shift.pull (.there (.there (.there (.there .here)))) (Shift.done ?_))
                have hs3917 := ((((((hs895).mono hK903).mono hK906).mono hK913).mono hK2633).mono hK3491).mono hK3767
                have hs3918 := ((((hs907).mono hK913).mono hK2633).mono hK3491).mono hK3767
                have hs3919 := (hs3270).mono hK3767
                have hs3920 := (hs3273).mono hK3767
                refine OpW_call rfl Try.call18 rfl rfl (c_M_law14_result b893 (Draw_Codes.mk x890.list i3274 i3275) v894 x896 v900 (Op.mk i3263 i3264 i3265 i3266 i3267 l3269 l3272) v3268 v3271 x3858 x3859 x3860 hx3861 _ _ hs3917 hs3918 hs3919 hs3920) ?_
                rintro _ _ _ - ⟨rfl, rfl, rfl⟩
                refine ⟨(Inc.cons (.tail _ (.tail _ (.head _))) (Inc.cons (.tail _ (.tail _ (.tail _ (.head _)))) (Inc.cons (.tail _ (.tail _ (.tail _ (.tail _ (.head _))))) (Inc.cons (.tail _ (.tail _ (.tail _ (.tail _ (.tail _ (.head _)))))) (Inc.cons (.tail _ (.tail _ (.tail _ (.tail _ (.tail _ (.tail _ (.head _))))))) (Inc.cons (.tail _ (.tail _ (.tail _ (.tail _ (.tail _ (.tail _ (.tail _ (.head _)))))))) (Inc.cons (.tail _ (.tail _ (.tail _ (.tail _ (.tail _ (.tail _ (.tail _ (.tail _ (.head _))))))))) (Inc.cons (.tail _ (.tail _ (.tail _ (.tail _ (.tail _ (.tail _ (.tail _ (.tail _ (.tail _ (.head _)))))))))) Inc.nil)))))))), ?_⟩
                refine Aw_two 7 8 (by kernel_rfl) ?_ ?_
                · skip
                  refine id (Ax_mk rfl rfl ?_)
                  have hs3921 := (hs3259).mono hK3767
                  have hs3922 := (hs3262).mono hK3767
                  refine OpW_call rfl Try.call18 rfl rfl (c_M_law14_result b893 (Draw_Codes.mk x890.list x3859 x3860) v894 x896 v900 (Op.mk i3252 i3253 i3254 i3255 i3256 l3258 l3261) v3257 v3260 x3866 x3867 x3868 hx3869 _ _ hs3917 hs3918 hs3921 hs3922) ?_
                  rintro _ _ _ - ⟨rfl, rfl, rfl⟩
                  refine ⟨(Inc.cons (.tail _ (.tail _ (.head _))) (Inc.cons (.tail _ (.tail _ (.tail _ (.head _)))) (Inc.cons (.tail _ (.tail _ (.tail _ (.tail _ (.head _))))) (Inc.cons (.tail _ (.tail _ (.tail _ (.tail _ (.tail _ (.head _)))))) (Inc.cons (.tail _ (.tail _ (.tail _ (.tail _ (.tail _ (.tail _ (.head _))))))) (Inc.cons (.tail _ (.tail _ (.tail _ (.tail _ (.tail _ (.tail _ (.tail _ (.head _)))))))) (Inc.cons (.tail _ (.tail _ (.tail _ (.tail _ (.tail _ (.tail _ (.tail _ (.tail _ (.head _))))))))) (Inc.cons (.tail _ (.tail _ (.tail _ (.tail _ (.tail _ (.tail _ (.tail _ (.tail _ (.tail _ (.head _)))))))))) Inc.nil)))))))), ?_⟩
                  refine Aw_one 8 (by kernel_rfl) (Ax_mk rfl rfl ?_)
                  refine OpW_alloc (cs := (Result.cells (Result.mk 0 0 0 false 0))) rfl rfl rfl rfl (fun b3923 => ⟨(Inc.cons (.tail _ (.tail _ (.tail _ (.head _)))) (Inc.cons (.tail _ (.tail _ (.tail _ (.tail _ (.head _))))) (Inc.cons (.tail _ (.tail _ (.tail _ (.tail _ (.tail _ (.head _)))))) (Inc.cons (.tail _ (.tail _ (.tail _ (.tail _ (.tail _ (.tail _ (.head _))))))) (Inc.cons (.tail _ (.tail _ (.tail _ (.tail _ (.tail _ (.tail _ (.tail _ (.head _)))))))) (Inc.cons (.tail _ (.tail _ (.tail _ (.tail _ (.tail _ (.tail _ (.tail _ (.tail _ (.head _))))))))) (Inc.cons (.tail _ (.tail _ (.tail _ (.tail _ (.tail _ (.tail _ (.tail _ (.tail _ (.tail _ (.head _)))))))))) (Inc.cons (.tail _ (.tail _ (.tail _ (.tail _ (.tail _ (.tail _ (.tail _ (.tail _ (.tail _ (.tail _ (.head _))))))))))) Inc.nil)))))))), ?_⟩)
                  refine Aw_one 10 (by kernel_rfl) (Ax_mk rfl rfl ?_)
                  refine OpW_store (vs := (Result.cells x3858)) (all' := (Result.cells x3858)) rfl rfl rfl rfl rfl .here rfl rfl rfl ⟨(Inc.cons (.tail _ (.tail _ (.tail _ (.head _)))) (Inc.cons (.tail _ (.tail _ (.tail _ (.tail _ (.head _))))) (Inc.cons (.tail _ (.tail _ (.tail _ (.tail _ (.tail _ (.head _)))))) (Inc.cons (.tail _ (.tail _ (.tail _ (.tail _ (.tail _ (.tail _ (.head _))))))) (Inc.cons (.tail _ (.tail _ (.tail _ (.tail _ (.tail _ (.tail _ (.tail _ (.head _)))))))) (Inc.cons (.tail _ (.tail _ (.tail _ (.tail _ (.tail _ (.tail _ (.tail _ (.tail _ (.head _))))))))) (Inc.cons (.tail _ (.tail _ (.tail _ (.tail _ (.tail _ (.tail _ (.tail _ (.tail _ (.tail _ (.head _)))))))))) (Inc.cons (.tail _ (.tail _ (.tail _ (.tail _ (.tail _ (.tail _ (.tail _ (.tail _ (.tail _ (.tail _ (.head _))))))))))) Inc.nil)))))))), ?_⟩
                  refine Aw_one 11 (by kernel_rfl) (Ax_mk rfl rfl ?_)
                  refine OpW_store (vs := (Result.cells x3866)) (all' := (Result.cells x3866)) rfl rfl rfl rfl rfl (.there (.there .here)) rfl rfl rfl ⟨(Inc.cons (.tail _ (.tail _ (.tail _ (.head _)))) (Inc.cons (.tail _ (.tail _ (.tail _ (.tail _ (.head _))))) (Inc.cons (.tail _ (.tail _ (.tail _ (.tail _ (.tail _ (.head _)))))) (Inc.cons (.tail _ (.tail _ (.tail _ (.tail _ (.tail _ (.tail _ (.head _))))))) (Inc.cons (.tail _ (.tail _ (.tail _ (.tail _ (.tail _ (.tail _ (.tail _ (.head _)))))))) (Inc.cons (.tail _ (.tail _ (.tail _ (.tail _ (.tail _ (.tail _ (.tail _ (.tail _ (.head _))))))))) (Inc.cons (.tail _ (.tail _ (.tail _ (.tail _ (.tail _ (.tail _ (.tail _ (.tail _ (.tail _ (.head _)))))))))) (Inc.cons (.tail _ (.tail _ (.tail _ (.tail _ (.tail _ (.tail _ (.tail _ (.tail _ (.tail _ (.tail _ (.head _))))))))))) Inc.nil)))))))), ?_⟩
                  refine Aw_done (by kernel_rfl) ?_
                  refine Shift.pull (.there (.there (.there (.there (.there (.there (.there (.there (.there (.there .here)))))))))) ?_
                  refine Shift.pull (.there (.there (.there (.there (.there (.there (.there (.there (.there (.there .here)))))))))) ?_
                  refine Shift.pull (.there (.there (.there (.there (.there (.there (.there (.there (.there (.there .here)))))))))) ?_
                  refine Shift.pull (.there (.there (.there (.there (.there (.there (.there (.there (.there (.there .here)))))))))) ?_
                  refine Shift.pull (.there (.there (.there (.there (.there (.there (.there (.there (.there (.there .here)))))))))) ?_
                  refine Shift.pull (.there (.there (.there (.there (.there (.there .here)))))) ?_
                  refine Shift.pull (.there (.there (.there (.there (.there (.there (.there (.there (.there (.there .here)))))))))) ?_
                  refine Shift.pull (.there (.there (.there (.there (.there (.there (.there (.there (.there (.there .here)))))))))) ?_
                  refine Shift.pull (.there (.there (.there (.there (.there (.there (.there (.there (.there (.there .here)))))))))) ?_
                  refine Shift.pull (.there (.there (.there (.there (.there (.there (.there (.there (.there .here))))))))) ?_
                  refine Shift.pull (.there (.there (.there (.there (.there (.there (.there (.there (.there (.there .here)))))))))) ?_
                  refine Shift.done ?_
                  exact ⟨[(4, (.pointer (some ((⟨b878, 0, none⟩ : Addr).add 0)))), (5, (.pointer (some ((⟨b879, 0, none⟩ : Addr).add 0)))), (7, (.pointer (some ((⟨b893, 0, none⟩ : Addr).add 0)))), (8, (sv v900)), (9, (.pointer (some ((⟨b916, 0, none⟩ : Addr).add 0)))), (10, (.int .i64 i2628)), (11, (.pointer (some ((⟨b3250, 0, none⟩ : Addr).add 0)))), (12, (.pointer (some ((⟨b3251, 0, none⟩ : Addr).add 0)))), (15, (.pointer (some ((⟨b3923, 0, none⟩ : Addr).add 0)))), (16, (.pointer (some ((⟨b3916, 0, none⟩ : Addr).add 0))))], ⟨rfl, rfl, rfl, rfl, rfl, rfl, rfl, rfl, rfl, rfl, trivial⟩, b3923, b3916, x3866.kind, x3866.case_, x3866.value, x3866.ok, x3866.number, x3858.kind, x3858.case_, x3858.value, x3858.ok, x3858.number, x3867, x3868, rfl, rfl, rfl, H⟩
                · skip
                  refine id (Ax_mk rfl rfl ?_)
                  refine OpW_alloc (cs := (Result.cells (Result.mk 0 0 0 false 0))) rfl rfl rfl rfl (fun b3924 => ⟨(Inc.cons (.tail _ (.tail _ (.tail _ (.head _)))) (Inc.cons (.tail _ (.tail _ (.tail _ (.tail _ (.head _))))) (Inc.cons (.tail _ (.tail _ (.tail _ (.tail _ (.tail _ (.head _)))))) (Inc.cons (.tail _ (.tail _ (.tail _ (.tail _ (.tail _ (.tail _ (.head _))))))) (Inc.cons (.tail _ (.tail _ (.tail _ (.tail _ (.tail _ (.tail _ (.tail _ (.head _)))))))) (Inc.cons (.tail _ (.tail _ (.tail _ (.tail _ (.tail _ (.tail _ (.tail _ (.tail _ (.head _))))))))) (Inc.cons (.tail _ (.tail _ (.tail _ (.tail _ (.tail _ (.tail _ (.tail _ (.tail _ (.tail _ (.head _)))))))))) (Inc.cons (.tail _ (.tail _ (.tail _ (.tail _ (.tail _ (.tail _ (.tail _ (.tail _ (.tail _ (.tail _ (.head _))))))))))) Inc.nil)))))))), ?_⟩)
                  refine Aw_one 7 (by kernel_rfl) (Ax_mk rfl rfl ?_)
                  refine OpW.shift (Shift.pull (.there .here) (Shift.done ?_))
                  have hs3925 := (hs3259).mono hK3767
                  have hs3926 := (hs3262).mono hK3767
                  refine OpW_call rfl Try.call18 rfl rfl (c_M_law14_result b893 (Draw_Codes.mk x890.list x3859 x3860) v894 x896 v900 (Op.mk i3252 i3253 i3254 i3255 i3256 l3258 l3261) v3257 v3260 x3866 x3867 x3868 hx3869 _ _ hs3917 hs3918 hs3925 hs3926) ?_
                  rintro _ _ _ - ⟨rfl, rfl, rfl⟩
                  refine ⟨(Inc.cons (.tail _ (.tail _ (.tail _ (.head _)))) (Inc.cons (.tail _ (.tail _ (.tail _ (.tail _ (.head _))))) (Inc.cons (.tail _ (.tail _ (.tail _ (.tail _ (.tail _ (.head _)))))) (Inc.cons (.tail _ (.tail _ (.tail _ (.tail _ (.tail _ (.tail _ (.head _))))))) (Inc.cons (.tail _ (.tail _ (.tail _ (.tail _ (.tail _ (.tail _ (.tail _ (.head _)))))))) (Inc.cons (.tail _ (.tail _ (.tail _ (.tail _ (.tail _ (.tail _ (.tail _ (.tail _ (.head _))))))))) (Inc.cons (.tail _ (.tail _ (.tail _ (.tail _ (.tail _ (.tail _ (.tail _ (.tail _ (.tail _ (.head _)))))))))) (Inc.cons (.tail _ (.tail _ (.tail _ (.tail _ (.tail _ (.tail _ (.tail _ (.tail _ (.tail _ (.tail _ (.head _))))))))))) Inc.nil)))))))), ?_⟩
                  refine Aw_one 10 (by kernel_rfl) (Ax_mk rfl rfl ?_)
                  refine OpW_store (vs := (Result.cells x3858)) (all' := (Result.cells x3858)) rfl rfl rfl rfl rfl (.there .here) rfl rfl rfl ⟨(Inc.cons (.tail _ (.tail _ (.tail _ (.head _)))) (Inc.cons (.tail _ (.tail _ (.tail _ (.tail _ (.head _))))) (Inc.cons (.tail _ (.tail _ (.tail _ (.tail _ (.tail _ (.head _)))))) (Inc.cons (.tail _ (.tail _ (.tail _ (.tail _ (.tail _ (.tail _ (.head _))))))) (Inc.cons (.tail _ (.tail _ (.tail _ (.tail _ (.tail _ (.tail _ (.tail _ (.head _)))))))) (Inc.cons (.tail _ (.tail _ (.tail _ (.tail _ (.tail _ (.tail _ (.tail _ (.tail _ (.head _))))))))) (Inc.cons (.tail _ (.tail _ (.tail _ (.tail _ (.tail _ (.tail _ (.tail _ (.tail _ (.tail _ (.head _)))))))))) (Inc.cons (.tail _ (.tail _ (.tail _ (.tail _ (.tail _ (.tail _ (.tail _ (.tail _ (.tail _ (.tail _ (.head _))))))))))) Inc.nil)))))))), ?_⟩
                  refine Aw_one 11 (by kernel_rfl) (Ax_mk rfl rfl ?_)
                  refine OpW_store (vs := (Result.cells x3866)) (all' := (Result.cells x3866)) rfl rfl rfl rfl rfl (.there (.there .here)) rfl rfl rfl ⟨(Inc.cons (.tail _ (.tail _ (.tail _ (.head _)))) (Inc.cons (.tail _ (.tail _ (.tail _ (.tail _ (.head _))))) (Inc.cons (.tail _ (.tail _ (.tail _ (.tail _ (.tail _ (.head _)))))) (Inc.cons (.tail _ (.tail _ (.tail _ (.tail _ (.tail _ (.tail _ (.head _))))))) (Inc.cons (.tail _ (.tail _ (.tail _ (.tail _ (.tail _ (.tail _ (.tail _ (.head _)))))))) (Inc.cons (.tail _ (.tail _ (.tail _ (.tail _ (.tail _ (.tail _ (.tail _ (.tail _ (.head _))))))))) (Inc.cons (.tail _ (.tail _ (.tail _ (.tail _ (.tail _ (.tail _ (.tail _ (.tail _ (.tail _ (.head _)))))))))) (Inc.cons (.tail _ (.tail _ (.tail _ (.tail _ (.tail _ (.tail _ (.tail _ (.tail _ (.tail _ (.tail _ (.head _))))))))))) Inc.nil)))))))), ?_⟩
                  refine Aw_done (by kernel_rfl) ?_
                  refine Shift.pull (.there (.there (.there (.there (.there (.there (.there (.there (.there (.there .here)))))))))) ?_
                  refine Shift.pull (.there (.there (.there (.there (.there (.there (.there (.there (.there (.there .here)))))))))) ?_
                  refine Shift.pull (.there (.there (.there (.there (.there (.there (.there (.there (.there (.there .here)))))))))) ?_
                  refine Shift.pull (.there (.there (.there (.there (.there (.there (.there (.there (.there (.there .here)))))))))) ?_
                  refine Shift.pull (.there (.there (.there (.there (.there (.there (.there (.there (.there (.there .here)))))))))) ?_
                  refine Shift.pull (.there (.there (.there (.there (.there .here))))) ?_
                  refine Shift.pull (.there (.there (.there (.there (.there (.there (.there (.there (.there (.there .here)))))))))) ?_
                  refine Shift.pull (.there (.there (.there (.there (.there (.there (.there (.there (.there (.there .here)))))))))) ?_
                  refine Shift.pull (.there (.there (.there (.there (.there (.there (.there (.there (.there (.there .here)))))))))) ?_
                  refine Shift.pull (.there (.there (.there (.there (.there (.there (.there (.there (.there .here))))))))) ?_
                  refine Shift.pull (.there (.there (.there (.there (.there (.there (.there (.there (.there (.there .here)))))))))) ?_
                  refine Shift.done ?_
                  exact ⟨[(4, (.pointer (some ((⟨b878, 0, none⟩ : Addr).add 0)))), (5, (.pointer (some ((⟨b879, 0, none⟩ : Addr).add 0)))), (7, (.pointer (some ((⟨b893, 0, none⟩ : Addr).add 0)))), (8, (sv v900)), (9, (.pointer (some ((⟨b916, 0, none⟩ : Addr).add 0)))), (10, (.int .i64 i2628)), (11, (.pointer (some ((⟨b3250, 0, none⟩ : Addr).add 0)))), (12, (.pointer (some ((⟨b3251, 0, none⟩ : Addr).add 0)))), (15, (.pointer (some ((⟨b3924, 0, none⟩ : Addr).add 0)))), (16, (.pointer (some ((⟨b3916, 0, none⟩ : Addr).add 0))))], ⟨rfl, rfl, rfl, rfl, rfl, rfl, rfl, rfl, rfl, rfl, trivial⟩, b3924, b3916, x3866.kind, x3866.case_, x3866.value, x3866.ok, x3866.number, x3858.kind, x3858.case_, x3858.value, x3858.ok, x3858.number, x3867, x3868, rfl, rfl, rfl, H⟩
              · skip
                refine id (Ax_mk rfl rfl ?_)
                refine OpW_alloc (cs := (Result.cells (Result.mk 0 0 0 false 0))) rfl rfl rfl rfl (fun b3927 => ⟨(Inc.cons (.tail _ (.tail _ (.head _))) (Inc.cons (.tail _ (.tail _ (.tail _ (.head _)))) (Inc.cons (.tail _ (.tail _ (.tail _ (.tail _ (.head _))))) (Inc.cons (.tail _ (.tail _ (.tail _ (.tail _ (.tail _ (.tail _ (.head _))))))) (Inc.cons (.tail _ (.tail _ (.tail _ (.tail _ (.tail _ (.tail _ (.tail _ (.head _)))))))) (Inc.cons (.tail _ (.tail _ (.tail _ (.tail _ (.tail _ (.tail _ (.tail _ (.tail _ (.head _))))))))) (Inc.cons (.tail _ (.tail _ (.tail _ (.tail _ (.tail _ (.tail _ (.tail _ (.tail _ (.tail _ (.head _)))))))))) (Inc.cons (.tail _ (.tail _ (.tail _ (.tail _ (.tail _ (.tail _ (.tail _ (.tail _ (.tail _ (.tail _ (.head _))))))))))) Inc.nil)))))))), ?_⟩)
                refine Aw_one 3 (by kernel_rfl) (Ax_mk rfl rfl ?_)
                refine OpW.shift (Shift.pull (.there (.there (.there (.there (.there .here))))) (Shift.done ?_))
                have hs3928 := ((((((hs895).mono hK903).mono hK906).mono hK913).mono hK2633).mono hK3491).mono hK3767
                have hs3929 := ((((hs907).mono hK913).mono hK2633).mono hK3491).mono hK3767
                have hs3930 := (hs3270).mono hK3767
                have hs3931 := (hs3273).mono hK3767
                refine OpW_call rfl Try.call18 rfl rfl (c_M_law14_result b893 (Draw_Codes.mk x890.list i3274 i3275) v894 x896 v900 (Op.mk i3263 i3264 i3265 i3266 i3267 l3269 l3272) v3268 v3271 x3858 x3859 x3860 hx3861 _ _ hs3928 hs3929 hs3930 hs3931) ?_
                rintro _ _ _ - ⟨rfl, rfl, rfl⟩
                refine ⟨(Inc.cons (.tail _ (.tail _ (.tail _ (.head _)))) (Inc.cons (.tail _ (.tail _ (.tail _ (.tail _ (.head _))))) (Inc.cons (.tail _ (.tail _ (.tail _ (.tail _ (.tail _ (.head _)))))) (Inc.cons (.tail _ (.tail _ (.tail _ (.tail _ (.tail _ (.tail _ (.head _))))))) (Inc.cons (.tail _ (.tail _ (.tail _ (.tail _ (.tail _ (.tail _ (.tail _ (.head _)))))))) (Inc.cons (.tail _ (.tail _ (.tail _ (.tail _ (.tail _ (.tail _ (.tail _ (.tail _ (.head _))))))))) (Inc.cons (.tail _ (.tail _ (.tail _ (.tail _ (.tail _ (.tail _ (.tail _ (.tail _ (.tail _ (.head _)))))))))) (Inc.cons (.tail _ (.tail _ (.tail _ (.tail _ (.tail _ (.tail _ (.tail _ (.tail _ (.tail _ (.tail _ (.head _))))))))))) Inc.nil)))))))), ?_⟩
                refine Aw_one 7 (by kernel_rfl) (Ax_mk rfl rfl ?_)
                have hs3932 := (hs3259).mono hK3767
                have hs3933 := (hs3262).mono hK3767
                refine OpW_call rfl Try.call18 rfl rfl (c_M_law14_result b893 (Draw_Codes.mk x890.list x3859 x3860) v894 x896 v900 (Op.mk i3252 i3253 i3254 i3255 i3256 l3258 l3261) v3257 v3260 x3866 x3867 x3868 hx3869 _ _ hs3928 hs3929 hs3932 hs3933) ?_
                rintro _ _ _ - ⟨rfl, rfl, rfl⟩
                refine ⟨(Inc.cons (.tail _ (.tail _ (.tail _ (.head _)))) (Inc.cons (.tail _ (.tail _ (.tail _ (.tail _ (.head _))))) (Inc.cons (.tail _ (.tail _ (.tail _ (.tail _ (.tail _ (.head _)))))) (Inc.cons (.tail _ (.tail _ (.tail _ (.tail _ (.tail _ (.tail _ (.head _))))))) (Inc.cons (.tail _ (.tail _ (.tail _ (.tail _ (.tail _ (.tail _ (.tail _ (.head _)))))))) (Inc.cons (.tail _ (.tail _ (.tail _ (.tail _ (.tail _ (.tail _ (.tail _ (.tail _ (.head _))))))))) (Inc.cons (.tail _ (.tail _ (.tail _ (.tail _ (.tail _ (.tail _ (.tail _ (.tail _ (.tail _ (.head _)))))))))) (Inc.cons (.tail _ (.tail _ (.tail _ (.tail _ (.tail _ (.tail _ (.tail _ (.tail _ (.tail _ (.tail _ (.head _))))))))))) Inc.nil)))))))), ?_⟩
                refine Aw_one 10 (by kernel_rfl) (Ax_mk rfl rfl ?_)
                refine OpW_store (vs := (Result.cells x3858)) (all' := (Result.cells x3858)) rfl rfl rfl rfl rfl (.there .here) rfl rfl rfl ⟨(Inc.cons (.tail _ (.tail _ (.tail _ (.head _)))) (Inc.cons (.tail _ (.tail _ (.tail _ (.tail _ (.head _))))) (Inc.cons (.tail _ (.tail _ (.tail _ (.tail _ (.tail _ (.head _)))))) (Inc.cons (.tail _ (.tail _ (.tail _ (.tail _ (.tail _ (.tail _ (.head _))))))) (Inc.cons (.tail _ (.tail _ (.tail _ (.tail _ (.tail _ (.tail _ (.tail _ (.head _)))))))) (Inc.cons (.tail _ (.tail _ (.tail _ (.tail _ (.tail _ (.tail _ (.tail _ (.tail _ (.head _))))))))) (Inc.cons (.tail _ (.tail _ (.tail _ (.tail _ (.tail _ (.tail _ (.tail _ (.tail _ (.tail _ (.head _)))))))))) (Inc.cons (.tail _ (.tail _ (.tail _ (.tail _ (.tail _ (.tail _ (.tail _ (.tail _ (.tail _ (.tail _ (.head _))))))))))) Inc.nil)))))))), ?_⟩
                refine Aw_one 11 (by kernel_rfl) (Ax_mk rfl rfl ?_)
                refine OpW_store (vs := (Result.cells x3866)) (all' := (Result.cells x3866)) rfl rfl rfl rfl rfl (.there (.there .here)) rfl rfl rfl ⟨(Inc.cons (.tail _ (.tail _ (.tail _ (.head _)))) (Inc.cons (.tail _ (.tail _ (.tail _ (.tail _ (.head _))))) (Inc.cons (.tail _ (.tail _ (.tail _ (.tail _ (.tail _ (.head _)))))) (Inc.cons (.tail _ (.tail _ (.tail _ (.tail _ (.tail _ (.tail _ (.head _))))))) (Inc.cons (.tail _ (.tail _ (.tail _ (.tail _ (.tail _ (.tail _ (.tail _ (.head _)))))))) (Inc.cons (.tail _ (.tail _ (.tail _ (.tail _ (.tail _ (.tail _ (.tail _ (.tail _ (.head _))))))))) (Inc.cons (.tail _ (.tail _ (.tail _ (.tail _ (.tail _ (.tail _ (.tail _ (.tail _ (.tail _ (.head _)))))))))) (Inc.cons (.tail _ (.tail _ (.tail _ (.tail _ (.tail _ (.tail _ (.tail _ (.tail _ (.tail _ (.tail _ (.head _))))))))))) Inc.nil)))))))), ?_⟩
                refine Aw_done (by kernel_rfl) ?_
                refine Shift.pull (.there (.there (.there (.there (.there (.there (.there (.there (.there (.there .here)))))))))) ?_
                refine Shift.pull (.there (.there (.there (.there (.there (.there (.there (.there (.there (.there .here)))))))))) ?_
                refine Shift.pull (.there (.there (.there (.there (.there (.there (.there (.there (.there (.there .here)))))))))) ?_
                refine Shift.pull (.there (.there (.there (.there (.there (.there (.there (.there (.there (.there .here)))))))))) ?_
                refine Shift.pull (.there (.there (.there (.there (.there (.there (.there (.there (.there (.there .here)))))))))) ?_
                refine Shift.pull (.there (.there (.there (.there (.there .here))))) ?_
                refine Shift.pull (.there (.there (.there (.there (.there (.there (.there (.there (.there (.there .here)))))))))) ?_
                refine Shift.pull (.there (.there (.there (.there (.there (.there (.there (.there (.there (.there .here)))))))))) ?_
                refine Shift.pull (.there (.there (.there (.there (.there (.there (.there (.there (.there (.there .here)))))))))) ?_
                refine Shift.pull (.there (.there (.there (.there (.there (.there (.there (.there (.there .here))))))))) ?_
                refine Shift.pull (.there (.there (.there (.there (.there (.there (.there (.there (.there (.there .here)))))))))) ?_
                refine Shift.done ?_
                exact ⟨[(4, (.pointer (some ((⟨b878, 0, none⟩ : Addr).add 0)))), (5, (.pointer (some ((⟨b879, 0, none⟩ : Addr).add 0)))), (7, (.pointer (some ((⟨b893, 0, none⟩ : Addr).add 0)))), (8, (sv v900)), (9, (.pointer (some ((⟨b916, 0, none⟩ : Addr).add 0)))), (10, (.int .i64 i2628)), (11, (.pointer (some ((⟨b3250, 0, none⟩ : Addr).add 0)))), (12, (.pointer (some ((⟨b3251, 0, none⟩ : Addr).add 0)))), (15, (.pointer (some ((⟨b3927, 0, none⟩ : Addr).add 0)))), (16, (.pointer (some ((⟨b3916, 0, none⟩ : Addr).add 0))))], ⟨rfl, rfl, rfl, rfl, rfl, rfl, rfl, rfl, rfl, rfl, trivial⟩, b3927, b3916, x3866.kind, x3866.case_, x3866.value, x3866.ok, x3866.number, x3858.kind, x3858.case_, x3858.value, x3858.ok, x3858.number, x3867, x3868, rfl, rfl, rfl, H⟩
          rintro _ _ _ - ⟨b3844, b3845, i3846, i3847, i3848, t3849, i3850, i3851, i3852, i3853, t3854, i3855, i3856, i3857, rfl, rfl, rfl, H⟩
          unfold M_law14_ModelPairs_J6 at H
          refine Cw_join (fun env' K' G' => ∃ (t3958 : Bool), [(4, (.pointer (some ((⟨b878, 0, none⟩ : Addr).add 0)))), (5, (.pointer (some ((⟨b879, 0, none⟩ : Addr).add 0)))), (7, (.pointer (some ((⟨b893, 0, none⟩ : Addr).add 0)))), (8, (sv v900)), (9, (.pointer (some ((⟨b916, 0, none⟩ : Addr).add 0)))), (10, (.int .i64 i2628)), (123, (.bool t3958))] = env' ∧ K3766 = K' ∧ (.blk b916 34 (Config.cells x908 v910 v911)) :: (.blk b893 85 (Draw_Codes.cells (Draw_Codes.mk x890.list i3856 i3857) v894)) :: (.blk b879 25 (Result.cells p2)) :: (.blk b878 25 (Result.cells p1)) :: (.tok 3 1 [(sv v910)]) :: (.tok 23 1 [(sv v911)]) :: (.tok 83 3 [(sv v900)]) :: G = G' ∧ M_law14_ModelPairs_J7 x896 i2628 x908 x890 i3856 i3857 p2 p1 k2635 t3958 = some y0) ?_ ?_
          · skip
            obtain ⟨x3959, hx3960, H⟩ := bnd H
            obtain ⟨x3966, hx3967, H⟩ := bnd H
            rcases bool_ct (!((x3959 == x3966))) with hb_ | hb_ <;> revert hb_
            · intro h3968
              have h3968 := nt_t (h3968)
              have H := iff_ (btf h3968) H
              refine Cw_region_any [.blk b3845 25 (Result.cells (Result.mk i3846 i3847 i3848 t3849 i3850)), .blk b3844 25 (Result.cells (Result.mk i3851 i3852 i3853 t3854 i3855)), .blk b3251 38 (Op.cells (Op.mk i3252 i3253 i3254 i3255 i3256 l3258 l3261) v3257 v3260), .blk b3250 38 (Op.cells (Op.mk i3263 i3264 i3265 i3266 i3267 l3269 l3272) v3268 v3271), .blk b916 34 (Config.cells x908 v910 v911), .blk b893 85 (Draw_Codes.cells (Draw_Codes.mk x890.list i3856 i3857) v894), .blk b879 25 (Result.cells p2), .blk b878 25 (Result.cells p1), .tok 3 1 [(sv v910)], .tok 23 1 [(sv v911)], .tok 83 3 [(sv v900)]] rfl (Inc.cons (.head _) (Inc.cons (.tail _ (.head _)) (Inc.cons (.tail _ (.tail _ (.head _))) (Inc.cons (.tail _ (.tail _ (.tail _ (.head _)))) (Inc.cons (.tail _ (.tail _ (.tail _ (.tail _ (.head _))))) (Inc.cons (.tail _ (.tail _ (.tail _ (.tail _ (.tail _ (.head _)))))) (Inc.cons (.tail _ (.tail _ (.tail _ (.tail _ (.tail _ (.tail _ (.head _))))))) (Inc.cons (.tail _ (.tail _ (.tail _ (.tail _ (.tail _ (.tail _ (.tail _ (.head _)))))))) (Inc.cons (.tail _ (.tail _ (.tail _ (.tail _ (.tail _ (.tail _ (.tail _ (.tail _ (.head _))))))))) (Inc.cons (.tail _ (.tail _ (.tail _ (.tail _ (.tail _ (.tail _ (.tail _ (.tail _ (.tail _ (.head _)))))))))) (Inc.cons (.tail _ (.tail _ (.tail _ (.tail _ (.tail _ (.tail _ (.tail _ (.tail _ (.tail _ (.tail _ (.head _))))))))))) Inc.nil))))))))))) ?_
              refine Aw_q 0 rfl (by kernel_rfl) (by kernel_rfl) (by kernel_rfl) rfl rfl rfl (Qt_move rfl) ?_
              refine Aw_q 1 rfl (by kernel_rfl) (by kernel_rfl) (by kernel_rfl) rfl rfl rfl (Qt_loadA (m := 7) (cs := (Op.cells (Op.mk i3263 i3264 i3265 i3266 i3267 l3269 l3272) v3268 v3271)) rfl rfl rfl rfl ⟨rfl, Rdc.blk (.tail _ (.tail _ (.tail _ (.head _)))) rfl⟩) ?_
              refine Aw_q 2 rfl (by kernel_rfl) (by kernel_rfl) (by kernel_rfl) rfl rfl rfl (Qt_loadA (m := 5) (cs := (Result.cells (Result.mk i3851 i3852 i3853 t3854 i3855))) rfl rfl rfl rfl ⟨rfl, Rdc.blk (.tail _ (.head _)) rfl⟩) ?_
              refine Aw_q 3 rfl (by kernel_rfl) (by kernel_rfl) (by kernel_rfl) rfl rfl rfl (Qt_loadA (m := 7) (cs := (Op.cells (Op.mk i3252 i3253 i3254 i3255 i3256 l3258 l3261) v3257 v3260)) rfl rfl rfl rfl ⟨rfl, Rdc.blk (.tail _ (.tail _ (.head _))) rfl⟩) ?_
              refine Aw_q 4 rfl (by kernel_rfl) (by kernel_rfl) (by kernel_rfl) rfl rfl rfl (Qt_loadA (m := 5) (cs := (Result.cells (Result.mk i3846 i3847 i3848 t3849 i3850))) rfl rfl rfl rfl ⟨rfl, Rdc.blk (.head _) rfl⟩) ?_
              refine Aw_q 6 rfl (by kernel_rfl) (by kernel_rfl) (by kernel_rfl) rfl rfl rfl (Qt_move rfl) ?_
              refine Aw_q 7 rfl (by kernel_rfl) (by kernel_rfl) (by kernel_rfl) rfl rfl rfl (Qt_loadA (m := 7) (cs := (Op.cells (Op.mk i3263 i3264 i3265 i3266 i3267 l3269 l3272) v3268 v3271)) rfl rfl rfl rfl ⟨rfl, Rdc.blk (.tail _ (.tail _ (.tail _ (.head _)))) rfl⟩) ?_
              refine Aw_q 8 rfl (by kernel_rfl) (by kernel_rfl) (by kernel_rfl) rfl rfl rfl (Qt_loadA (m := 5) (cs := (Result.cells (Result.mk i3851 i3852 i3853 t3854 i3855))) rfl rfl rfl rfl ⟨rfl, Rdc.blk (.tail _ (.head _)) rfl⟩) ?_
              refine Aw_q 9 rfl (by kernel_rfl) (by kernel_rfl) (by kernel_rfl) rfl rfl rfl (Qt_loadA (m := 7) (cs := (Op.cells (Op.mk i3252 i3253 i3254 i3255 i3256 l3258 l3261) v3257 v3260)) rfl rfl rfl rfl ⟨rfl, Rdc.blk (.tail _ (.tail _ (.head _))) rfl⟩) ?_
              refine Aw_q 10 rfl (by kernel_rfl) (by kernel_rfl) (by kernel_rfl) rfl rfl rfl (Qt_loadA (m := 5) (cs := (Result.cells (Result.mk i3846 i3847 i3848 t3849 i3850))) rfl rfl rfl rfl ⟨rfl, Rdc.blk (.head _) rfl⟩) ?_
              refine Aw_one 5 (by kernel_rfl) (Ax_mk rfl rfl ?_)
              have hs3969 := ((((hs907).mono hK913).mono hK2633).mono hK3491).mono hK3767
              have hs3970 := (hs3270).mono hK3767
              have hs3971 := (hs3273).mono hK3767
              have hs3972 := (hs3259).mono hK3767
              have hs3973 := (hs3262).mono hK3767
              refine OpW_call rfl Try.call23 rfl rfl (c_M_model_Pair x896 v900 (Op.mk i3263 i3264 i3265 i3266 i3267 l3269 l3272) v3268 v3271 (Result.mk i3851 i3852 i3853 t3854 i3855) (Op.mk i3252 i3253 i3254 i3255 i3256 l3258 l3261) v3257 v3260 (Result.mk i3846 i3847 i3848 t3849 i3850) x3959 hx3960 _ _ hs3969 hs3970 hs3971 hs3972 hs3973) ?_
              rintro _ _ _ - ⟨rfl, rfl, rfl⟩
              refine ⟨(Inc.cons (.head _) (Inc.cons (.tail _ (.head _)) (Inc.cons (.tail _ (.tail _ (.head _))) (Inc.cons (.tail _ (.tail _ (.tail _ (.head _)))) (Inc.cons (.tail _ (.tail _ (.tail _ (.tail _ (.head _))))) (Inc.cons (.tail _ (.tail _ (.tail _ (.tail _ (.tail _ (.head _)))))) (Inc.cons (.tail _ (.tail _ (.tail _ (.tail _ (.tail _ (.tail _ (.head _))))))) (Inc.cons (.tail _ (.tail _ (.tail _ (.tail _ (.tail _ (.tail _ (.tail _ (.head _)))))))) (Inc.cons (.tail _ (.tail _ (.tail _ (.tail _ (.tail _ (.tail _ (.tail _ (.tail _ (.head _))))))))) (Inc.cons (.tail _ (.tail _ (.tail _ (.tail _ (.tail _ (.tail _ (.tail _ (.tail _ (.tail _ (.head _)))))))))) (Inc.cons (.tail _ (.tail _ (.tail _ (.tail _ (.tail _ (.tail _ (.tail _ (.tail _ (.tail _ (.tail _ (.head _))))))))))) Inc.nil))))))))))), ?_⟩
              refine Aw_one 11 (by kernel_rfl) (Ax_mk rfl rfl ?_)
              refine OpW_call rfl Try.call24 rfl rfl (c_M_ref14_Pair x896 v900 (Op.mk i3263 i3264 i3265 i3266 i3267 l3269 l3272) v3268 v3271 (Result.mk i3851 i3852 i3853 t3854 i3855) (Op.mk i3252 i3253 i3254 i3255 i3256 l3258 l3261) v3257 v3260 (Result.mk i3846 i3847 i3848 t3849 i3850) x3966 hx3967 _ _ hs3969 hs3970 hs3971 hs3972 hs3973) ?_
              rintro _ _ _ - ⟨rfl, rfl, rfl⟩
              refine ⟨(Inc.cons (.head _) (Inc.cons (.tail _ (.head _)) (Inc.cons (.tail _ (.tail _ (.head _))) (Inc.cons (.tail _ (.tail _ (.tail _ (.head _)))) (Inc.cons (.tail _ (.tail _ (.tail _ (.tail _ (.head _))))) (Inc.cons (.tail _ (.tail _ (.tail _ (.tail _ (.tail _ (.head _)))))) (Inc.cons (.tail _ (.tail _ (.tail _ (.tail _ (.tail _ (.tail _ (.head _))))))) (Inc.cons (.tail _ (.tail _ (.tail _ (.tail _ (.tail _ (.tail _ (.tail _ (.head _)))))))) (Inc.cons (.tail _ (.tail _ (.tail _ (.tail _ (.tail _ (.tail _ (.tail _ (.tail _ (.head _))))))))) (Inc.cons (.tail _ (.tail _ (.tail _ (.tail _ (.tail _ (.tail _ (.tail _ (.tail _ (.tail _ (.head _)))))))))) (Inc.cons (.tail _ (.tail _ (.tail _ (.tail _ (.tail _ (.tail _ (.tail _ (.tail _ (.tail _ (.tail _ (.head _))))))))))) Inc.nil))))))))))), ?_⟩
              refine Aw_q 12 rfl (by kernel_rfl) (by kernel_rfl) (by kernel_rfl) rfl rfl rfl (Qt_neB rfl rfl rfl) ?_
              refine Aw_q 13 rfl (by kernel_rfl) (by kernel_rfl) (by kernel_rfl) rfl rfl rfl (Qt_move rfl) ?_
              refine Aw.known (d := 109) rfl (nt_mt (h3968)) ?_
              refine Aw_pass 14 rfl (by kernel_rfl) (by kernel_rfl) (by kernel_rfl) rfl rfl rfl rfl rfl rfl rfl ?_
              refine Aw_pass 15 rfl (by kernel_rfl) (by kernel_rfl) (by kernel_rfl) rfl rfl rfl rfl rfl rfl rfl ?_
              refine Aw_pass 16 rfl (by kernel_rfl) (by kernel_rfl) (by kernel_rfl) rfl rfl rfl rfl rfl rfl rfl ?_
              refine Aw_pass 17 rfl (by kernel_rfl) (by kernel_rfl) (by kernel_rfl) rfl rfl rfl rfl rfl rfl rfl ?_
              refine Aw_pass 18 rfl (by kernel_rfl) (by kernel_rfl) (by kernel_rfl) rfl rfl rfl rfl rfl rfl rfl ?_
              refine Aw_pass 19 rfl (by kernel_rfl) (by kernel_rfl) (by kernel_rfl) rfl rfl rfl rfl rfl rfl rfl ?_
              refine Aw_pass 20 rfl (by kernel_rfl) (by kernel_rfl) (by kernel_rfl) rfl rfl rfl rfl rfl rfl rfl ?_
              refine Aw_pass 21 rfl (by kernel_rfl) (by kernel_rfl) (by kernel_rfl) rfl rfl rfl rfl rfl rfl rfl ?_
              refine Aw_pass 22 rfl (by kernel_rfl) (by kernel_rfl) (by kernel_rfl) rfl rfl rfl rfl rfl rfl rfl ?_
              refine Aw_pass 23 rfl (by kernel_rfl) (by kernel_rfl) (by kernel_rfl) rfl rfl rfl rfl rfl rfl rfl ?_
              refine Aw_pass 24 rfl (by kernel_rfl) (by kernel_rfl) (by kernel_rfl) rfl rfl rfl rfl rfl rfl rfl ?_
              refine Aw_pass 25 rfl (by kernel_rfl) (by kernel_rfl) (by kernel_rfl) rfl rfl rfl rfl rfl rfl rfl ?_
              refine Aw_pass 26 rfl (by kernel_rfl) (by kernel_rfl) (by kernel_rfl) rfl rfl rfl rfl rfl rfl rfl ?_
              refine Aw_q 27 rfl (by kernel_rfl) (by kernel_rfl) (by kernel_rfl) rfl rfl rfl (Qt_pick_t rfl rfl) ?_
              refine Aw_done (by kernel_rfl) ?_
              refine Shift.pull (.there (.there (.there (.there (.there (.there (.there (.there (.there (.there .here)))))))))) ?_
              refine Shift.pull (.there (.there (.there (.there (.there (.there (.there (.there (.there (.there .here)))))))))) ?_
              refine Shift.pull (.there (.there (.there (.there (.there (.there (.there (.there (.there (.there .here)))))))))) ?_
              refine Shift.pull (.there (.there (.there (.there (.there (.there (.there (.there (.there (.there .here)))))))))) ?_
              refine Shift.pull (.there (.there (.there (.there (.there (.there (.there (.there (.there (.there .here)))))))))) ?_
              refine Shift.pull (.there (.there (.there (.there (.there (.there (.there (.there (.there (.there .here)))))))))) ?_
              refine Shift.pull (.there (.there (.there (.there (.there (.there (.there (.there (.there (.there .here)))))))))) ?_
              refine Shift.rem (.there (.there (.there (.there (.there (.there (.there .here))))))) ?_
              refine Shift.rem (.there (.there (.there (.there (.there (.there (.there .here))))))) ?_
              refine Shift.rem (.there (.there (.there (.there (.there (.there (.there .here))))))) ?_
              refine Shift.rem (.there (.there (.there (.there (.there (.there (.there .here))))))) ?_
              refine Shift.done ?_
              exact ⟨[(4, (.pointer (some ((⟨b878, 0, none⟩ : Addr).add 0)))), (5, (.pointer (some ((⟨b879, 0, none⟩ : Addr).add 0)))), (7, (.pointer (some ((⟨b893, 0, none⟩ : Addr).add 0)))), (8, (sv v900)), (9, (.pointer (some ((⟨b916, 0, none⟩ : Addr).add 0)))), (10, (.int .i64 i2628)), (123, (.bool true))], ⟨rfl, rfl, rfl, rfl, rfl, rfl, rfl, trivial⟩, true, rfl, rfl, rfl, H⟩
            · intro h3968
              have h3968 := nt_f (h3968)
              have H := ift h3968 H
              obtain ⟨x3974, hx3975, H⟩ := bnd H
              obtain ⟨x3976, hx3977, H⟩ := bnd H
              refine Cw_region_any [.blk b3845 25 (Result.cells (Result.mk i3846 i3847 i3848 t3849 i3850)), .blk b3844 25 (Result.cells (Result.mk i3851 i3852 i3853 t3854 i3855)), .blk b3251 38 (Op.cells (Op.mk i3252 i3253 i3254 i3255 i3256 l3258 l3261) v3257 v3260), .blk b3250 38 (Op.cells (Op.mk i3263 i3264 i3265 i3266 i3267 l3269 l3272) v3268 v3271), .blk b916 34 (Config.cells x908 v910 v911), .blk b893 85 (Draw_Codes.cells (Draw_Codes.mk x890.list i3856 i3857) v894), .blk b879 25 (Result.cells p2), .blk b878 25 (Result.cells p1), .tok 3 1 [(sv v910)], .tok 23 1 [(sv v911)], .tok 83 3 [(sv v900)]] rfl (Inc.cons (.head _) (Inc.cons (.tail _ (.head _)) (Inc.cons (.tail _ (.tail _ (.head _))) (Inc.cons (.tail _ (.tail _ (.tail _ (.head _)))) (Inc.cons (.tail _ (.tail _ (.tail _ (.tail _ (.head _))))) (Inc.cons (.tail _ (.tail _ (.tail _ (.tail _ (.tail _ (.head _)))))) (Inc.cons (.tail _ (.tail _ (.tail _ (.tail _ (.tail _ (.tail _ (.head _))))))) (Inc.cons (.tail _ (.tail _ (.tail _ (.tail _ (.tail _ (.tail _ (.tail _ (.head _)))))))) (Inc.cons (.tail _ (.tail _ (.tail _ (.tail _ (.tail _ (.tail _ (.tail _ (.tail _ (.head _))))))))) (Inc.cons (.tail _ (.tail _ (.tail _ (.tail _ (.tail _ (.tail _ (.tail _ (.tail _ (.tail _ (.head _)))))))))) (Inc.cons (.tail _ (.tail _ (.tail _ (.tail _ (.tail _ (.tail _ (.tail _ (.tail _ (.tail _ (.tail _ (.head _))))))))))) Inc.nil))))))))))) ?_
              refine Aw_q 0 rfl (by kernel_rfl) (by kernel_rfl) (by kernel_rfl) rfl rfl rfl (Qt_move rfl) ?_
              refine Aw_q 1 rfl (by kernel_rfl) (by kernel_rfl) (by kernel_rfl) rfl rfl rfl (Qt_loadA (m := 7) (cs := (Op.cells (Op.mk i3263 i3264 i3265 i3266 i3267 l3269 l3272) v3268 v3271)) rfl rfl rfl rfl ⟨rfl, Rdc.blk (.tail _ (.tail _ (.tail _ (.head _)))) rfl⟩) ?_
              refine Aw_q 2 rfl (by kernel_rfl) (by kernel_rfl) (by kernel_rfl) rfl rfl rfl (Qt_loadA (m := 5) (cs := (Result.cells (Result.mk i3851 i3852 i3853 t3854 i3855))) rfl rfl rfl rfl ⟨rfl, Rdc.blk (.tail _ (.head _)) rfl⟩) ?_
              refine Aw_q 3 rfl (by kernel_rfl) (by kernel_rfl) (by kernel_rfl) rfl rfl rfl (Qt_loadA (m := 7) (cs := (Op.cells (Op.mk i3252 i3253 i3254 i3255 i3256 l3258 l3261) v3257 v3260)) rfl rfl rfl rfl ⟨rfl, Rdc.blk (.tail _ (.tail _ (.head _))) rfl⟩) ?_
              refine Aw_q 4 rfl (by kernel_rfl) (by kernel_rfl) (by kernel_rfl) rfl rfl rfl (Qt_loadA (m := 5) (cs := (Result.cells (Result.mk i3846 i3847 i3848 t3849 i3850))) rfl rfl rfl rfl ⟨rfl, Rdc.blk (.head _) rfl⟩) ?_
              refine Aw_q 6 rfl (by kernel_rfl) (by kernel_rfl) (by kernel_rfl) rfl rfl rfl (Qt_move rfl) ?_
              refine Aw_q 7 rfl (by kernel_rfl) (by kernel_rfl) (by kernel_rfl) rfl rfl rfl (Qt_loadA (m := 7) (cs := (Op.cells (Op.mk i3263 i3264 i3265 i3266 i3267 l3269 l3272) v3268 v3271)) rfl rfl rfl rfl ⟨rfl, Rdc.blk (.tail _ (.tail _ (.tail _ (.head _)))) rfl⟩) ?_
              refine Aw_q 8 rfl (by kernel_rfl) (by kernel_rfl) (by kernel_rfl) rfl rfl rfl (Qt_loadA (m := 5) (cs := (Result.cells (Result.mk i3851 i3852 i3853 t3854 i3855))) rfl rfl rfl rfl ⟨rfl, Rdc.blk (.tail _ (.head _)) rfl⟩) ?_
              refine Aw_q 9 rfl (by kernel_rfl) (by kernel_rfl) (by kernel_rfl) rfl rfl rfl (Qt_loadA (m := 7) (cs := (Op.cells (Op.mk i3252 i3253 i3254 i3255 i3256 l3258 l3261) v3257 v3260)) rfl rfl rfl rfl ⟨rfl, Rdc.blk (.tail _ (.tail _ (.head _))) rfl⟩) ?_
              refine Aw_q 10 rfl (by kernel_rfl) (by kernel_rfl) (by kernel_rfl) rfl rfl rfl (Qt_loadA (m := 5) (cs := (Result.cells (Result.mk i3846 i3847 i3848 t3849 i3850))) rfl rfl rfl rfl ⟨rfl, Rdc.blk (.head _) rfl⟩) ?_
              refine Aw_one 5 (by kernel_rfl) (Ax_mk rfl rfl ?_)
              have hs3978 := ((((hs907).mono hK913).mono hK2633).mono hK3491).mono hK3767
              have hs3979 := (hs3270).mono hK3767
              have hs3980 := (hs3273).mono hK3767
              have hs3981 := (hs3259).mono hK3767
              have hs3982 := (hs3262).mono hK3767
              refine OpW_call rfl Try.call23 rfl rfl (c_M_model_Pair x896 v900 (Op.mk i3263 i3264 i3265 i3266 i3267 l3269 l3272) v3268 v3271 (Result.mk i3851 i3852 i3853 t3854 i3855) (Op.mk i3252 i3253 i3254 i3255 i3256 l3258 l3261) v3257 v3260 (Result.mk i3846 i3847 i3848 t3849 i3850) x3959 hx3960 _ _ hs3978 hs3979 hs3980 hs3981 hs3982) ?_
              rintro _ _ _ - ⟨rfl, rfl, rfl⟩
              refine ⟨(Inc.cons (.head _) (Inc.cons (.tail _ (.head _)) (Inc.cons (.tail _ (.tail _ (.head _))) (Inc.cons (.tail _ (.tail _ (.tail _ (.head _)))) (Inc.cons (.tail _ (.tail _ (.tail _ (.tail _ (.head _))))) (Inc.cons (.tail _ (.tail _ (.tail _ (.tail _ (.tail _ (.head _)))))) (Inc.cons (.tail _ (.tail _ (.tail _ (.tail _ (.tail _ (.tail _ (.head _))))))) (Inc.cons (.tail _ (.tail _ (.tail _ (.tail _ (.tail _ (.tail _ (.tail _ (.head _)))))))) (Inc.cons (.tail _ (.tail _ (.tail _ (.tail _ (.tail _ (.tail _ (.tail _ (.tail _ (.head _))))))))) (Inc.cons (.tail _ (.tail _ (.tail _ (.tail _ (.tail _ (.tail _ (.tail _ (.tail _ (.tail _ (.head _)))))))))) (Inc.cons (.tail _ (.tail _ (.tail _ (.tail _ (.tail _ (.tail _ (.tail _ (.tail _ (.tail _ (.tail _ (.head _))))))))))) Inc.nil))))))))))), ?_⟩
              refine Aw_one 11 (by kernel_rfl) (Ax_mk rfl rfl ?_)
              refine OpW_call rfl Try.call24 rfl rfl (c_M_ref14_Pair x896 v900 (Op.mk i3263 i3264 i3265 i3266 i3267 l3269 l3272) v3268 v3271 (Result.mk i3851 i3852 i3853 t3854 i3855) (Op.mk i3252 i3253 i3254 i3255 i3256 l3258 l3261) v3257 v3260 (Result.mk i3846 i3847 i3848 t3849 i3850) x3966 hx3967 _ _ hs3978 hs3979 hs3980 hs3981 hs3982) ?_
              rintro _ _ _ - ⟨rfl, rfl, rfl⟩
              refine ⟨(Inc.cons (.head _) (Inc.cons (.tail _ (.head _)) (Inc.cons (.tail _ (.tail _ (.head _))) (Inc.cons (.tail _ (.tail _ (.tail _ (.head _)))) (Inc.cons (.tail _ (.tail _ (.tail _ (.tail _ (.head _))))) (Inc.cons (.tail _ (.tail _ (.tail _ (.tail _ (.tail _ (.head _)))))) (Inc.cons (.tail _ (.tail _ (.tail _ (.tail _ (.tail _ (.tail _ (.head _))))))) (Inc.cons (.tail _ (.tail _ (.tail _ (.tail _ (.tail _ (.tail _ (.tail _ (.head _)))))))) (Inc.cons (.tail _ (.tail _ (.tail _ (.tail _ (.tail _ (.tail _ (.tail _ (.tail _ (.head _))))))))) (Inc.cons (.tail _ (.tail _ (.tail _ (.tail _ (.tail _ (.tail _ (.tail _ (.tail _ (.tail _ (.head _)))))))))) (Inc.cons (.tail _ (.tail _ (.tail _ (.tail _ (.tail _ (.tail _ (.tail _ (.tail _ (.tail _ (.tail _ (.head _))))))))))) Inc.nil))))))))))), ?_⟩
              refine Aw_q 12 rfl (by kernel_rfl) (by kernel_rfl) (by kernel_rfl) rfl rfl rfl (Qt_neB rfl rfl rfl) ?_
              refine Aw_q 13 rfl (by kernel_rfl) (by kernel_rfl) (by kernel_rfl) rfl rfl rfl (Qt_move rfl) ?_
              refine Aw.known (d := 109) rfl (nt_mf (h3968)) ?_
              refine Aw_qw 14 rfl (by kernel_rfl) (by kernel_rfl) (by kernel_rfl) rfl rfl rfl rfl rfl rfl (Qt_move rfl) ?_
              refine Aw_qw 15 rfl (by kernel_rfl) (by kernel_rfl) (by kernel_rfl) rfl rfl rfl rfl rfl rfl (Qt_loadA (m := 7) (cs := (Op.cells (Op.mk i3263 i3264 i3265 i3266 i3267 l3269 l3272) v3268 v3271)) rfl rfl rfl rfl ⟨rfl, Rdc.blk (.tail _ (.tail _ (.tail _ (.head _)))) rfl⟩) ?_
              refine Aw_qw 16 rfl (by kernel_rfl) (by kernel_rfl) (by kernel_rfl) rfl rfl rfl rfl rfl rfl (Qt_loadA (m := 5) (cs := (Result.cells p1)) rfl rfl rfl rfl ⟨rfl, Rdc.blk (.tail _ (.tail _ (.tail _ (.tail _ (.tail _ (.tail _ (.tail _ (.head _)))))))) rfl⟩) ?_
              refine Aw_qw 17 rfl (by kernel_rfl) (by kernel_rfl) (by kernel_rfl) rfl rfl rfl rfl rfl rfl (Qt_loadA (m := 7) (cs := (Op.cells (Op.mk i3252 i3253 i3254 i3255 i3256 l3258 l3261) v3257 v3260)) rfl rfl rfl rfl ⟨rfl, Rdc.blk (.tail _ (.tail _ (.head _))) rfl⟩) ?_
              refine Aw_qw 18 rfl (by kernel_rfl) (by kernel_rfl) (by kernel_rfl) rfl rfl rfl rfl rfl rfl (Qt_loadA (m := 5) (cs := (Result.cells p2)) rfl rfl rfl rfl ⟨rfl, Rdc.blk (.tail _ (.tail _ (.tail _ (.tail _ (.tail _ (.tail _ (.head _))))))) rfl⟩) ?_
              refine Aw_qw 20 rfl (by kernel_rfl) (by kernel_rfl) (by kernel_rfl) rfl rfl rfl rfl rfl rfl (Qt_move rfl) ?_
              refine Aw_qw 21 rfl (by kernel_rfl) (by kernel_rfl) (by kernel_rfl) rfl rfl rfl rfl rfl rfl (Qt_loadA (m := 7) (cs := (Op.cells (Op.mk i3263 i3264 i3265 i3266 i3267 l3269 l3272) v3268 v3271)) rfl rfl rfl rfl ⟨rfl, Rdc.blk (.tail _ (.tail _ (.tail _ (.head _)))) rfl⟩) ?_
              refine Aw_qw 22 rfl (by kernel_rfl) (by kernel_rfl) (by kernel_rfl) rfl rfl rfl rfl rfl rfl (Qt_loadA (m := 5) (cs := (Result.cells p1)) rfl rfl rfl rfl ⟨rfl, Rdc.blk (.tail _ (.tail _ (.tail _ (.tail _ (.tail _ (.tail _ (.tail _ (.head _)))))))) rfl⟩) ?_
              refine Aw_qw 23 rfl (by kernel_rfl) (by kernel_rfl) (by kernel_rfl) rfl rfl rfl rfl rfl rfl (Qt_loadA (m := 7) (cs := (Op.cells (Op.mk i3252 i3253 i3254 i3255 i3256 l3258 l3261) v3257 v3260)) rfl rfl rfl rfl ⟨rfl, Rdc.blk (.tail _ (.tail _ (.head _))) rfl⟩) ?_
              refine Aw_qw 24 rfl (by kernel_rfl) (by kernel_rfl) (by kernel_rfl) rfl rfl rfl rfl rfl rfl (Qt_loadA (m := 5) (cs := (Result.cells p2)) rfl rfl rfl rfl ⟨rfl, Rdc.blk (.tail _ (.tail _ (.tail _ (.tail _ (.tail _ (.tail _ (.head _))))))) rfl⟩) ?_
              refine Aw_one 19 (by kernel_rfl) (Ax_mkw rfl rfl rfl rfl rfl ?_)
              refine OpW_call rfl Try.call23 rfl rfl (c_M_model_Pair x896 v900 (Op.mk i3263 i3264 i3265 i3266 i3267 l3269 l3272) v3268 v3271 p1 (Op.mk i3252 i3253 i3254 i3255 i3256 l3258 l3261) v3257 v3260 p2 x3974 hx3975 _ _ hs3978 hs3979 hs3980 hs3981 hs3982) ?_
              rintro _ _ _ - ⟨rfl, rfl, rfl⟩
              refine ⟨(Inc.cons (.head _) (Inc.cons (.tail _ (.head _)) (Inc.cons (.tail _ (.tail _ (.head _))) (Inc.cons (.tail _ (.tail _ (.tail _ (.head _)))) (Inc.cons (.tail _ (.tail _ (.tail _ (.tail _ (.head _))))) (Inc.cons (.tail _ (.tail _ (.tail _ (.tail _ (.tail _ (.head _)))))) (Inc.cons (.tail _ (.tail _ (.tail _ (.tail _ (.tail _ (.tail _ (.head _))))))) (Inc.cons (.tail _ (.tail _ (.tail _ (.tail _ (.tail _ (.tail _ (.tail _ (.head _)))))))) (Inc.cons (.tail _ (.tail _ (.tail _ (.tail _ (.tail _ (.tail _ (.tail _ (.tail _ (.head _))))))))) (Inc.cons (.tail _ (.tail _ (.tail _ (.tail _ (.tail _ (.tail _ (.tail _ (.tail _ (.tail _ (.head _)))))))))) (Inc.cons (.tail _ (.tail _ (.tail _ (.tail _ (.tail _ (.tail _ (.tail _ (.tail _ (.tail _ (.tail _ (.head _))))))))))) Inc.nil))))))))))), ?_⟩
              refine Aw_one 25 (by kernel_rfl) (Ax_mkw rfl rfl rfl rfl rfl ?_)
              refine OpW_call rfl Try.call24 rfl rfl (c_M_ref14_Pair x896 v900 (Op.mk i3263 i3264 i3265 i3266 i3267 l3269 l3272) v3268 v3271 p1 (Op.mk i3252 i3253 i3254 i3255 i3256 l3258 l3261) v3257 v3260 p2 x3976 hx3977 _ _ hs3978 hs3979 hs3980 hs3981 hs3982) ?_
              rintro _ _ _ - ⟨rfl, rfl, rfl⟩
              refine ⟨(Inc.cons (.head _) (Inc.cons (.tail _ (.head _)) (Inc.cons (.tail _ (.tail _ (.head _))) (Inc.cons (.tail _ (.tail _ (.tail _ (.head _)))) (Inc.cons (.tail _ (.tail _ (.tail _ (.tail _ (.head _))))) (Inc.cons (.tail _ (.tail _ (.tail _ (.tail _ (.tail _ (.head _)))))) (Inc.cons (.tail _ (.tail _ (.tail _ (.tail _ (.tail _ (.tail _ (.head _))))))) (Inc.cons (.tail _ (.tail _ (.tail _ (.tail _ (.tail _ (.tail _ (.tail _ (.head _)))))))) (Inc.cons (.tail _ (.tail _ (.tail _ (.tail _ (.tail _ (.tail _ (.tail _ (.tail _ (.head _))))))))) (Inc.cons (.tail _ (.tail _ (.tail _ (.tail _ (.tail _ (.tail _ (.tail _ (.tail _ (.tail _ (.head _)))))))))) (Inc.cons (.tail _ (.tail _ (.tail _ (.tail _ (.tail _ (.tail _ (.tail _ (.tail _ (.tail _ (.tail _ (.head _))))))))))) Inc.nil))))))))))), ?_⟩
              refine Aw_qw 26 rfl (by kernel_rfl) (by kernel_rfl) (by kernel_rfl) rfl rfl rfl rfl rfl rfl (Qt_neB rfl rfl rfl) ?_
              refine Aw_q 27 rfl (by kernel_rfl) (by kernel_rfl) (by kernel_rfl) rfl rfl rfl (Qt_pick_f rfl rfl) ?_
              refine Aw_done (by kernel_rfl) ?_
              refine Shift.pull (.there (.there (.there (.there (.there (.there (.there (.there (.there (.there .here)))))))))) ?_
              refine Shift.pull (.there (.there (.there (.there (.there (.there (.there (.there (.there (.there .here)))))))))) ?_
              refine Shift.pull (.there (.there (.there (.there (.there (.there (.there (.there (.there (.there .here)))))))))) ?_
              refine Shift.pull (.there (.there (.there (.there (.there (.there (.there (.there (.there (.there .here)))))))))) ?_
              refine Shift.pull (.there (.there (.there (.there (.there (.there (.there (.there (.there (.there .here)))))))))) ?_
              refine Shift.pull (.there (.there (.there (.there (.there (.there (.there (.there (.there (.there .here)))))))))) ?_
              refine Shift.pull (.there (.there (.there (.there (.there (.there (.there (.there (.there (.there .here)))))))))) ?_
              refine Shift.rem (.there (.there (.there (.there (.there (.there (.there .here))))))) ?_
              refine Shift.rem (.there (.there (.there (.there (.there (.there (.there .here))))))) ?_
              refine Shift.rem (.there (.there (.there (.there (.there (.there (.there .here))))))) ?_
              refine Shift.rem (.there (.there (.there (.there (.there (.there (.there .here))))))) ?_
              refine Shift.done ?_
              exact ⟨[(4, (.pointer (some ((⟨b878, 0, none⟩ : Addr).add 0)))), (5, (.pointer (some ((⟨b879, 0, none⟩ : Addr).add 0)))), (7, (.pointer (some ((⟨b893, 0, none⟩ : Addr).add 0)))), (8, (sv v900)), (9, (.pointer (some ((⟨b916, 0, none⟩ : Addr).add 0)))), (10, (.int .i64 i2628)), (123, (.bool (!((x3974 == x3976)))))], ⟨rfl, rfl, rfl, rfl, rfl, rfl, rfl, trivial⟩, (!((x3974 == x3976))), rfl, rfl, rfl, H⟩
          rintro _ _ _ - ⟨t3958, rfl, rfl, rfl, H⟩
          unfold M_law14_ModelPairs_J7 at H
          refine Cw_cond rfl ?_ ?_
          · intro h3983
            have H := ift h3983 H
            refine Cw_seq ?_
            refine Cw_region ?_
            refine Ow_q rfl rfl rfl (Qt_assign rfl) ?_
            refine Ow_nil ?_
            refine Cw_ret ?_
            obtain ey0 := inj1 H
            subst y0
            refine ⟨(by first | exact .inl rfl | exact .inr rfl), [(.bool false)], ⟨(.bool false), _, rfl, rfl, rfl⟩, ?_⟩
            refine Shift.rem .here ?_
            refine Shift.rem .here ?_
            refine Shift.rem .here ?_
            refine Shift.rem .here ?_
            refine Shift.rem .here ?_
            refine Shift.rem .here ?_
            refine Shift.rem .here ?_
            refine Shift.done ?_
            exact ⟨rfl, rfl⟩
          · intro h3983
            have H := iff_ (btf h3983) H
            refine Cw_skip ?_
            refine Shift.pull (.there (.there (.there (.there (.there (.there .here)))))) ?_
            refine Shift.pull (.there (.there (.there (.there (.there (.there .here)))))) ?_
            refine Shift.pull (.there (.there (.there (.there (.there (.there .here)))))) ?_
            refine Shift.pull (.there (.there (.there (.there (.there (.there .here)))))) ?_
            refine Shift.pull (.there (.there (.there (.there (.there (.there .here)))))) ?_
            refine Shift.pull (.there (.there (.there (.there (.there (.there .here)))))) ?_
            refine Shift.pull (.there (.there (.there (.there (.there (.there .here)))))) ?_
            refine Shift.done ?_
            exact ⟨[(4, (.pointer (some ((⟨b878, 0, none⟩ : Addr).add 0)))), (5, (.pointer (some ((⟨b879, 0, none⟩ : Addr).add 0)))), (7, (.pointer (some ((⟨b893, 0, none⟩ : Addr).add 0)))), (8, (sv v900)), (9, (.pointer (some ((⟨b916, 0, none⟩ : Addr).add 0)))), (10, (.int .i64 i2628))], ⟨rfl, rfl, rfl, rfl, rfl, rfl, trivial⟩, i3856, i3857, rfl, rfl, H⟩
        rintro _ K3984 _ hK3985 ⟨i3058, i3059, rfl, rfl, H⟩
        unfold M_law14_ModelPairs_J2 at H
        refine Cw_region ?_
        refine Ow_q rfl rfl rfl (Qt_move rfl) ?_
        refine Ow_q rfl rfl rfl (Qt_arith (e := wI (i2628 + 1)) rfl rfl rfl rfl) ?_
        refine Ow_q rfl rfl rfl (Qt_assign rfl) ?_
        refine Ow_nil ?_
        refine Shift.pull (.there (.there (.there (.there (.there (.there .here)))))) ?_
        refine Shift.pull (.there (.there (.there (.there (.there (.there .here)))))) ?_
        refine Shift.pull (.there (.there (.there (.there (.there (.there .here)))))) ?_
        refine Shift.pull (.there (.there (.there (.there (.there (.there .here)))))) ?_
        refine Shift.pull (.there (.there (.there (.there (.there (.there .here)))))) ?_
        refine Shift.pull (.there (.there (.there (.there (.there (.there .here)))))) ?_
        refine Shift.pull (.there (.there (.there (.there (.there (.there .here)))))) ?_
        refine Shift.done ?_
        exact ⟨[(4, (.pointer (some ((⟨b878, 0, none⟩ : Addr).add 0)))), (5, (.pointer (some ((⟨b879, 0, none⟩ : Addr).add 0)))), (7, (.pointer (some ((⟨b893, 0, none⟩ : Addr).add 0)))), (8, (sv v900)), (9, (.pointer (some ((⟨b916, 0, none⟩ : Addr).add 0)))), (10, (.int .i64 (wI (i2628 + 1))))], ⟨rfl, rfl, rfl, rfl, rfl, rfl, trivial⟩, _, Nat.lt_succ_self _, (wI (i2628 + 1)), i3058, i3059, rfl, rfl, (hkk2636 ▸ H)⟩
      · intro h2638
        have h2638 := dcd_f (h2638)
        have H := iff_ h2638 H
        refine Cw_exit ?_
        refine Shift.rem .here ?_
        refine Shift.rem .here ?_
        refine Shift.rem .here ?_
        refine Shift.rem .here ?_
        refine Shift.rem .here ?_
        refine Shift.rem .here ?_
        refine Shift.rem .here ?_
        refine Shift.done ?_
        exact ⟨[], trivial, rfl, rfl, H⟩
    rintro _ K3986 _ hK3987 ⟨rfl, rfl, H⟩
    unfold M_law14_ModelPairs_J1 at H
    refine Cw_seq ?_
    refine Cw_region ?_
    refine Ow_q rfl rfl rfl (Qt_assign rfl) ?_
    refine Ow_nil ?_
    refine Cw_ret ?_
    obtain ey0 := inj1 H
    subst y0
    refine ⟨(by first | exact .inl rfl | exact .inr rfl), [(.bool true)], ⟨(.bool true), _, rfl, rfl, rfl⟩, ?_⟩
    refine Shift.done ?_
    exact ⟨rfl, rfl⟩



end Go.Hx
