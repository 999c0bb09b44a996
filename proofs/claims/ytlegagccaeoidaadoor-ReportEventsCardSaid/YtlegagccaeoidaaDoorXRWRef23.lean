/- Printed by program. -/
import Derived.Test.YtlegagccaeoidaaDoorXRM
import Derived.Test.YtlegagccaeoidaaDoorXRWRef20
namespace Go.Hx
open Go Go.Proofs
set_option linter.unusedSimpArgs false
set_option linter.unusedVariables false
set_option maxRecDepth 10000
set_option maxHeartbeats 1000000 in
theorem c_M_ref23_Number (p0 : Int) (y0 : ByteArray) (H : M_ref23_Number p0 = some y0) (K : Kp) (G : List Ent)  :
    Fc Tryd.prog 15 #[(.int .i64 p0)] K (G) (fun v K' G' => v = (.string y0) ∧ G = G') := by
  refine Fc_body Tryd.func15 rfl Tryd.ntmps15 Tryd.results15 rfl ?_
  unfold M_ref23_Number at H
  refine Cw_seq ?_
  refine Cw_region ?_
  refine Ow_q rfl rfl rfl (Qt_assign rfl) ?_
  refine Ow_nil ?_
  refine Cw_seq ?_
  refine Cw_seq ?_
  refine Cw_region ?_
  refine Ow_q rfl rfl rfl (Qt_move rfl) ?_
  refine Ow_q rfl rfl rfl (Qt_cmp rfl rfl rfl) ?_
  refine Ow_nil ?_
  refine Cw_cond rfl ?_ ?_
  · intro h19
    have h19 := dcd_t (h19)
    have H := ift h19 H
    refine Cw_seq ?_
    refine Cw_region ?_
    refine Ow_q rfl rfl rfl (Qt_move rfl) ?_
    refine Ow_q rfl rfl rfl (Qt_conv (c := wU p0) rfl rfl rfl rfl) ?_
    refine Ow_q rfl rfl rfl (Qt_neg (c := wU (0 - (wU p0))) rfl rfl) ?_
    obtain ⟨x20, hx21, H⟩ := bnd H
    refine Ow_cons rfl (OpW_call rfl Tryd.call14 rfl rfl (c_M_ref20_Word (wU (0 - (wU p0))) x20 hx21 _ _ ) ?_)
    rintro _ K22 _ hK23 ⟨rfl, rfl⟩
    obtain ⟨x24, hx25, H⟩ := bnd H
    refine Ow_q rfl rfl rfl (Q_catS hx25 rfl rfl) ?_
    refine Ow_q rfl rfl rfl (Qt_assign rfl) ?_
    refine Ow_nil ?_
    refine Cw_ret ?_
    obtain ey0 := inj1 H
    subst y0
    refine ⟨(by first | exact .inl rfl | exact .inr rfl), [(.string x24)], ⟨(.string x24), _, rfl, rfl, rfl⟩, ?_⟩
    refine Shift.done ?_
    exact ⟨rfl, rfl⟩
  · intro h19
    have h19 := dcd_f (h19)
    have H := iff_ h19 H
    refine Cw_skip ?_
    refine Cw_seq ?_
    refine Cw_region ?_
    refine Ow_q rfl rfl rfl (Qt_move rfl) ?_
    refine Ow_q rfl rfl rfl (Qt_conv (c := wU p0) rfl rfl rfl rfl) ?_
    obtain ⟨x26, hx27, H⟩ := bnd H
    refine Ow_cons rfl (OpW_call rfl Tryd.call14 rfl rfl (c_M_ref20_Word (wU p0) x26 hx27 _ _ ) ?_)
    rintro _ K28 _ hK29 ⟨rfl, rfl⟩
    refine Ow_q rfl rfl rfl (Qt_assign rfl) ?_
    refine Ow_nil ?_
    refine Cw_ret ?_
    obtain ey0 := inj1 H
    subst y0
    refine ⟨(by first | exact .inl rfl | exact .inr rfl), [(.string x26)], ⟨(.string x26), _, rfl, rfl, rfl⟩, ?_⟩
    refine Shift.done ?_
    exact ⟨rfl, rfl⟩

set_option maxHeartbeats 1000000 in
theorem c_M_ref23_Result (p0 : Result) (y0 : ByteArray) (H : M_ref23_Result p0 = some y0) (K : Kp) (G : List Ent)  :
    Fc Tryd.prog 8 #[(.agg (Result.cells p0).toArray)] K (G) (fun v K' G' => v = (.string y0) ∧ G = G') := by
  refine Fc_body Tryd.func8 rfl Tryd.ntmps8 Tryd.results8 rfl ?_
  unfold M_ref23_Result at H
  refine Cw_seq ?_
  refine Cw_region ?_
  refine Ow_cons rfl (OpW_box (cs := (Result.cells p0)) rfl rfl rfl (fun b36 => ?_))
  refine Ow_q rfl rfl rfl (Qt_assign rfl) ?_
  refine Ow_nil ?_
  refine Cw_seq ?_
  refine Cw_region ?_
  refine Ow_q rfl rfl rfl (Qt_assign rfl) ?_
  refine Ow_nil ?_
  refine Cw_join (fun env' K' G' => ∃ (s57 : ByteArray), [(1, (.pointer (some ((⟨b36, 0, none⟩ : Addr).add 0)))), (3, (.string s57))] = env' ∧ (.blk b36 24 (Result.cells p0)) :: G = G' ∧ M_ref23_Result_J1 p0 s57 = some y0) ?_ ?_
  · skip
    refine Cw_seq ?_
    refine Cw_region ?_
    refine Ow_q rfl rfl rfl (Qt_fieldAddr (m := 0) rfl rfl rfl rfl rfl) ?_
    refine Ow_q rfl rfl rfl (Qt_load1 (v := (.int .i64 p0.kind)) rfl rfl rfl (Rdc.blk (.head _) rfl)) ?_
    refine Ow_nil ?_
    refine Cw_block ?_
    refine Cw_seq ?_
    refine Cw_region ?_
    refine Ow_q rfl rfl rfl (Qt_cmp rfl rfl rfl) ?_
    refine Ow_q rfl rfl rfl (Qt_assign rfl) ?_
    refine Ow_nil ?_
    refine Cw_cond rfl ?_ ?_
    · intro h58
      have h58 := dcd_t (h58)
      have H := ift h58 H
      refine Cw_region ?_
      refine Ow_q rfl rfl rfl (Qt_assign rfl) ?_
      refine Ow_nil ?_
      refine Shift.done ?_
      exact ⟨[(1, (.pointer (some ((⟨b36, 0, none⟩ : Addr).add 0)))), (3, (.string (⟨#[115, 101, 110, 116]⟩ : ByteArray)))], ⟨rfl, rfl, trivial⟩, (⟨#[115, 101, 110, 116]⟩ : ByteArray), rfl, rfl, H⟩
    · intro h58
      have h58 := dcd_f (h58)
      have H := iff_ h58 H
      refine Cw_seq ?_
      refine Cw_region ?_
      refine Ow_q rfl rfl rfl (Qt_cmp rfl rfl rfl) ?_
      refine Ow_q rfl rfl rfl (Qt_assign rfl) ?_
      refine Ow_nil ?_
      refine Cw_cond rfl ?_ ?_
      · intro h59
        have h59 := dcd_t (h59)
        have H := ift h59 H
        refine Cw_seq ?_
        refine Cw_region ?_
        refine Ow_q rfl rfl rfl (Qt_fieldAddr (m := 2) rfl rfl rfl rfl rfl) ?_
        refine Ow_q rfl rfl rfl (Qt_load1 (v := (.int .u64 p0.value)) rfl rfl rfl (Rdc.blk (.head _) rfl)) ?_
        obtain ⟨x60, hx61, H⟩ := bnd H
        refine Ow_cons rfl (OpW_call rfl Tryd.call14 rfl rfl (c_M_ref20_Word p0.value x60 hx61 _ _ ) ?_)
        rintro _ K62 _ hK63 ⟨rfl, rfl⟩
        obtain ⟨x64, hx65, H⟩ := bnd H
        refine Ow_q rfl rfl rfl (Q_catS hx65 rfl rfl) ?_
        refine Ow_q rfl rfl rfl (Qt_assign rfl) ?_
        refine Ow_nil ?_
        refine Cw_seq ?_
        refine Cw_region ?_
        refine Ow_q rfl rfl rfl (Qt_fieldAddr (m := 3) rfl rfl rfl rfl rfl) ?_
        refine Ow_q rfl rfl rfl (Qt_load1 (v := (.bool p0.ok)) rfl rfl rfl (Rdc.blk (.head _) rfl)) ?_
        refine Ow_q rfl rfl rfl (Qt_not rfl) ?_
        refine Ow_nil ?_
        refine Cw_cond rfl ?_ ?_
        · intro h66
          have h66 := nt_t (h66)
          have H := iff_ (btf h66) H
          refine Cw_region ?_
          refine Ow_q rfl rfl rfl (Qt_move rfl) ?_
          obtain ⟨x67, hx68, H⟩ := bnd H
          refine Ow_q rfl rfl rfl (Q_catS hx68 rfl rfl) ?_
          refine Ow_q rfl rfl rfl (Qt_assign rfl) ?_
          refine Ow_nil ?_
          refine Shift.done ?_
          exact ⟨[(1, (.pointer (some ((⟨b36, 0, none⟩ : Addr).add 0)))), (3, (.string x67))], ⟨rfl, rfl, trivial⟩, x67, rfl, rfl, H⟩
        · intro h66
          have h66 := nt_f (h66)
          have H := ift h66 H
          refine Cw_skip ?_
          refine Shift.done ?_
          exact ⟨[(1, (.pointer (some ((⟨b36, 0, none⟩ : Addr).add 0)))), (3, (.string x64))], ⟨rfl, rfl, trivial⟩, x64, rfl, rfl, H⟩
      · intro h59
        have h59 := dcd_f (h59)
        have H := iff_ h59 H
        refine Cw_seq ?_
        refine Cw_region ?_
        refine Ow_q rfl rfl rfl (Qt_cmp rfl rfl rfl) ?_
        refine Ow_q rfl rfl rfl (Qt_assign rfl) ?_
        refine Ow_nil ?_
        refine Cw_cond rfl ?_ ?_
        · intro h69
          have h69 := dcd_t (h69)
          have H := ift h69 H
          refine Cw_region ?_
          refine Ow_q rfl rfl rfl (Qt_assign rfl) ?_
          refine Ow_nil ?_
          refine Shift.done ?_
          exact ⟨[(1, (.pointer (some ((⟨b36, 0, none⟩ : Addr).add 0)))), (3, (.string (⟨#[119, 111, 117, 108, 100, 32, 98, 108, 111, 99, 107]⟩ : ByteArray)))], ⟨rfl, rfl, trivial⟩, (⟨#[119, 111, 117, 108, 100, 32, 98, 108, 111, 99, 107]⟩ : ByteArray), rfl, rfl, H⟩
        · intro h69
          have h69 := dcd_f (h69)
          have H := iff_ h69 H
          refine Cw_seq ?_
          refine Cw_region ?_
          refine Ow_q rfl rfl rfl (Qt_cmp rfl rfl rfl) ?_
          refine Ow_q rfl rfl rfl (Qt_assign rfl) ?_
          refine Ow_nil ?_
          refine Cw_cond rfl ?_ ?_
          · intro h70
            have h70 := dcd_t (h70)
            have H := ift h70 H
            refine Cw_region ?_
            refine Ow_q rfl rfl rfl (Qt_assign rfl) ?_
            refine Ow_nil ?_
            refine Shift.done ?_
            exact ⟨[(1, (.pointer (some ((⟨b36, 0, none⟩ : Addr).add 0)))), (3, (.string (⟨#[116, 105, 109, 101, 100, 32, 111, 117, 116]⟩ : ByteArray)))], ⟨rfl, rfl, trivial⟩, (⟨#[116, 105, 109, 101, 100, 32, 111, 117, 116]⟩ : ByteArray), rfl, rfl, H⟩
          · intro h70
            have h70 := dcd_f (h70)
            have H := iff_ h70 H
            refine Cw_seq ?_
            refine Cw_region ?_
            refine Ow_q rfl rfl rfl (Qt_cmp rfl rfl rfl) ?_
            refine Ow_q rfl rfl rfl (Qt_assign rfl) ?_
            refine Ow_nil ?_
            refine Cw_cond rfl ?_ ?_
            · intro h71
              have h71 := dcd_t (h71)
              have H := ift h71 H
              refine Cw_region ?_
              refine Ow_q rfl rfl rfl (Qt_assign rfl) ?_
              refine Ow_nil ?_
              refine Shift.done ?_
              exact ⟨[(1, (.pointer (some ((⟨b36, 0, none⟩ : Addr).add 0)))), (3, (.string (⟨#[112, 97, 110, 105, 99, 107, 101, 100]⟩ : ByteArray)))], ⟨rfl, rfl, trivial⟩, (⟨#[112, 97, 110, 105, 99, 107, 101, 100]⟩ : ByteArray), rfl, rfl, H⟩
            · intro h71
              have h71 := dcd_f (h71)
              have H := iff_ h71 H
              refine Cw_seq ?_
              refine Cw_region ?_
              refine Ow_q rfl rfl rfl (Qt_cmp rfl rfl rfl) ?_
              refine Ow_q rfl rfl rfl (Qt_assign rfl) ?_
              refine Ow_nil ?_
              refine Cw_cond rfl ?_ ?_
              · intro h72
                have h72 := dcd_t (h72)
                have H := ift h72 H
                refine Cw_region ?_
                refine Ow_q rfl rfl rfl (Qt_assign rfl) ?_
                refine Ow_nil ?_
                refine Shift.done ?_
                exact ⟨[(1, (.pointer (some ((⟨b36, 0, none⟩ : Addr).add 0)))), (3, (.string (⟨#[99, 108, 111, 115, 101, 100]⟩ : ByteArray)))], ⟨rfl, rfl, trivial⟩, (⟨#[99, 108, 111, 115, 101, 100]⟩ : ByteArray), rfl, rfl, H⟩
              · intro h72
                have h72 := dcd_f (h72)
                have H := iff_ h72 H
                refine Cw_seq ?_
                refine Cw_region ?_
                refine Ow_q rfl rfl rfl (Qt_cmp rfl rfl rfl) ?_
                refine Ow_q rfl rfl rfl (Qt_assign rfl) ?_
                refine Ow_nil ?_
                refine Cw_cond rfl ?_ ?_
                · intro h73
                  have h73 := dcd_t (h73)
                  have H := ift h73 H
                  refine Cw_region ?_
                  refine Ow_q rfl rfl rfl (Qt_fieldAddr (m := 4) rfl rfl rfl rfl rfl) ?_
                  refine Ow_q rfl rfl rfl (Qt_load1 (v := (.int .i64 p0.number)) rfl rfl rfl (Rdc.blk (.head _) rfl)) ?_
                  obtain ⟨x74, hx75, H⟩ := bnd H
                  refine Ow_cons rfl (OpW_call rfl Tryd.call15 rfl rfl (c_M_ref23_Number p0.number x74 hx75 _ _ ) ?_)
                  rintro _ K76 _ hK77 ⟨rfl, rfl⟩
                  refine Ow_q rfl rfl rfl (Qt_assign rfl) ?_
                  refine Ow_nil ?_
                  refine Shift.done ?_
                  exact ⟨[(1, (.pointer (some ((⟨b36, 0, none⟩ : Addr).add 0)))), (3, (.string x74))], ⟨rfl, rfl, trivial⟩, x74, rfl, rfl, H⟩
                · intro h73
                  have h73 := dcd_f (h73)
                  have H := iff_ h73 H
                  refine Cw_seq ?_
                  refine Cw_region ?_
                  refine Ow_q rfl rfl rfl (Qt_assign rfl) ?_
                  refine Ow_nil ?_
                  refine Cw_ret ?_
                  obtain ey0 := inj1 H
                  subst y0
                  refine ⟨(by first | exact .inl rfl | exact .inr rfl), [(.string (⟨#[]⟩ : ByteArray))], ⟨(.string (⟨#[]⟩ : ByteArray)), _, rfl, rfl, rfl⟩, ?_⟩
                  refine Shift.rem .here ?_
                  refine Shift.done ?_
                  exact ⟨rfl, rfl⟩
  rintro _ K78 _ hK79 ⟨s57, rfl, rfl, H⟩
  unfold M_ref23_Result_J1 at H
  refine Cw_seq ?_
  refine Cw_seq ?_
  refine Cw_region ?_
  refine Ow_q rfl rfl rfl (Qt_fieldAddr (m := 1) rfl rfl rfl rfl rfl) ?_
  refine Ow_q rfl rfl rfl (Qt_load1 (v := (.int .i64 p0.case_)) rfl rfl rfl (Rdc.blk (.head _) rfl)) ?_
  refine Ow_q rfl rfl rfl (Qt_cmp rfl rfl rfl) ?_
  refine Ow_nil ?_
  refine Cw_cond rfl ?_ ?_
  · intro h91
    have h91 := dcd_t (h91)
    have H := ift h91 H
    refine Cw_seq ?_
    refine Cw_region ?_
    refine Ow_q rfl rfl rfl (Qt_fieldAddr (m := 1) rfl rfl rfl rfl rfl) ?_
    refine Ow_q rfl rfl rfl (Qt_load1 (v := (.int .i64 p0.case_)) rfl rfl rfl (Rdc.blk (.head _) rfl)) ?_
    obtain ⟨x92, hx93, H⟩ := bnd H
    refine Ow_cons rfl (OpW_call rfl Tryd.call15 rfl rfl (c_M_ref23_Number p0.case_ x92 hx93 _ _ ) ?_)
    rintro _ K94 _ hK95 ⟨rfl, rfl⟩
    obtain ⟨x96, hx97, H⟩ := bnd H
    refine Ow_q rfl rfl rfl (Q_catS hx97 rfl rfl) ?_
    obtain ⟨x98, hx99, H⟩ := bnd H
    refine Ow_q rfl rfl rfl (Q_catS hx99 rfl rfl) ?_
    refine Ow_q rfl rfl rfl (Qt_move rfl) ?_
    obtain ⟨x100, hx101, H⟩ := bnd H
    refine Ow_q rfl rfl rfl (Q_catS hx101 rfl rfl) ?_
    refine Ow_q rfl rfl rfl (Qt_assign rfl) ?_
    refine Ow_nil ?_
    refine Cw_ret ?_
    obtain ey0 := inj1 H
    subst y0
    refine ⟨(by first | exact .inl rfl | exact .inr rfl), [(.string x100)], ⟨(.string x100), _, rfl, rfl, rfl⟩, ?_⟩
    refine Shift.rem .here ?_
    refine Shift.done ?_
    exact ⟨rfl, rfl⟩
  · intro h91
    have h91 := dcd_f (h91)
    have H := iff_ h91 H
    refine Cw_skip ?_
    refine Cw_seq ?_
    refine Cw_region ?_
    refine Ow_q rfl rfl rfl (Qt_move rfl) ?_
    refine Ow_q rfl rfl rfl (Qt_assign rfl) ?_
    refine Ow_nil ?_
    refine Cw_ret ?_
    obtain ey0 := inj1 H
    subst y0
    refine ⟨(by first | exact .inl rfl | exact .inr rfl), [(.string s57)], ⟨(.string s57), _, rfl, rfl, rfl⟩, ?_⟩
    refine Shift.rem .here ?_
    refine Shift.done ?_
    exact ⟨rfl, rfl⟩

set_option maxHeartbeats 1000000 in
theorem c_M_ref23_Event (p0 : Event) (y0 : ByteArray) (H : M_ref23_Event p0 = some y0) (K : Kp) (G : List Ent)  :
    Fc Tryd.prog 11 #[(.agg (Event.cells p0).toArray)] K (G) (fun v K' G' => v = (.string y0) ∧ G = G') := by
  refine Fc_body Tryd.func11 rfl Tryd.ntmps11 Tryd.results11 rfl ?_
  unfold M_ref23_Event at H
  refine Cw_seq ?_
  refine Cw_region ?_
  refine Ow_cons rfl (OpW_box (cs := (Event.cells p0)) rfl rfl rfl (fun b29 => ?_))
  refine Ow_q rfl rfl rfl (Qt_assign rfl) ?_
  refine Ow_nil ?_
  refine Cw_seq ?_
  obtain ⟨x48, hx49, H⟩ := bnd H
  obtain ⟨x52, hx53, H⟩ := bnd H
  obtain ⟨x54, hx55, H⟩ := bnd H
  obtain ⟨x58, hx59, H⟩ := bnd H
  obtain ⟨x60, hx61, H⟩ := bnd H
  refine Cw_region_any [.blk b29 32 (Event.cells p0)] rfl (Inc.cons (.head _) Inc.nil) ?_
  refine Aw_q 0 rfl (by kernel_rfl) (by kernel_rfl) (by kernel_rfl) rfl rfl rfl (Qt_fieldAddr (m := 0) rfl rfl rfl rfl rfl) ?_
  refine Aw_q 1 rfl (by kernel_rfl) (by kernel_rfl) (by kernel_rfl) rfl rfl rfl (Qt_load1 (v := (.int .i64 p0.thread)) rfl rfl rfl (Rdc.blk (.head _) rfl)) ?_
  refine Aw_q 4 rfl (by kernel_rfl) (by kernel_rfl) (by kernel_rfl) rfl rfl rfl (Qt_fieldAddr (m := 1) rfl rfl rfl rfl rfl) ?_
  refine Aw_q 5 rfl (by kernel_rfl) (by kernel_rfl) (by kernel_rfl) rfl rfl rfl (Qt_load1 (v := (.int .i64 p0.op)) rfl rfl rfl (Rdc.blk (.head _) rfl)) ?_
  refine Aw_one 2 (by kernel_rfl) (Ax_mk rfl rfl ?_)
  refine OpW_call rfl Tryd.call15 rfl rfl (c_M_ref23_Number p0.thread x48 hx49 _ _ ) ?_
  rintro _ K62 _ hK63 ⟨rfl, rfl⟩
  refine ⟨(Inc.cons (.head _) Inc.nil), ?_⟩
  refine Aw_q 3 rfl (by kernel_rfl) (by kernel_rfl) (by kernel_rfl) rfl rfl rfl (Q_catS hx53 rfl rfl) ?_
  refine Aw_one 6 (by kernel_rfl) (Ax_mk rfl rfl ?_)
  refine OpW_call rfl Tryd.call15 rfl rfl (c_M_ref23_Number p0.op x54 hx55 _ _ ) ?_
  rintro _ K64 _ hK65 ⟨rfl, rfl⟩
  refine ⟨(Inc.cons (.head _) Inc.nil), ?_⟩
  refine Aw_q 7 rfl (by kernel_rfl) (by kernel_rfl) (by kernel_rfl) rfl rfl rfl (Q_catS hx59 rfl rfl) ?_
  refine Aw_q 8 rfl (by kernel_rfl) (by kernel_rfl) (by kernel_rfl) rfl rfl rfl (Q_catS hx61 rfl rfl) ?_
  refine Aw_q 9 rfl (by kernel_rfl) (by kernel_rfl) (by kernel_rfl) rfl rfl rfl (Qt_assign rfl) ?_
  refine Aw_done (by kernel_rfl) ?_
  refine Cw_seq ?_
  refine Cw_seq ?_
  refine Cw_region ?_
  refine Ow_q rfl rfl rfl (Qt_fieldAddr (m := 2) rfl rfl rfl rfl rfl) ?_
  refine Ow_q rfl rfl rfl (Qt_load1 (v := (.bool p0.ret)) rfl rfl rfl (Rdc.blk (.head _) rfl)) ?_
  refine Ow_q rfl rfl rfl (Qt_not rfl) ?_
  refine Ow_nil ?_
  refine Cw_cond rfl ?_ ?_
  · intro h69
    have h69 := nt_t (h69)
    have H := iff_ (btf h69) H
    refine Cw_seq ?_
    refine Cw_region ?_
    refine Ow_q rfl rfl rfl (Qt_move rfl) ?_
    obtain ⟨x70, hx71, H⟩ := bnd H
    refine Ow_q rfl rfl rfl (Q_catS hx71 rfl rfl) ?_
    refine Ow_q rfl rfl rfl (Qt_assign rfl) ?_
    refine Ow_nil ?_
    refine Cw_ret ?_
    obtain ey0 := inj1 H
    subst y0
    refine ⟨(by first | exact .inl rfl | exact .inr rfl), [(.string x70)], ⟨(.string x70), _, rfl, rfl, rfl⟩, ?_⟩
    refine Shift.rem .here ?_
    refine Shift.done ?_
    exact ⟨rfl, rfl⟩
  · intro h69
    have h69 := nt_f (h69)
    have H := ift h69 H
    refine Cw_skip ?_
    refine Cw_seq ?_
    refine Cw_region ?_
    refine Ow_q rfl rfl rfl (Qt_move rfl) ?_
    refine Ow_q rfl rfl rfl (Qt_fieldAddr (m := 3) rfl rfl rfl rfl rfl) ?_
    refine Ow_q rfl rfl rfl (Qt_loadA (m := 5) (cs := (Result.cells p0.result)) rfl rfl rfl rfl ⟨rfl, Rdc.blk (.head _) rfl⟩) ?_
    obtain ⟨x72, hx73, H⟩ := bnd H
    refine Ow_cons rfl (OpW_call rfl Tryd.call8 rfl rfl (c_M_ref23_Result p0.result x72 hx73 _ _ ) ?_)
    rintro _ K74 _ hK75 ⟨rfl, rfl⟩
    obtain ⟨x76, hx77, H⟩ := bnd H
    refine Ow_q rfl rfl rfl (Q_catS hx77 rfl rfl) ?_
    refine Ow_q rfl rfl rfl (Qt_assign rfl) ?_
    refine Ow_nil ?_
    refine Cw_ret ?_
    obtain ey0 := inj1 H
    subst y0
    refine ⟨(by first | exact .inl rfl | exact .inr rfl), [(.string x76)], ⟨(.string x76), _, rfl, rfl, rfl⟩, ?_⟩
    refine Shift.rem .here ?_
    refine Shift.done ?_
    exact ⟨rfl, rfl⟩


end Go.Hx
