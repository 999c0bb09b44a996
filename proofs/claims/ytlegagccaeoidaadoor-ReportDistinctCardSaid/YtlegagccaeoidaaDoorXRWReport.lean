/- Printed by program. -/
import Derived.Test.YtlegagccaeoidaaDoorXRM
import Derived.Test.YtlegagccaeoidaaDoorXRWStrconv
namespace Go.Hx
open Go Go.Proofs
set_option linter.unusedSimpArgs false
set_option linter.unusedVariables false
set_option maxRecDepth 10000
set_option maxHeartbeats 1000000 in
theorem c_M_report_words (p0 : Result) (y0 : ByteArray) (H : M_report_words p0 = some y0) (K : Kp) (G : List Ent) (hT : TabK K) :
    Fc Tryd.prog 12 #[(.agg (Result.cells p0).toArray)] K (G) (fun v K' G' => v = (.string y0) ∧ K = K' ∧ G = G') := by
  refine Fc_body Tryd.func12 rfl Tryd.ntmps12 Tryd.results12 rfl ?_
  unfold M_report_words at H
  refine Cw_seq ?_
  refine Cw_region ?_
  refine Ow_cons rfl (OpW_box (cs := (Result.cells p0)) rfl rfl rfl (fun b18 => ?_))
  refine Ow_q rfl rfl rfl (Qt_assign rfl) ?_
  refine Ow_nil ?_
  refine Cw_seq ?_
  refine Cw_seq ?_
  refine Cw_region ?_
  refine Ow_q rfl rfl rfl (Qt_fieldAddr (m := 0) rfl rfl rfl rfl rfl) ?_
  refine Ow_q rfl rfl rfl (Qt_load1 (v := (.int .i64 p0.kind)) rfl rfl rfl (Rdc.blk (.head _) rfl)) ?_
  refine Ow_nil ?_
  refine Cw_block ?_
  refine Cw_seq ?_
  refine Cw_region ?_
  refine Ow_q rfl rfl rfl (Qt_cmp rfl rfl rfl) ?_
  refine Ow_q rfl rfl rfl (Qt_assign rfl) ?_
  refine Ow_nil ?_
  refine Cw_cond rfl ?_ ?_
  · intro h35
    have h35 := dcd_t (h35)
    have H := ift h35 H
    refine Cw_seq ?_
    refine Cw_region ?_
    refine Ow_q rfl rfl rfl (Qt_assign rfl) ?_
    refine Ow_nil ?_
    refine Cw_ret ?_
    obtain ey0 := inj1 H
    subst y0
    refine ⟨(by first | exact .inl rfl | exact .inr rfl), [(.string (⟨#[115, 101, 110, 116]⟩ : ByteArray))], ⟨(.string (⟨#[115, 101, 110, 116]⟩ : ByteArray)), _, rfl, rfl, rfl⟩, ?_⟩
    refine Shift.rem .here ?_
    refine Shift.done ?_
    exact ⟨rfl, rfl, rfl⟩
  · intro h35
    have h35 := dcd_f (h35)
    have H := iff_ h35 H
    refine Cw_seq ?_
    refine Cw_region ?_
    refine Ow_q rfl rfl rfl (Qt_cmp rfl rfl rfl) ?_
    refine Ow_q rfl rfl rfl (Qt_assign rfl) ?_
    refine Ow_nil ?_
    refine Cw_cond rfl ?_ ?_
    · intro h36
      have h36 := dcd_t (h36)
      have H := ift h36 H
      refine Cw_seq ?_
      refine Cw_region ?_
      refine Ow_q rfl rfl rfl (Qt_fieldAddr (m := 2) rfl rfl rfl rfl rfl) ?_
      refine Ow_q rfl rfl rfl (Qt_load1 (v := (.int .u64 p0.value)) rfl rfl rfl (Rdc.blk (.head _) rfl)) ?_
      obtain ⟨x37, hx38, H⟩ := bnd H
      refine Ow_cons rfl (OpW_call rfl Tryd.call17 rfl rfl (c_M_strconv_FormatUint p0.value 10 x37 hx38 _ _ hT) ?_)
      rintro _ _ _ - ⟨rfl, rfl, rfl⟩
      obtain ⟨x39, hx40, H⟩ := bnd H
      refine Ow_q rfl rfl rfl (Q_catS hx40 rfl rfl) ?_
      refine Ow_q rfl rfl rfl (Qt_assign rfl) ?_
      refine Ow_nil ?_
      refine Cw_seq ?_
      refine Cw_seq ?_
      refine Cw_region ?_
      refine Ow_q rfl rfl rfl (Qt_fieldAddr (m := 3) rfl rfl rfl rfl rfl) ?_
      refine Ow_q rfl rfl rfl (Qt_load1 (v := (.bool p0.ok)) rfl rfl rfl (Rdc.blk (.head _) rfl)) ?_
      refine Ow_q rfl rfl rfl (Qt_not rfl) ?_
      refine Ow_nil ?_
      refine Cw_cond rfl ?_ ?_
      · intro h44
        have h44 := nt_t (h44)
        have H := iff_ (btf h44) H
        refine Cw_region ?_
        refine Ow_q rfl rfl rfl (Qt_move rfl) ?_
        obtain ⟨x45, hx46, H⟩ := bnd H
        refine Ow_q rfl rfl rfl (Q_catS hx46 rfl rfl) ?_
        refine Ow_q rfl rfl rfl (Qt_assign rfl) ?_
        refine Ow_nil ?_
        refine Cw_seq ?_
        refine Cw_region ?_
        refine Ow_q rfl rfl rfl (Qt_move rfl) ?_
        refine Ow_q rfl rfl rfl (Qt_assign rfl) ?_
        refine Ow_nil ?_
        refine Cw_ret ?_
        obtain ey0 := inj1 H
        subst y0
        refine ⟨(by first | exact .inl rfl | exact .inr rfl), [(.string x45)], ⟨(.string x45), _, rfl, rfl, rfl⟩, ?_⟩
        refine Shift.rem .here ?_
        refine Shift.done ?_
        exact ⟨rfl, rfl, rfl⟩
      · intro h44
        have h44 := nt_f (h44)
        have H := ift h44 H
        refine Cw_skip ?_
        refine Cw_seq ?_
        refine Cw_region ?_
        refine Ow_q rfl rfl rfl (Qt_move rfl) ?_
        refine Ow_q rfl rfl rfl (Qt_assign rfl) ?_
        refine Ow_nil ?_
        refine Cw_ret ?_
        obtain ey0 := inj1 H
        subst y0
        refine ⟨(by first | exact .inl rfl | exact .inr rfl), [(.string x39)], ⟨(.string x39), _, rfl, rfl, rfl⟩, ?_⟩
        refine Shift.rem .here ?_
        refine Shift.done ?_
        exact ⟨rfl, rfl, rfl⟩
    · intro h36
      have h36 := dcd_f (h36)
      have H := iff_ h36 H
      refine Cw_seq ?_
      refine Cw_region ?_
      refine Ow_q rfl rfl rfl (Qt_cmp rfl rfl rfl) ?_
      refine Ow_q rfl rfl rfl (Qt_assign rfl) ?_
      refine Ow_nil ?_
      refine Cw_cond rfl ?_ ?_
      · intro h47
        have h47 := dcd_t (h47)
        have H := ift h47 H
        refine Cw_seq ?_
        refine Cw_region ?_
        refine Ow_q rfl rfl rfl (Qt_assign rfl) ?_
        refine Ow_nil ?_
        refine Cw_ret ?_
        obtain ey0 := inj1 H
        subst y0
        refine ⟨(by first | exact .inl rfl | exact .inr rfl), [(.string (⟨#[119, 111, 117, 108, 100, 32, 98, 108, 111, 99, 107]⟩ : ByteArray))], ⟨(.string (⟨#[119, 111, 117, 108, 100, 32, 98, 108, 111, 99, 107]⟩ : ByteArray)), _, rfl, rfl, rfl⟩, ?_⟩
        refine Shift.rem .here ?_
        refine Shift.done ?_
        exact ⟨rfl, rfl, rfl⟩
      · intro h47
        have h47 := dcd_f (h47)
        have H := iff_ h47 H
        refine Cw_seq ?_
        refine Cw_region ?_
        refine Ow_q rfl rfl rfl (Qt_cmp rfl rfl rfl) ?_
        refine Ow_q rfl rfl rfl (Qt_assign rfl) ?_
        refine Ow_nil ?_
        refine Cw_cond rfl ?_ ?_
        · intro h48
          have h48 := dcd_t (h48)
          have H := ift h48 H
          refine Cw_seq ?_
          refine Cw_region ?_
          refine Ow_q rfl rfl rfl (Qt_assign rfl) ?_
          refine Ow_nil ?_
          refine Cw_ret ?_
          obtain ey0 := inj1 H
          subst y0
          refine ⟨(by first | exact .inl rfl | exact .inr rfl), [(.string (⟨#[116, 105, 109, 101, 100, 32, 111, 117, 116]⟩ : ByteArray))], ⟨(.string (⟨#[116, 105, 109, 101, 100, 32, 111, 117, 116]⟩ : ByteArray)), _, rfl, rfl, rfl⟩, ?_⟩
          refine Shift.rem .here ?_
          refine Shift.done ?_
          exact ⟨rfl, rfl, rfl⟩
        · intro h48
          have h48 := dcd_f (h48)
          have H := iff_ h48 H
          refine Cw_seq ?_
          refine Cw_region ?_
          refine Ow_q rfl rfl rfl (Qt_cmp rfl rfl rfl) ?_
          refine Ow_q rfl rfl rfl (Qt_assign rfl) ?_
          refine Ow_nil ?_
          refine Cw_cond rfl ?_ ?_
          · intro h49
            have h49 := dcd_t (h49)
            have H := ift h49 H
            refine Cw_seq ?_
            refine Cw_region ?_
            refine Ow_q rfl rfl rfl (Qt_assign rfl) ?_
            refine Ow_nil ?_
            refine Cw_ret ?_
            obtain ey0 := inj1 H
            subst y0
            refine ⟨(by first | exact .inl rfl | exact .inr rfl), [(.string (⟨#[112, 97, 110, 105, 99, 107, 101, 100]⟩ : ByteArray))], ⟨(.string (⟨#[112, 97, 110, 105, 99, 107, 101, 100]⟩ : ByteArray)), _, rfl, rfl, rfl⟩, ?_⟩
            refine Shift.rem .here ?_
            refine Shift.done ?_
            exact ⟨rfl, rfl, rfl⟩
          · intro h49
            have h49 := dcd_f (h49)
            have H := iff_ h49 H
            refine Cw_seq ?_
            refine Cw_region ?_
            refine Ow_q rfl rfl rfl (Qt_cmp rfl rfl rfl) ?_
            refine Ow_q rfl rfl rfl (Qt_assign rfl) ?_
            refine Ow_nil ?_
            refine Cw_cond rfl ?_ ?_
            · intro h50
              have h50 := dcd_t (h50)
              have H := ift h50 H
              refine Cw_seq ?_
              refine Cw_region ?_
              refine Ow_q rfl rfl rfl (Qt_assign rfl) ?_
              refine Ow_nil ?_
              refine Cw_ret ?_
              obtain ey0 := inj1 H
              subst y0
              refine ⟨(by first | exact .inl rfl | exact .inr rfl), [(.string (⟨#[99, 108, 111, 115, 101, 100]⟩ : ByteArray))], ⟨(.string (⟨#[99, 108, 111, 115, 101, 100]⟩ : ByteArray)), _, rfl, rfl, rfl⟩, ?_⟩
              refine Shift.rem .here ?_
              refine Shift.done ?_
              exact ⟨rfl, rfl, rfl⟩
            · intro h50
              have h50 := dcd_f (h50)
              have H := iff_ h50 H
              refine Cw_seq ?_
              refine Cw_region ?_
              refine Ow_q rfl rfl rfl (Qt_cmp rfl rfl rfl) ?_
              refine Ow_q rfl rfl rfl (Qt_assign rfl) ?_
              refine Ow_nil ?_
              refine Cw_cond rfl ?_ ?_
              · intro h51
                have h51 := dcd_t (h51)
                have H := ift h51 H
                refine Cw_seq ?_
                refine Cw_region ?_
                refine Ow_q rfl rfl rfl (Qt_fieldAddr (m := 4) rfl rfl rfl rfl rfl) ?_
                refine Ow_q rfl rfl rfl (Qt_load1 (v := (.int .i64 p0.number)) rfl rfl rfl (Rdc.blk (.head _) rfl)) ?_
                obtain ⟨x52, hx53, H⟩ := bnd H
                refine Ow_cons rfl (OpW_call rfl Tryd.call13 rfl rfl (c_M_strconv_Itoa p0.number x52 hx53 _ _ hT) ?_)
                rintro _ _ _ - ⟨rfl, rfl, rfl⟩
                refine Ow_q rfl rfl rfl (Qt_assign rfl) ?_
                refine Ow_nil ?_
                refine Cw_ret ?_
                obtain ey0 := inj1 H
                subst y0
                refine ⟨(by first | exact .inl rfl | exact .inr rfl), [(.string x52)], ⟨(.string x52), _, rfl, rfl, rfl⟩, ?_⟩
                refine Shift.rem .here ?_
                refine Shift.done ?_
                exact ⟨rfl, rfl, rfl⟩
              · intro h51
                have h51 := dcd_f (h51)
                have H := iff_ h51 H
                refine Cw_skip ?_
                refine Cw_seq ?_
                refine Cw_region ?_
                refine Ow_q rfl rfl rfl (Qt_assign rfl) ?_
                refine Ow_nil ?_
                refine Cw_ret ?_
                obtain ey0 := inj1 H
                subst y0
                refine ⟨(by first | exact .inl rfl | exact .inr rfl), [(.string (⟨#[]⟩ : ByteArray))], ⟨(.string (⟨#[]⟩ : ByteArray)), _, rfl, rfl, rfl⟩, ?_⟩
                refine Shift.rem .here ?_
                refine Shift.done ?_
                exact ⟨rfl, rfl, rfl⟩

set_option maxHeartbeats 1000000 in
theorem c_M_report_Result (p0 : Result) (y0 : ByteArray) (H : M_report_Result p0 = some y0) (K : Kp) (G : List Ent) (hT : TabK K) :
    Fc Tryd.prog 7 #[(.agg (Result.cells p0).toArray)] K (G) (fun v K' G' => v = (.string y0) ∧ K = K' ∧ G = G') := by
  refine Fc_body Tryd.func7 rfl Tryd.ntmps7 Tryd.results7 rfl ?_
  unfold M_report_Result at H
  refine Cw_seq ?_
  refine Cw_region ?_
  refine Ow_cons rfl (OpW_box (cs := (Result.cells p0)) rfl rfl rfl (fun b15 => ?_))
  refine Ow_q rfl rfl rfl (Qt_assign rfl) ?_
  refine Ow_nil ?_
  refine Cw_seq ?_
  refine Cw_region ?_
  refine Ow_q rfl rfl rfl (Qt_loadA (m := 5) (cs := (Result.cells p0)) rfl rfl rfl rfl ⟨rfl, Rdc.blk (.head _) rfl⟩) ?_
  obtain ⟨x16, hx17, H⟩ := bnd H
  refine Ow_cons rfl (OpW_call rfl Tryd.call12 rfl rfl (c_M_report_words p0 x16 hx17 _ _ hT) ?_)
  rintro _ _ _ - ⟨rfl, rfl, rfl⟩
  refine Ow_q rfl rfl rfl (Qt_assign rfl) ?_
  refine Ow_nil ?_
  refine Cw_seq ?_
  refine Cw_join (fun env' K' G' => ∃ (t30 : Bool), [(1, (.pointer (some ((⟨b15, 0, none⟩ : Addr).add 0)))), (3, (.string x16)), (12, (.bool t30))] = env' ∧ K = K' ∧ (.blk b15 24 (Result.cells p0)) :: G = G' ∧ M_report_Result_J1 x16 p0 t30 = some y0) ?_ ?_
  · skip
    refine Cw_region ?_
    refine Ow_q rfl rfl rfl (Qt_move rfl) ?_
    refine Ow_q rfl rfl rfl (Qt_neStr rfl rfl) ?_
    refine Ow_q rfl rfl rfl (Qt_move rfl) ?_
    refine Ow_caseG rfl rfl rfl ?_ ?_
    · intro h31
      have h31 := dcd_f (nt_t (h31))
      have H := iff_ h31 H
      refine Ow_qw rfl rfl rfl rfl rfl rfl (Qt_fieldAddr (m := 1) rfl rfl rfl rfl rfl) ?_
      refine Ow_qw rfl rfl rfl rfl rfl rfl (Qt_load1 (v := (.int .i64 p0.case_)) rfl rfl rfl (Rdc.blk (.head _) rfl)) ?_
      refine Ow_qw rfl rfl rfl rfl rfl rfl (Qt_cmp rfl rfl rfl) ?_
      refine Ow_q rfl rfl rfl (Qt_pick_t rfl rfl) ?_
      refine Ow_nil ?_
      refine Shift.done ?_
      exact ⟨[(1, (.pointer (some ((⟨b15, 0, none⟩ : Addr).add 0)))), (3, (.string x16)), (12, (.bool (dcd (p0.case_ ≥ 0))))], ⟨rfl, rfl, rfl, trivial⟩, (dcd (p0.case_ ≥ 0)), rfl, rfl, rfl, H⟩
    · intro h31
      have h31 := dcd_t (nt_f (h31))
      have H := ift h31 H
      refine Ow_pass rfl rfl rfl rfl rfl rfl rfl ?_
      refine Ow_pass rfl rfl rfl rfl rfl rfl rfl ?_
      refine Ow_pass rfl rfl rfl rfl rfl rfl rfl ?_
      refine Ow_q rfl rfl rfl (Qt_pick_f rfl rfl) ?_
      refine Ow_nil ?_
      refine Shift.done ?_
      exact ⟨[(1, (.pointer (some ((⟨b15, 0, none⟩ : Addr).add 0)))), (3, (.string x16)), (12, (.bool false))], ⟨rfl, rfl, rfl, trivial⟩, false, rfl, rfl, rfl, H⟩
  rintro _ _ _ - ⟨t30, rfl, rfl, rfl, H⟩
  unfold M_report_Result_J1 at H
  refine Cw_cond rfl ?_ ?_
  · intro h32
    have H := ift h32 H
    refine Cw_region ?_
    refine Ow_q rfl rfl rfl (Qt_fieldAddr (m := 1) rfl rfl rfl rfl rfl) ?_
    refine Ow_q rfl rfl rfl (Qt_load1 (v := (.int .i64 p0.case_)) rfl rfl rfl (Rdc.blk (.head _) rfl)) ?_
    obtain ⟨x33, hx34, H⟩ := bnd H
    refine Ow_cons rfl (OpW_call rfl Tryd.call13 rfl rfl (c_M_strconv_Itoa p0.case_ x33 hx34 _ _ hT) ?_)
    rintro _ _ _ - ⟨rfl, rfl, rfl⟩
    obtain ⟨x35, hx36, H⟩ := bnd H
    refine Ow_q rfl rfl rfl (Q_catS hx36 rfl rfl) ?_
    obtain ⟨x37, hx38, H⟩ := bnd H
    refine Ow_q rfl rfl rfl (Q_catS hx38 rfl rfl) ?_
    refine Ow_q rfl rfl rfl (Qt_move rfl) ?_
    obtain ⟨x39, hx40, H⟩ := bnd H
    refine Ow_q rfl rfl rfl (Q_catS hx40 rfl rfl) ?_
    refine Ow_q rfl rfl rfl (Qt_assign rfl) ?_
    refine Ow_nil ?_
    refine Cw_seq ?_
    refine Cw_region ?_
    refine Ow_q rfl rfl rfl (Qt_move rfl) ?_
    refine Ow_q rfl rfl rfl (Qt_assign rfl) ?_
    refine Ow_nil ?_
    refine Cw_ret ?_
    obtain ey0 := inj1 H
    subst y0
    refine ⟨(by first | exact .inl rfl | exact .inr rfl), [(.string x39)], ⟨(.string x39), _, rfl, rfl, rfl⟩, ?_⟩
    refine Shift.rem .here ?_
    refine Shift.done ?_
    exact ⟨rfl, rfl, rfl⟩
  · intro h32
    have H := iff_ (btf h32) H
    refine Cw_skip ?_
    refine Cw_seq ?_
    refine Cw_region ?_
    refine Ow_q rfl rfl rfl (Qt_move rfl) ?_
    refine Ow_q rfl rfl rfl (Qt_assign rfl) ?_
    refine Ow_nil ?_
    refine Cw_ret ?_
    obtain ey0 := inj1 H
    subst y0
    refine ⟨(by first | exact .inl rfl | exact .inr rfl), [(.string x16)], ⟨(.string x16), _, rfl, rfl, rfl⟩, ?_⟩
    refine Shift.rem .here ?_
    refine Shift.done ?_
    exact ⟨rfl, rfl, rfl⟩

set_option maxHeartbeats 1000000 in
theorem c_M_report_Event (p0 : Event) (y0 : ByteArray) (H : M_report_Event p0 = some y0) (K : Kp) (G : List Ent) (hT : TabK K) :
    Fc Tryd.prog 10 #[(.agg (Event.cells p0).toArray)] K (G) (fun v K' G' => v = (.string y0) ∧ K = K' ∧ G = G') := by
  refine Fc_body Tryd.func10 rfl Tryd.ntmps10 Tryd.results10 rfl ?_
  unfold M_report_Event at H
  refine Cw_seq ?_
  refine Cw_region ?_
  refine Ow_cons rfl (OpW_box (cs := (Event.cells p0)) rfl rfl rfl (fun b18 => ?_))
  refine Ow_q rfl rfl rfl (Qt_assign rfl) ?_
  refine Ow_nil ?_
  refine Cw_seq ?_
  refine Cw_region ?_
  refine Ow_q rfl rfl rfl (Qt_assign rfl) ?_
  refine Ow_nil ?_
  refine Cw_join (fun env' K' G' => ∃ (s22 : ByteArray), [(1, (.pointer (some ((⟨b18, 0, none⟩ : Addr).add 0)))), (3, (.string s22))] = env' ∧ K = K' ∧ (.blk b18 32 (Event.cells p0)) :: G = G' ∧ M_report_Event_J1 p0 s22 = some y0) ?_ ?_
  · skip
    refine Cw_seq ?_
    refine Cw_region ?_
    refine Ow_q rfl rfl rfl (Qt_fieldAddr (m := 2) rfl rfl rfl rfl rfl) ?_
    refine Ow_q rfl rfl rfl (Qt_load1 (v := (.bool p0.ret)) rfl rfl rfl (Rdc.blk (.head _) rfl)) ?_
    refine Ow_nil ?_
    refine Cw_cond rfl ?_ ?_
    · intro h23
      have H := ift h23 H
      refine Cw_region ?_
      refine Ow_q rfl rfl rfl (Qt_fieldAddr (m := 3) rfl rfl rfl rfl rfl) ?_
      refine Ow_q rfl rfl rfl (Qt_loadA (m := 5) (cs := (Result.cells p0.result)) rfl rfl rfl rfl ⟨rfl, Rdc.blk (.head _) rfl⟩) ?_
      obtain ⟨x24, hx25, H⟩ := bnd H
      refine Ow_cons rfl (OpW_call rfl Tryd.call7 rfl rfl (c_M_report_Result p0.result x24 hx25 _ _ hT) ?_)
      rintro _ _ _ - ⟨rfl, rfl, rfl⟩
      refine Ow_q rfl rfl rfl (Qt_assign rfl) ?_
      refine Ow_nil ?_
      refine Shift.done ?_
      exact ⟨[(1, (.pointer (some ((⟨b18, 0, none⟩ : Addr).add 0)))), (3, (.string x24))], ⟨rfl, rfl, trivial⟩, x24, rfl, rfl, rfl, H⟩
    · intro h23
      have H := iff_ (btf h23) H
      refine Cw_skip ?_
      refine Shift.done ?_
      exact ⟨[(1, (.pointer (some ((⟨b18, 0, none⟩ : Addr).add 0)))), (3, (.string (⟨#[99, 97, 108, 108]⟩ : ByteArray)))], ⟨rfl, rfl, trivial⟩, (⟨#[99, 97, 108, 108]⟩ : ByteArray), rfl, rfl, rfl, H⟩
  rintro _ _ _ - ⟨s22, rfl, rfl, rfl, H⟩
  unfold M_report_Event_J1 at H
  refine Cw_seq ?_
  obtain ⟨x38, hx39, H⟩ := bnd H
  obtain ⟨x40, hx41, H⟩ := bnd H
  obtain ⟨x42, hx43, H⟩ := bnd H
  obtain ⟨x44, hx45, H⟩ := bnd H
  obtain ⟨x46, hx47, H⟩ := bnd H
  obtain ⟨x48, hx49, H⟩ := bnd H
  refine Cw_region_any [.blk b18 32 (Event.cells p0)] rfl (Inc.cons (.head _) Inc.nil) ?_
  refine Aw_q 0 rfl (by kernel_rfl) (by kernel_rfl) (by kernel_rfl) rfl rfl rfl (Qt_fieldAddr (m := 0) rfl rfl rfl rfl rfl) ?_
  refine Aw_q 1 rfl (by kernel_rfl) (by kernel_rfl) (by kernel_rfl) rfl rfl rfl (Qt_load1 (v := (.int .i64 p0.thread)) rfl rfl rfl (Rdc.blk (.head _) rfl)) ?_
  refine Aw_q 4 rfl (by kernel_rfl) (by kernel_rfl) (by kernel_rfl) rfl rfl rfl (Qt_fieldAddr (m := 1) rfl rfl rfl rfl rfl) ?_
  refine Aw_q 5 rfl (by kernel_rfl) (by kernel_rfl) (by kernel_rfl) rfl rfl rfl (Qt_load1 (v := (.int .i64 p0.op)) rfl rfl rfl (Rdc.blk (.head _) rfl)) ?_
  refine Aw_q 9 rfl (by kernel_rfl) (by kernel_rfl) (by kernel_rfl) rfl rfl rfl (Qt_move rfl) ?_
  refine Aw_one 2 (by kernel_rfl) (Ax_mk rfl rfl ?_)
  refine OpW_call rfl Tryd.call13 rfl rfl (c_M_strconv_Itoa p0.thread x38 hx39 _ _ hT) ?_
  rintro _ _ _ - ⟨rfl, rfl, rfl⟩
  refine ⟨(Inc.cons (.head _) Inc.nil), ?_⟩
  refine Aw_q 3 rfl (by kernel_rfl) (by kernel_rfl) (by kernel_rfl) rfl rfl rfl (Q_catS hx41 rfl rfl) ?_
  refine Aw_one 6 (by kernel_rfl) (Ax_mk rfl rfl ?_)
  refine OpW_call rfl Tryd.call13 rfl rfl (c_M_strconv_Itoa p0.op x42 hx43 _ _ hT) ?_
  rintro _ _ _ - ⟨rfl, rfl, rfl⟩
  refine ⟨(Inc.cons (.head _) Inc.nil), ?_⟩
  refine Aw_q 7 rfl (by kernel_rfl) (by kernel_rfl) (by kernel_rfl) rfl rfl rfl (Q_catS hx45 rfl rfl) ?_
  refine Aw_q 8 rfl (by kernel_rfl) (by kernel_rfl) (by kernel_rfl) rfl rfl rfl (Q_catS hx47 rfl rfl) ?_
  refine Aw_q 10 rfl (by kernel_rfl) (by kernel_rfl) (by kernel_rfl) rfl rfl rfl (Q_catS hx49 rfl rfl) ?_
  refine Aw_q 11 rfl (by kernel_rfl) (by kernel_rfl) (by kernel_rfl) rfl rfl rfl (Qt_assign rfl) ?_
  refine Aw_done (by kernel_rfl) ?_
  refine Cw_ret ?_
  obtain ey0 := inj1 H
  subst y0
  refine ⟨(by first | exact .inl rfl | exact .inr rfl), [(.string x48)], ⟨(.string x48), _, rfl, rfl, rfl⟩, ?_⟩
  refine Shift.rem .here ?_
  refine Shift.done ?_
  exact ⟨rfl, rfl, rfl⟩


end Go.Hx
