/- Printed by program. -/
import Derived.Test.YtgpoanmjkggijaaXCM
import Derived.Test.YtgpoanmjkggijaaXCWAccount
import Derived.Test.YtgpoanmjkggijaaXCWDraw
import Derived.Test.YtgpoanmjkggijaaXCWLaw251
namespace Go.Hx
open Go Go.Proofs
set_option linter.unusedSimpArgs false
set_option linter.unusedVariables false
set_option maxRecDepth 10000
set_option maxHeartbeats 1000000 in
theorem c_M_185z (p0 : List Int) (vp0 : SV) (p1 : Int) (p2 : Int) (p3 : Int) (p4 : Int) (y0 : Bool) (H : M_185z p0 p1 p2 p3 p4 = some y0) (K : Kp) (G : List Ent) (hp0 : Slr Ty.u8 K (sv vp0) p0) :
  Fc Try.prog 6 #[(sv vp0), (.int .i64 p1), (.int .i64 p2), (.int .u8 p3), (.int .u8 p4)] K (G) (fun v K' G' => v = (.bool y0) ∧ G = G') := by
 refine Fc_body Try.func6 rfl Try.ntmps6 Try.results6 rfl ?_
 unfold M_185z at H
 refine Cw_seq<|Cw_region<|Ow_q rfl rfl rfl (Qt_assign rfl)<|Ow_nil<|Cw_seq<|Cw_seq<|Cw_region<|?_
 obtain ⟨x310, hx311, H⟩ := bnd H
 refine Ow_cons rfl (OpW_call rfl Try.call29 rfl rfl (c_M_96z  x310 hx311 _ _ ) ?_)
 rintro _ K312 _ hK313 ⟨rfl, rfl⟩
 refine Ow_q rfl rfl rfl (Qt_not rfl)<|Ow_nil<|?_
 refine Cw_cond rfl ?_ ?_
 ·intro h314
  have h314 := nt_t (h314)
  have H := iff_ (btf h314) H
  refine Cw_seq<|Cw_region<|Ow_q rfl rfl rfl (Qt_assign rfl)<|Ow_nil<|Cw_ret<|?_
  obtain ey0 := inj1 H
  subst y0
  refine ⟨(by first | exact .inl rfl | exact .inr rfl), [(.bool false)], ⟨(.bool false), _, rfl, rfl, rfl⟩, ?_⟩
  exact Shift.done ⟨rfl, rfl⟩
 ·intro h314
  have h314 := nt_f (h314)
  have H := ift h314 H
  refine Cw_skip<|Cw_seq<|Cw_region<|Ow_q rfl rfl rfl (Qt_move rfl)<|?_
  obtain ⟨x315, x316, x317, hx318, H⟩ := bnd3 H
  have hs319 := (hp0).mono hK313
  refine Ow_cons rfl (OpW_call rfl Try.call30 rfl rfl (c_M_73z p0 vp0 x315 x316 x317 hx318 _ _ hs319) ?_)
  rintro _ K325 _ hK326 ⟨v320, v321, v322, rs323, v324, rfl, rfl, hs327, hs328, hs329, hs330⟩
  refine Ow_q rfl rfl rfl (Qt_move rfl)<|Ow_q rfl rfl rfl (Qt_extract rfl rfl)<|Ow_q rfl rfl rfl (Qt_extract rfl rfl)<|Ow_q rfl rfl rfl (Qt_extract rfl rfl)<|?_
  refine Ow_cons rfl (OpW_alloc (cs := (Config.cells (Config.mk [] [] 0) nilS nilS)) rfl rfl rfl rfl (fun b331 => ?_))
  refine Ow_cons rfl (OpW_store (vs := (Config.cells x315 v320 v321)) (all' := (Config.cells x315 v320 v321)) rfl rfl rfl rfl rfl .here rfl rfl rfl ?_)
  refine Ow_q rfl rfl rfl (Qt_assign rfl)<|Ow_q rfl rfl rfl (Qt_assign rfl)<|Ow_nil<|Cw_seq<|Cw_seq<|Cw_region<|Ow_q rfl rfl rfl (Qt_loadA (m := 3) (cs := (Config.cells x315 v320 v321)) rfl rfl rfl rfl ⟨rfl, Rdc.blk Mb0 rfl⟩)<|Ow_q rfl rfl rfl (Qt_move rfl)<|Ow_q rfl rfl rfl (Qt_move rfl)<|?_
  refine Ow.shift (Shift.settle (T := (Ty.sl TyOp)) (.there (.there (.there .here))) hs329 rfl (fun K343 hK344 hs345 => Shift.done ?_))
  obtain ⟨x346, hx347, H⟩ := bnd H
  have hs348 := (hs327).mono hK344
  have hs349 := (hs328).mono hK344
  have hs350 := (hs330).mono hK344
  refine Ow_cons rfl (OpW_call rfl Try.call31 rfl rfl (c_M_2z x315 v320 v321 x316 v322 x317 v324 x346 hx347 _ _ hs348 hs349 hs345 hs350) ?_)
  rintro _ K351 _ hK352 ⟨rfl, rfl⟩
  refine Ow_q rfl rfl rfl (Qt_not rfl)<|Ow_nil<|?_
  refine Cw_cond rfl ?_ ?_
  ·intro h353
   have h353 := nt_t (h353)
   have H := iff_ (btf h353) H
   refine Cw_seq<|Cw_region<|Ow_q rfl rfl rfl (Qt_assign rfl)<|Ow_nil<|Cw_ret<|?_
   obtain ey0 := inj1 H
   subst y0
   refine ⟨(by first | exact .inl rfl | exact .inr rfl), [(.bool false)], ⟨(.bool false), _, rfl, rfl, rfl⟩, ?_⟩
   refine Re0<|Re0<|Re0<|Re0<|Re0<|Shift.done<|?_
   exact ⟨rfl, rfl⟩
  ·intro h353
   have h353 := nt_f (h353)
   have H := ift h353 H
   refine Cw_skip<|Cw_seq<|Cw_seq<|Cw_region<|Ow_q rfl rfl rfl (Qt_move rfl)<|?_
   have hs356 := (hs350).mono hK352
   refine Ow_q rfl rfl rfl (Q_len (T := TyEvent) hs356 rfl rfl)<|Ow_q rfl rfl rfl (Qt_cmp rfl rfl rfl)<|Ow_nil<|?_
   refine Cw_cond rfl ?_ ?_
   ·intro h357
    have h357 := dcd_t (h357)
    have H := ift h357 H
    refine Cw_seq<|Cw_region<|Ow_q rfl rfl rfl (Qt_assign rfl)<|Ow_nil<|Cw_ret<|?_
    obtain ey0 := inj1 H
    subst y0
    refine ⟨(by first | exact .inl rfl | exact .inr rfl), [(.bool true)], ⟨(.bool true), _, rfl, rfl, rfl⟩, ?_⟩
    refine Re0<|Re0<|Re0<|Re0<|Re0<|Shift.done<|?_
    exact ⟨rfl, rfl⟩
   ·intro h357
    have h357 := dcd_f (h357)
    have H := iff_ h357 H
    refine Cw_skip<|Cw_seq<|Cw_region<|Ow_q rfl rfl rfl (Qt_move rfl)<|?_
    have hR358 : RowR TyEvent K351 [] [] := RowR.nil
    refine Ow.shift (Shift.nilRow 65 8 (Shift.done ?_))
    obtain ⟨x359, hx360, H⟩ := bnd H
    refine Ow_cons rfl (O_appRow (T := TyEvent) (bytes := 64) rfl rfl rfl Mb0 hR358 (SrcT.sl hs356) hx360 rfl rfl rfl rfl rfl rfl rfl rfl (fun v361 rs362 hR363 => ⟨_, .here, ?_⟩))
    refine Ow_q rfl rfl rfl (Qt_assign rfl)<|Ow_nil<|Cw_seq<|Cw_region<|Ow_q rfl rfl rfl (Qt_move rfl)<|Ow_q rfl rfl rfl (Qt_move rfl)<|Ow_q rfl rfl rfl (Q_len (T := TyEvent) hs356 rfl rfl)<|?_
    obtain ⟨x364, hx365, H⟩ := bnd H
    refine Ow_cons rfl (OpW_call rfl Try.call32 rfl rfl (c_M_81z p1 (x317.length : Int) x364 hx365 _ _ ) ?_)
    rintro _ _ _ - ⟨rfl, rfl, rfl⟩
    refine Ow_q rfl rfl rfl (Qt_move rfl)<|Ow_q rfl rfl rfl (Qt_move rfl)<|Ow_q rfl rfl rfl (Q_len (T := TyEvent) hs356 rfl rfl)<|?_
    obtain ⟨x366, hx367, H⟩ := bnd H
    refine Ow_cons rfl (OpW_call rfl Try.call32 rfl rfl (c_M_81z p2 (x317.length : Int) x366 hx367 _ _ ) ?_)
    rintro _ _ _ - ⟨rfl, rfl, rfl⟩
    refine Ow_q rfl rfl rfl (Qt_assign rfl)<|Ow_q rfl rfl rfl (Qt_assign rfl)<|Ow_nil<|?_
    refine Cw_join (fun env' K' G' => ∃ (v589 : SV) (l590 : List Event) (rs592 : List (List Value)), [(11, (.pointer (some ((⟨b331, 0, none⟩ : Addr).add 0)))), (12, (sv v322)), (14, (sv v589))] = env' ∧ (.blk b331 34 (Config.cells x315 v320 v321)) :: (.row (sv v589) 65 8 rs592.flatten) :: (.tok 3 1 [(sv v320)]) :: (.tok 23 1 [(sv v321)]) :: (.tok 99 1 [(sv v322)]) :: G = G' ∧ M_1z x316 x315 l590 = some y0 ∧ RowR TyEvent K' rs592 l590) ?_ ?_
    ·skip
     refine Cw_seq<|Cw_region<|Ow_q rfl rfl rfl (Qt_move rfl)<|Ow_q rfl rfl rfl (Qt_rem rfl rfl (by decide))<|Ow_nil<|Cw_block<|Cw_seq<|Cw_region<|Ow_q rfl rfl rfl (Qt_cmp rfl rfl rfl)<|Ow_q rfl rfl rfl (Qt_assign rfl)<|?_
     refine Ow_nil ?_
     refine Cw_cond rfl ?_ ?_
     ·intro h593
      have h593 := dcd_t (h593)
      have H := ift h593 H
      refine Cw_seq<|Cw_region<|Ow_q rfl rfl rfl (Qt_move rfl)<|Ow_q rfl rfl rfl (Qt_move rfl)<|?_
      obtain ⟨x594, hx595, H⟩ := bnd H
      obtain ⟨r596, hq597, hr598⟩ := RowR.at hR363 hx595
      obtain rfl := hr598
      refine Ow_q rfl rfl rfl (Q_ixR (T := TyEvent) Mb0 hR363 hq597 (getI_ix hx595).1 rfl rfl rfl rfl rfl)<|Ow_q rfl rfl rfl (Qt_fieldAddr (m := 2) rfl rfl rfl rfl rfl)<|Ow_q rfl rfl rfl (Qt_load1 (v := (.bool x594.ret)) rfl rfl rfl (Rd_row (T := TyEvent) Mb0 hR363 hq597 rfl rfl))<|Ow_nil<|?_
      refine Cw_cond rfl ?_ ?_
      ·intro h599
       have H := ift h599 H
       refine Cw_region<|Ow_q rfl rfl rfl (Qt_move rfl)<|Ow_q rfl rfl rfl (Qt_move rfl)<|Ow_q rfl rfl rfl (Qt_move rfl)<|Ow_q rfl rfl rfl (Qt_rem rfl rfl (by decide))<|Ow_q rfl rfl rfl (Qt_conv (c := wU (Int.tmod p4 16)) rfl rfl rfl rfl)<|?_
       obtain ⟨x600, hx601, H⟩ := bnd H
       obtain ⟨r602, hq603, hr604⟩ := RowR.at hR363 hx601
       obtain rfl := hr604
       refine Ow_q rfl rfl rfl (Q_ixR (T := TyEvent) Mb0 hR363 hq603 (getI_ix hx601).1 rfl rfl rfl rfl rfl)<|Ow_q rfl rfl rfl (Qt_fieldAddr (m := 3) rfl rfl rfl rfl rfl)<|Ow_q rfl rfl rfl (Qt_fieldAddr (m := 5) rfl rfl rfl rfl rfl)<|?_
       refine Ow_cons rfl (O_storeR (T := TyEvent) (vs := [(.int .u64 (wU (Int.tmod p4 16)))]) (r' := (Event.cells (Event.mk x600.thread x600.op x600.ret (Result.mk x600.result.kind x600.result.case_ (wU (Int.tmod p4 16)) x600.result.ok x600.result.number)))) (l' := (setI x359 x364 (Event.mk x600.thread x600.op x600.ret (Result.mk x600.result.kind x600.result.case_ (wU (Int.tmod p4 16)) x600.result.ok x600.result.number)))) rfl rfl rfl rfl rfl .here hR363 hq603 rfl rfl rfl (RowR.set x364 hR363 rfl) (fun hR605 => ?_))
       have hE606 := set_at hq603 (v := (Event.cells (Event.mk x600.thread x600.op x600.ret (Result.mk x600.result.kind x600.result.case_ (wU (Int.tmod p4 16)) x600.result.ok x600.result.number))))
       refine Ow_nil<|Pu4<|Pu4<|Pu4<|Pu3<|Pu4<|Re5<|Shift.done<|?_
       exact ⟨_, by exact ⟨rfl, rfl, rfl, trivial⟩, v361, (setI x359 x364 (Event.mk x600.thread x600.op x600.ret (Result.mk x600.result.kind x600.result.case_ (wU (Int.tmod p4 16)) x600.result.ok x600.result.number))), (rs362.set x364.toNat (Event.cells (Event.mk x600.thread x600.op x600.ret (Result.mk x600.result.kind x600.result.case_ (wU (Int.tmod p4 16)) x600.result.ok x600.result.number)))), rfl, rfl, H, hR605⟩
      ·intro h599
       have H := iff_ (btf h599) H
       refine Cw_skip<|Pu4<|Pu4<|Pu4<|Pu3<|Pu4<|Re5<|Shift.done<|?_
       exact ⟨_, by exact ⟨rfl, rfl, rfl, trivial⟩, v361, x359, rs362, rfl, rfl, H, hR363⟩
     ·intro h593
      have h593 := dcd_f (h593)
      have H := iff_ h593 H
      refine Cw_seq<|Cw_region<|Ow_q rfl rfl rfl (Qt_cmp rfl rfl rfl)<|Ow_q rfl rfl rfl (Qt_assign rfl)<|Ow_nil<|?_
      refine Cw_cond rfl ?_ ?_
      ·intro h607
       have h607 := dcd_t (h607)
       have H := ift h607 H
       refine Cw_seq<|Cw_region<|Ow_q rfl rfl rfl (Qt_move rfl)<|Ow_q rfl rfl rfl (Qt_move rfl)<|?_
       obtain ⟨x608, hx609, H⟩ := bnd H
       obtain ⟨r610, hq611, hr612⟩ := RowR.at hR363 hx609
       obtain rfl := hr612
       refine Ow_q rfl rfl rfl (Q_ixR (T := TyEvent) Mb0 hR363 hq611 (getI_ix hx609).1 rfl rfl rfl rfl rfl)<|Ow_q rfl rfl rfl (Qt_fieldAddr (m := 2) rfl rfl rfl rfl rfl)<|Ow_q rfl rfl rfl (Qt_load1 (v := (.bool x608.ret)) rfl rfl rfl (Rd_row (T := TyEvent) Mb0 hR363 hq611 rfl rfl))<|Ow_nil<|?_
       refine Cw_cond rfl ?_ ?_
       ·intro h613
        have H := ift h613 H
        refine Cw_region<|Ow_q rfl rfl rfl (Qt_move rfl)<|Ow_q rfl rfl rfl (Qt_move rfl)<|Ow_q rfl rfl rfl (Qt_move rfl)<|Ow_q rfl rfl rfl (Qt_move rfl)<|?_
        obtain ⟨x614, hx615, H⟩ := bnd H
        obtain ⟨r616, hq617, hr618⟩ := RowR.at hR363 hx615
        obtain rfl := hr618
        refine Ow_q rfl rfl rfl (Q_ixR (T := TyEvent) Mb0 hR363 hq617 (getI_ix hx615).1 rfl rfl rfl rfl rfl)<|Ow_q rfl rfl rfl (Qt_fieldAddr (m := 3) rfl rfl rfl rfl rfl)<|Ow_q rfl rfl rfl (Qt_fieldAddr (m := 6) rfl rfl rfl rfl rfl)<|Ow_q rfl rfl rfl (Qt_load1 (v := (.bool x614.result.ok)) rfl rfl rfl (Rd_row (T := TyEvent) Mb0 hR363 hq617 rfl rfl))<|Ow_q rfl rfl rfl (Qt_not rfl)<|?_
        obtain ⟨x619, hx620, H⟩ := bnd H
        obtain ⟨r621, hq622, hr623⟩ := RowR.at hR363 hx620
        obtain rfl := hr623
        refine Ow_q rfl rfl rfl (Q_ixR (T := TyEvent) Mb0 hR363 hq622 (getI_ix hx620).1 rfl rfl rfl rfl rfl)<|Ow_q rfl rfl rfl (Qt_fieldAddr (m := 3) rfl rfl rfl rfl rfl)<|Ow_q rfl rfl rfl (Qt_fieldAddr (m := 6) rfl rfl rfl rfl rfl)<|?_
        refine Ow_cons rfl (O_storeR (T := TyEvent) (vs := [(.bool (!(x614.result.ok)))]) (r' := (Event.cells (Event.mk x619.thread x619.op x619.ret (Result.mk x619.result.kind x619.result.case_ x619.result.value (!(x614.result.ok)) x619.result.number)))) (l' := (setI x359 x364 (Event.mk x619.thread x619.op x619.ret (Result.mk x619.result.kind x619.result.case_ x619.result.value (!(x614.result.ok)) x619.result.number)))) rfl rfl rfl rfl rfl .here hR363 hq622 rfl rfl rfl (RowR.set x364 hR363 rfl) (fun hR624 => ?_))
        have hE625 := set_at hq622 (v := (Event.cells (Event.mk x619.thread x619.op x619.ret (Result.mk x619.result.kind x619.result.case_ x619.result.value (!(x614.result.ok)) x619.result.number))))
        refine Ow_nil<|Pu4<|Pu4<|Pu4<|Pu3<|Pu4<|Re5<|Shift.done<|?_
        exact ⟨_, by exact ⟨rfl, rfl, rfl, trivial⟩, v361, (setI x359 x364 (Event.mk x619.thread x619.op x619.ret (Result.mk x619.result.kind x619.result.case_ x619.result.value (!(x614.result.ok)) x619.result.number))), (rs362.set x364.toNat (Event.cells (Event.mk x619.thread x619.op x619.ret (Result.mk x619.result.kind x619.result.case_ x619.result.value (!(x614.result.ok)) x619.result.number)))), rfl, rfl, H, hR624⟩
       ·intro h613
        have H := iff_ (btf h613) H
        refine Cw_skip<|Pu4<|Pu4<|Pu4<|Pu3<|Pu4<|Re5<|Shift.done<|?_
        exact ⟨_, by exact ⟨rfl, rfl, rfl, trivial⟩, v361, x359, rs362, rfl, rfl, H, hR363⟩
      ·intro h607
       have h607 := dcd_f (h607)
       have H := iff_ h607 H
       refine Cw_seq<|Cw_region<|Ow_q rfl rfl rfl (Qt_cmp rfl rfl rfl)<|Ow_q rfl rfl rfl (Qt_assign rfl)<|Ow_nil<|?_
       refine Cw_cond rfl ?_ ?_
       ·intro h626
        have h626 := dcd_t (h626)
        have H := ift h626 H
        refine Cw_join (fun env' K' G' => ∃ (t638 : Bool), [(11, (.pointer (some ((⟨b331, 0, none⟩ : Addr).add 0)))), (12, (sv v322)), (14, (sv v361)), (15, (.int .i64 x364)), (16, (.int .i64 x366)), (98, (.bool t638))] = env' ∧ K351 = K' ∧ (.blk b331 34 (Config.cells x315 v320 v321)) :: (.row (sv v361) 65 8 rs362.flatten) :: (.tok 3 1 [(sv v320)]) :: (.tok 23 1 [(sv v321)]) :: (.tok 99 1 [(sv v322)]) :: G = G' ∧ M_88z x316 x359 x364 x366 x315 t638 = some y0) ?_ ?_
        ·skip
         refine Cw_region<|Ow_q rfl rfl rfl (Qt_move rfl)<|Ow_q rfl rfl rfl (Qt_move rfl)<|?_
         obtain ⟨x639, hx640, H⟩ := bnd H
         obtain ⟨r641, hq642, hr643⟩ := RowR.at hR363 hx640
         obtain rfl := hr643
         refine Ow_q rfl rfl rfl (Q_ixR (T := TyEvent) Mb0 hR363 hq642 (getI_ix hx640).1 rfl rfl rfl rfl rfl)<|Ow_q rfl rfl rfl (Qt_fieldAddr (m := 2) rfl rfl rfl rfl rfl)<|Ow_q rfl rfl rfl (Qt_load1 (v := (.bool x639.ret)) rfl rfl rfl (Rd_row (T := TyEvent) Mb0 hR363 hq642 rfl rfl))<|Ow_q rfl rfl rfl (Qt_move rfl)<|?_
         refine Ow_caseG rfl rfl rfl ?_ ?_
         ·intro h644
          have H := ift h644 H
          refine Ow_qw rfl rfl rfl rfl rfl rfl (Qt_move rfl)<|Ow_qw rfl rfl rfl rfl rfl rfl (Qt_move rfl)<|?_
          obtain ⟨x645, hx646, H⟩ := bnd H
          obtain ⟨r647, hq648, hr649⟩ := RowR.at hR363 hx646
          obtain rfl := hr649
          refine Ow_qw rfl rfl rfl rfl rfl rfl (Q_ixR (T := TyEvent) Mb0 hR363 hq648 (getI_ix hx646).1 rfl rfl rfl rfl rfl)<|Ow_qw rfl rfl rfl rfl rfl rfl (Qt_fieldAddr (m := 2) rfl rfl rfl rfl rfl)<|Ow_qw rfl rfl rfl rfl rfl rfl (Qt_load1 (v := (.bool x645.ret)) rfl rfl rfl (Rd_row (T := TyEvent) Mb0 hR363 hq648 rfl rfl))<|Ow_q rfl rfl rfl (Qt_pick_t rfl rfl)<|Ow_nil<|Pu4<|Pu4<|Pu4<|Pu3<|Pu4<|?_
          refine Re5<|Shift.done<|?_
          exact ⟨_, by exact ⟨rfl, rfl, rfl, rfl, rfl, rfl, trivial⟩, x645.ret, rfl, rfl, rfl, H⟩
         ·intro h644
          have H := iff_ (btf h644) H
          refine Ow_pass rfl rfl rfl rfl rfl rfl rfl<|Ow_pass rfl rfl rfl rfl rfl rfl rfl<|Ow_pass rfl rfl rfl rfl rfl rfl rfl<|Ow_pass rfl rfl rfl rfl rfl rfl rfl<|Ow_pass rfl rfl rfl rfl rfl rfl rfl<|Ow_q rfl rfl rfl (Qt_pick_f rfl rfl)<|Ow_nil<|Pu4<|Pu4<|Pu4<|?_
          refine Pu3<|Pu4<|Re5<|Shift.done<|?_
          exact ⟨_, by exact ⟨rfl, rfl, rfl, rfl, rfl, rfl, trivial⟩, false, rfl, rfl, rfl, H⟩
        rintro _ _ _ - ⟨t638, rfl, rfl, rfl, H⟩
        unfold M_88z at H
        refine Cw_cond rfl ?_ ?_
        ·intro h650
         have H := ift h650 H
         refine Cw_join (fun env' K' G' => ∃ (b673 : Nat) (b674 : Nat) (i675 : Int) (i676 : Int) (i677 : Int) (t678 : Bool) (i679 : Int) (i680 : Int) (i681 : Int) (i682 : Int) (t683 : Bool) (i684 : Int), [(11, (.pointer (some ((⟨b331, 0, none⟩ : Addr).add 0)))), (12, (sv v322)), (14, (sv v361)), (15, (.int .i64 x364)), (16, (.int .i64 x366)), (17, (.pointer (some ((⟨b673, 0, none⟩ : Addr).add 0)))), (18, (.pointer (some ((⟨b674, 0, none⟩ : Addr).add 0))))] = env' ∧ K351 = K' ∧ (.blk b674 25 (Result.cells (Result.mk i675 i676 i677 t678 i679))) :: (.blk b673 25 (Result.cells (Result.mk i680 i681 i682 t683 i684))) :: (.blk b331 34 (Config.cells x315 v320 v321)) :: (.row (sv v361) 65 8 rs362.flatten) :: (.tok 3 1 [(sv v320)]) :: (.tok 23 1 [(sv v321)]) :: (.tok 99 1 [(sv v322)]) :: G = G' ∧ M_182z x316 x359 x364 x366 x315 i675 i676 i677 t678 i679 i680 i681 i682 t683 i684 = some y0) ?_ ?_
         ·skip
          obtain ⟨x685, hx686, H⟩ := bnd H
          obtain ⟨x690, hx691, H⟩ := bnd H
          refine Cw_region_any [.blk b331 34 (Config.cells x315 v320 v321), .row (sv v361) 65 8 rs362.flatten, .tok 3 1 [(sv v320)], .tok 23 1 [(sv v321)], .tok 99 1 [(sv v322)]] rfl (Inc.cons Mb0 (Inc.cons Mb1 (Inc.cons Mb2 (Inc.cons Mb3 (Inc.cons Mb4 Inc.nil)))))<|Awq 0 rfl (by kernel_rfl) rfl rfl rfl (Qt_move rfl)<|Awq 1 rfl (by kernel_rfl) rfl rfl rfl (Qt_move rfl)<|?_
          obtain ⟨r697, hq698, hr699⟩ := RowR.at hR363 hx686
          obtain rfl := hr699
          refine Awq 2 rfl (by kernel_rfl) rfl rfl rfl (Q_ixR (T := TyEvent) Mb1 hR363 hq698 (getI_ix hx686).1 rfl rfl rfl rfl rfl)<|Awq 3 rfl (by kernel_rfl) rfl rfl rfl (Qt_fieldAddr (m := 3) rfl rfl rfl rfl rfl)<|Awq 4 rfl (by kernel_rfl) rfl rfl rfl (Qt_loadA (m := 5) (cs := (Result.cells x685.result)) rfl rfl rfl rfl ⟨rfl, Rd_row (T := TyEvent) Mb1 hR363 hq698 rfl rfl⟩)<|Awq 5 rfl (by kernel_rfl) rfl rfl rfl (Qt_move rfl)<|Awq 6 rfl (by kernel_rfl) rfl rfl rfl (Qt_move rfl)<|?_
          obtain ⟨r700, hq701, hr702⟩ := RowR.at hR363 hx691
          obtain rfl := hr702
          refine Awq 7 rfl (by kernel_rfl) rfl rfl rfl (Q_ixR (T := TyEvent) Mb1 hR363 hq701 (getI_ix hx691).1 rfl rfl rfl rfl rfl)<|Awq 8 rfl (by kernel_rfl) rfl rfl rfl (Qt_fieldAddr (m := 3) rfl rfl rfl rfl rfl)<|Awq 9 rfl (by kernel_rfl) rfl rfl rfl (Qt_loadA (m := 5) (cs := (Result.cells x690.result)) rfl rfl rfl rfl ⟨rfl, Rd_row (T := TyEvent) Mb1 hR363 hq701 rfl rfl⟩)<|?_
          refine Aw_two 10 11 (by kernel_rfl) ?_ ?_
          ·skip
           refine id (Ax_mk rfl rfl ?_)
           refine OpW_alloc (cs := (Result.cells (Result.mk 0 0 0 false 0))) rfl rfl rfl rfl (fun b703 => ⟨(Inc.cons Mb1 (Inc.cons Mb2 (Inc.cons Mb3 (Inc.cons Mb4 (Inc.cons Mb5 Inc.nil))))), ?_⟩)
           refine Aw_one 11 (by kernel_rfl) (Ax_mk rfl rfl ?_)
           refine OpW_alloc (cs := (Result.cells (Result.mk 0 0 0 false 0))) rfl rfl rfl rfl (fun b704 => ⟨(Inc.cons Mb2 (Inc.cons Mb3 (Inc.cons Mb4 (Inc.cons Mb5 (Inc.cons Mb6 Inc.nil))))), ?_⟩)
           refine Aw_one 12 (by kernel_rfl) (Ax_mk rfl rfl ?_)
           refine OpW_store (vs := (Result.cells x685.result)) (all' := (Result.cells x685.result)) rfl rfl rfl rfl rfl (.there .here) rfl rfl rfl ⟨(Inc.cons Mb2 (Inc.cons Mb3 (Inc.cons Mb4 (Inc.cons Mb5 (Inc.cons Mb6 Inc.nil))))), ?_⟩
           refine Aw_one 13 (by kernel_rfl) (Ax_mk rfl rfl ?_)
           refine OpW_store (vs := (Result.cells x690.result)) (all' := (Result.cells x690.result)) rfl rfl rfl rfl rfl .here rfl rfl rfl ⟨(Inc.cons Mb2 (Inc.cons Mb3 (Inc.cons Mb4 (Inc.cons Mb5 (Inc.cons Mb6 Inc.nil))))), ?_⟩
           refine Aw_done (by kernel_rfl)<|Pu6<|Pu6<|Pu6<|Pu6<|Pu6<|Pu6<|Pu6<|Shift.done<|?_
           exact ⟨_, by exact ⟨rfl, rfl, rfl, rfl, rfl, rfl, rfl, trivial⟩, b703, b704, x690.result.kind, x690.result.case_, x690.result.value, x690.result.ok, x690.result.number, x685.result.kind, x685.result.case_, x685.result.value, x685.result.ok, x685.result.number, rfl, rfl, rfl, H⟩
          ·skip
           refine id (Ax_mk rfl rfl ?_)
           refine OpW_alloc (cs := (Result.cells (Result.mk 0 0 0 false 0))) rfl rfl rfl rfl (fun b705 => ⟨(Inc.cons Mb1 (Inc.cons Mb2 (Inc.cons Mb3 (Inc.cons Mb4 (Inc.cons Mb5 Inc.nil))))), ?_⟩)
           refine Aw_one 10 (by kernel_rfl) (Ax_mk rfl rfl ?_)
           refine OpW_alloc (cs := (Result.cells (Result.mk 0 0 0 false 0))) rfl rfl rfl rfl (fun b706 => ⟨(Inc.cons Mb2 (Inc.cons Mb3 (Inc.cons Mb4 (Inc.cons Mb5 (Inc.cons Mb6 Inc.nil))))), ?_⟩)
           refine Aw_one 12 (by kernel_rfl) (Ax_mk rfl rfl ?_)
           refine OpW_store (vs := (Result.cells x685.result)) (all' := (Result.cells x685.result)) rfl rfl rfl rfl rfl .here rfl rfl rfl ⟨(Inc.cons Mb2 (Inc.cons Mb3 (Inc.cons Mb4 (Inc.cons Mb5 (Inc.cons Mb6 Inc.nil))))), ?_⟩
           refine Aw_one 13 (by kernel_rfl) (Ax_mk rfl rfl ?_)
           refine OpW_store (vs := (Result.cells x690.result)) (all' := (Result.cells x690.result)) rfl rfl rfl rfl rfl (.there .here) rfl rfl rfl ⟨(Inc.cons Mb2 (Inc.cons Mb3 (Inc.cons Mb4 (Inc.cons Mb5 (Inc.cons Mb6 Inc.nil))))), ?_⟩
           refine Aw_done (by kernel_rfl)<|Pu6<|Pu6<|Pu6<|Pu6<|Pu6<|Pu5<|Pu6<|Shift.done<|?_
           exact ⟨_, by exact ⟨rfl, rfl, rfl, rfl, rfl, rfl, rfl, trivial⟩, b706, b705, x690.result.kind, x690.result.case_, x690.result.value, x690.result.ok, x690.result.number, x685.result.kind, x685.result.case_, x685.result.value, x685.result.ok, x685.result.number, rfl, rfl, rfl, H⟩
         rintro _ _ _ - ⟨b673, b674, i675, i676, i677, t678, i679, i680, i681, i682, t683, i684, rfl, rfl, rfl, H⟩
         unfold M_182z at H
         obtain ⟨x707, hx708, H⟩ := bnd H
         obtain ⟨x714, hx715, H⟩ := bnd H
         refine Cw_region_any [.blk b674 25 (Result.cells (Result.mk i675 i676 i677 t678 i679)), .blk b673 25 (Result.cells (Result.mk i680 i681 i682 t683 i684)), .blk b331 34 (Config.cells x315 v320 v321), .tok 3 1 [(sv v320)], .tok 23 1 [(sv v321)], .tok 99 1 [(sv v322)]] rfl (Inc.cons Mb0 (Inc.cons Mb1 (Inc.cons Mb2 (Inc.cons Mb4 (Inc.cons Mb5 (Inc.cons Mb6 Inc.nil))))))<|Awq 0 rfl (by kernel_rfl) rfl rfl rfl (Qt_move rfl)<|Awq 1 rfl (by kernel_rfl) rfl rfl rfl (Qt_move rfl)<|Awq 2 rfl (by kernel_rfl) rfl rfl rfl (Qt_move rfl)<|Awq 3 rfl (by kernel_rfl) rfl rfl rfl (Qt_move rfl)<|Awq 4 rfl (by kernel_rfl) rfl rfl rfl (Qt_loadA (m := 5) (cs := (Result.cells (Result.mk i675 i676 i677 t678 i679))) rfl rfl rfl rfl ⟨rfl, Rdc.blk Mb0 rfl⟩)<|Awq 5 rfl (by kernel_rfl) rfl rfl rfl (Qt_loadA (m := 5) (cs := (Result.cells (Result.mk i680 i681 i682 t683 i684))) rfl rfl rfl rfl ⟨rfl, Rdc.blk Mb1 rfl⟩)<|?_
         obtain ⟨r721, hq722, hr723⟩ := RowR.at hR363 hx708
         obtain rfl := hr723
         refine Aw_one 6 (by kernel_rfl) (Ax_mk rfl rfl (OpW_of_Qt rfl rfl (Q_ixR (T := TyEvent) Mb3 hR363 hq722 (getI_ix hx708).1 rfl rfl rfl rfl rfl) ⟨(Inc.cons Mb0 (Inc.cons Mb1 (Inc.cons Mb2 (Inc.cons Mb4 (Inc.cons Mb5 (Inc.cons Mb6 Inc.nil)))))), ?_⟩))
         refine Awq 7 rfl (by kernel_rfl) rfl rfl rfl (Qt_fieldAddr (m := 3) rfl rfl rfl rfl rfl) ?_
         refine Aw_one 8 (by kernel_rfl) (Ax_mk rfl rfl ?_)
         refine O_storeR (T := TyEvent) (vs := (Result.cells (Result.mk i675 i676 i677 t678 i679))) (r' := (Event.cells (Event.mk x707.thread x707.op x707.ret (Result.mk i675 i676 i677 t678 i679)))) (l' := (setI x359 x364 (Event.mk x707.thread x707.op x707.ret (Result.mk i675 i676 i677 t678 i679)))) rfl rfl rfl rfl rfl (.there (.there (.there .here))) hR363 hq722 rfl rfl rfl (RowR.set x364 hR363 rfl) (fun hR724 => ⟨(Inc.cons Mb0 (Inc.cons Mb1 (Inc.cons Mb2 (Inc.cons Mb4 (Inc.cons Mb5 (Inc.cons Mb6 Inc.nil)))))), ?_⟩)
         have hE725 := set_at hq722 (v := (Event.cells (Event.mk x707.thread x707.op x707.ret (Result.mk i675 i676 i677 t678 i679))))
         obtain ⟨r726, hq727, hr728⟩ := RowR.at hR724 hx715
         obtain rfl := hr728
         refine Aw_one 9 (by kernel_rfl) (Ax_mk rfl rfl (OpW_of_Qt rfl rfl (Q_ixR (T := TyEvent) Mb3 hR724 hq727 (getI_ix hx715).1 rfl rfl rfl rfl rfl) ⟨(Inc.cons Mb0 (Inc.cons Mb1 (Inc.cons Mb2 (Inc.cons Mb4 (Inc.cons Mb5 (Inc.cons Mb6 Inc.nil)))))), ?_⟩))
         refine Awq 10 rfl (by kernel_rfl) rfl rfl rfl (Qt_fieldAddr (m := 3) rfl rfl rfl rfl rfl) ?_
         refine Aw_one 11 (by kernel_rfl) (Ax_mk rfl rfl ?_)
         refine O_storeR (T := TyEvent) (vs := (Result.cells (Result.mk i680 i681 i682 t683 i684))) (r' := (Event.cells (Event.mk x714.thread x714.op x714.ret (Result.mk i680 i681 i682 t683 i684)))) (l' := (setI (setI x359 x364 (Event.mk x707.thread x707.op x707.ret (Result.mk i675 i676 i677 t678 i679))) x366 (Event.mk x714.thread x714.op x714.ret (Result.mk i680 i681 i682 t683 i684)))) rfl rfl rfl rfl rfl (.there (.there (.there .here))) hR724 hq727 rfl rfl rfl (RowR.set x366 hR724 rfl) (fun hR729 => ⟨(Inc.cons Mb0 (Inc.cons Mb1 (Inc.cons Mb2 (Inc.cons Mb4 (Inc.cons Mb5 (Inc.cons Mb6 Inc.nil)))))), ?_⟩)
         have hE730 := set_at hq727 (v := (Event.cells (Event.mk x714.thread x714.op x714.ret (Result.mk i680 i681 i682 t683 i684))))
         refine Aw_done (by kernel_rfl)<|Pu6<|Pu6<|Pu6<|Pu6<|Pu6<|Re5<|Re5<|Shift.done<|?_
         exact ⟨_, by exact ⟨rfl, rfl, rfl, trivial⟩, v361, (setI (setI x359 x364 (Event.mk x707.thread x707.op x707.ret (Result.mk i675 i676 i677 t678 i679))) x366 (Event.mk x714.thread x714.op x714.ret (Result.mk i680 i681 i682 t683 i684))), ((rs362.set x364.toNat (Event.cells (Event.mk x707.thread x707.op x707.ret (Result.mk i675 i676 i677 t678 i679)))).set x366.toNat (Event.cells (Event.mk x714.thread x714.op x714.ret (Result.mk i680 i681 i682 t683 i684)))), rfl, rfl, H, hR729⟩
        ·intro h650
         have H := iff_ (btf h650) H
         refine Cw_skip<|Pu4<|Pu4<|Pu4<|Pu4<|Pu4<|Shift.done<|?_
         exact ⟨_, by exact ⟨rfl, rfl, rfl, trivial⟩, v361, x359, rs362, rfl, rfl, H, hR363⟩
       ·intro h626
        have h626 := dcd_f (h626)
        have H := iff_ h626 H
        refine Cw_seq<|Cw_region<|Ow_q rfl rfl rfl (Qt_cmp rfl rfl rfl)<|Ow_q rfl rfl rfl (Qt_assign rfl)<|Ow_nil<|?_
        refine Cw_cond rfl ?_ ?_
        ·intro h731
         have h731 := dcd_t (h731)
         have H := ift h731 H
         refine Cw_seq<|Cw_region<|Ow_q rfl rfl rfl (Qt_move rfl)<|Ow_q rfl rfl rfl (Qt_move rfl)<|?_
         obtain ⟨x732, hx733, H⟩ := bnd H
         obtain ⟨r734, hq735, hr736⟩ := RowR.at hR363 hx733
         obtain rfl := hr736
         refine Ow_q rfl rfl rfl (Q_ixR (T := TyEvent) Mb0 hR363 hq735 (getI_ix hx733).1 rfl rfl rfl rfl rfl)<|Ow_q rfl rfl rfl (Qt_fieldAddr (m := 2) rfl rfl rfl rfl rfl)<|Ow_q rfl rfl rfl (Qt_load1 (v := (.bool x732.ret)) rfl rfl rfl (Rd_row (T := TyEvent) Mb0 hR363 hq735 rfl rfl))<|Ow_nil<|?_
         refine Cw_cond rfl ?_ ?_
         ·intro h737
          have H := ift h737 H
          refine Cw_region<|Ow_q rfl rfl rfl (Qt_move rfl)<|Ow_q rfl rfl rfl (Qt_move rfl)<|Ow_q rfl rfl rfl (Qt_move rfl)<|Ow_q rfl rfl rfl (Qt_conv (c := wI p4) rfl rfl rfl rfl)<|Ow_q rfl rfl rfl (Qt_rem rfl rfl (by decide))<|Ow_q rfl rfl rfl (Qt_arith (e := wI (1 + (Int.tmod (wI p4) 7))) rfl rfl rfl rfl)<|?_
          obtain ⟨x738, hx739, H⟩ := bnd H
          obtain ⟨r740, hq741, hr742⟩ := RowR.at hR363 hx739
          obtain rfl := hr742
          refine Ow_q rfl rfl rfl (Q_ixR (T := TyEvent) Mb0 hR363 hq741 (getI_ix hx739).1 rfl rfl rfl rfl rfl)<|Ow_q rfl rfl rfl (Qt_fieldAddr (m := 3) rfl rfl rfl rfl rfl)<|Ow_q rfl rfl rfl (Qt_fieldAddr (m := 3) rfl rfl rfl rfl rfl)<|?_
          refine Ow_cons rfl (O_storeR (T := TyEvent) (vs := [(.int .i64 (wI (1 + (Int.tmod (wI p4) 7))))]) (r' := (Event.cells (Event.mk x738.thread x738.op x738.ret (Result.mk (wI (1 + (Int.tmod (wI p4) 7))) x738.result.case_ x738.result.value x738.result.ok x738.result.number)))) (l' := (setI x359 x364 (Event.mk x738.thread x738.op x738.ret (Result.mk (wI (1 + (Int.tmod (wI p4) 7))) x738.result.case_ x738.result.value x738.result.ok x738.result.number)))) rfl rfl rfl rfl rfl .here hR363 hq741 rfl rfl rfl (RowR.set x364 hR363 rfl) (fun hR743 => ?_))
          have hE744 := set_at hq741 (v := (Event.cells (Event.mk x738.thread x738.op x738.ret (Result.mk (wI (1 + (Int.tmod (wI p4) 7))) x738.result.case_ x738.result.value x738.result.ok x738.result.number))))
          refine Ow_nil<|Pu4<|Pu4<|Pu4<|Pu3<|Pu4<|Re5<|Shift.done<|?_
          exact ⟨_, by exact ⟨rfl, rfl, rfl, trivial⟩, v361, (setI x359 x364 (Event.mk x738.thread x738.op x738.ret (Result.mk (wI (1 + (Int.tmod (wI p4) 7))) x738.result.case_ x738.result.value x738.result.ok x738.result.number))), (rs362.set x364.toNat (Event.cells (Event.mk x738.thread x738.op x738.ret (Result.mk (wI (1 + (Int.tmod (wI p4) 7))) x738.result.case_ x738.result.value x738.result.ok x738.result.number)))), rfl, rfl, H, hR743⟩
         ·intro h737
          have H := iff_ (btf h737) H
          refine Cw_skip<|Pu4<|Pu4<|Pu4<|Pu3<|Pu4<|Re5<|Shift.done<|?_
          exact ⟨_, by exact ⟨rfl, rfl, rfl, trivial⟩, v361, x359, rs362, rfl, rfl, H, hR363⟩
        ·intro h731
         have h731 := dcd_f (h731)
         have H := iff_ h731 H
         refine Cw_seq<|Cw_region<|Ow_q rfl rfl rfl (Qt_cmp rfl rfl rfl)<|Ow_q rfl rfl rfl (Qt_assign rfl)<|Ow_nil<|?_
         refine Cw_cond rfl ?_ ?_
         ·intro h745
          have h745 := dcd_t (h745)
          have H := ift h745 H
          refine Cw_seq<|Cw_region<|Ow_q rfl rfl rfl (Qt_assign rfl)<|Ow_q rfl rfl rfl (Qt_assign rfl)<|Ow_nil<|?_
          refine Cw_join (fun env' K' G' => ∃ (v832 : SV) (l833 : List Event) (rs835 : List (List Value)) (v836 : SV) (l837 : List Event) (rs839 : List (List Value)), [(11, (.pointer (some ((⟨b331, 0, none⟩ : Addr).add 0)))), (12, (sv v322)), (19, (sv v832)), (20, (sv v836))] = env' ∧ (.blk b331 34 (Config.cells x315 v320 v321)) :: (.row (sv v832) 65 8 rs835.flatten) :: (.row (sv v836) 65 8 rs839.flatten) :: (.tok 3 1 [(sv v320)]) :: (.tok 23 1 [(sv v321)]) :: (.tok 99 1 [(sv v322)]) :: G = G' ∧ M_183z x316 x315 l833 l837 = some y0 ∧ RowR TyEvent K' rs835 l833 ∧ RowR TyEvent K' rs839 l837) ?_ ?_
          ·skip
           refine Cw_seq<|Cw_region<|Ow_q rfl rfl rfl (Qt_move rfl)<|Ow_q rfl rfl rfl (Q_len (T := TyEvent) hs356 rfl rfl)<|Ow_q rfl rfl rfl (Qt_move rfl)<|Ow_nil<|Cw_block<|?_
           refine Cw_loopM (fun n926 env' K' G' => ∃ (v917 : SV) (l918 : List Event) (rs920 : List (List Value)) (v921 : SV) (l922 : List Event) (rs924 : List (List Value)) (i925 : Int), [(11, (.pointer (some ((⟨b331, 0, none⟩ : Addr).add 0)))), (12, (sv v322)), (13, (sv v324)), (15, (.int .i64 x364)), (19, (sv v917)), (20, (sv v921)), (137, (sv v324)), (138, (.int .i64 (x317.length : Int))), (139, (.int .i64 i925))] = env' ∧ K351 = K' ∧ (.blk b331 34 (Config.cells x315 v320 v321)) :: (.row (sv v917) 65 8 rs920.flatten) :: (.row (sv v921) 65 8 rs924.flatten) :: (.tok 3 1 [(sv v320)]) :: (.tok 23 1 [(sv v321)]) :: (.tok 99 1 [(sv v322)]) :: (.tok 65 8 [(sv v324)]) :: G = G' ∧ lp3 (M_184z x316 x317 x364 x315) n926 l918 l922 i925 = some y0 ∧ RowR TyEvent K' rs920 l918 ∧ RowR TyEvent K' rs924 l922) BIG ?_ ?_
           ·skip
            have hR927 : RowR TyEvent K351 [] [] := RowR.nil
            refine Shift.nilRow 65 8 ?_
            have hR928 : RowR TyEvent K351 [] [] := RowR.nil
            refine Shift.nilRow 65 8<|Pu7<|Pu7<|Pu7<|Pu7<|Pu4<|Pu5<|Pu7<|Re7<|Shift.done<|?_
            exact ⟨_, by exact ⟨rfl, rfl, rfl, rfl, rfl, rfl, rfl, rfl, rfl, trivial⟩, nilS, ([] : List Event), ([] : List (List Value)), nilS, ([] : List Event), ([] : List (List Value)), 0, rfl, rfl, rfl, H, hR927, hR927⟩
           rintro n926 _ _ _ - ⟨v917, l918, rs920, v921, l922, rs924, i925, rfl, rfl, rfl, H, hR919, hR923⟩
           obtain ⟨m929, k930, rfl, hkk931, H⟩ := lps3 H
           unfold M_184z at H
           refine Cw_seq<|Cw_region<|Ow_q rfl rfl rfl (Qt_cmp rfl rfl rfl)<|Ow_nil<|Cw_seq<|?_
           refine Cw_cond rfl ?_ ?_
           ·intro h933
            have h933 := dcd_t (h933)
            have H := ift h933 H
            refine Cw_skip<|Cw_seq<|Cw_block<|Cw_seq<|Cw_region<|?_
            obtain ⟨x963, hx964, H⟩ := bnd H
            obtain ⟨r965, hr966, hk967⟩ := Slr.at hs356 hx964
            obtain rfl := hr966
            refine Ow_q rfl rfl rfl (Q_ix (T := TyEvent) hs356 hx964 rfl rfl rfl rfl rfl)<|Ow_q rfl rfl rfl (Qt_loadA (m := 8) (cs := (Event.cells x963)) rfl rfl rfl rfl ⟨rfl, Rdc.k hk967 rfl⟩)<|?_
            refine Ow_cons rfl (OpW_alloc (cs := (Event.cells (Event.mk 0 0 false (Result.mk 0 0 0 false 0)))) rfl rfl rfl rfl (fun b968 => ?_))
            refine Ow_cons rfl (OpW_store (vs := (Event.cells x963)) (all' := (Event.cells x963)) rfl rfl rfl rfl rfl .here rfl rfl rfl ?_)
            refine Ow_nil<|Cw_seq<|?_
            obtain ⟨x969, hx970, H⟩ := bnd H
            refine Cw_region_any [.blk b968 65 (Event.cells x963), .blk b331 34 (Config.cells x315 v320 v321), .row (sv v917) 65 8 rs920.flatten, .row (sv v921) 65 8 rs924.flatten, .tok 3 1 [(sv v320)], .tok 23 1 [(sv v321)], .tok 99 1 [(sv v322)], .tok 65 8 [(sv v324)]] rfl (Inc.cons Mb0 (Inc.cons Mb1 (Inc.cons Mb2 (Inc.cons Mb3 (Inc.cons Mb4 (Inc.cons Mb5 (Inc.cons Mb6 (Inc.cons Mb7 Inc.nil))))))))<|Awq 0 rfl (by kernel_rfl) rfl rfl rfl (Qt_fieldAddr (m := 0) rfl rfl rfl rfl rfl)<|Awq 1 rfl (by kernel_rfl) rfl rfl rfl (Qt_load1 (v := (.int .i64 x963.thread)) rfl rfl rfl (Rdc.blk Mb0 rfl))<|Awq 2 rfl (by kernel_rfl) rfl rfl rfl (Qt_move rfl)<|Awq 3 rfl (by kernel_rfl) rfl rfl rfl (Qt_move rfl)<|?_
            obtain ⟨r974, hr975, hk976⟩ := Slr.at hs356 hx970
            obtain rfl := hr975
            refine Awq 4 rfl (by kernel_rfl) rfl rfl rfl (Q_ix (T := TyEvent) hs356 hx970 rfl rfl rfl rfl rfl)<|Awq 5 rfl (by kernel_rfl) rfl rfl rfl (Qt_fieldAddr (m := 0) rfl rfl rfl rfl rfl)<|Awq 6 rfl (by kernel_rfl) rfl rfl rfl (Qt_load1 (v := (.int .i64 x969.thread)) rfl rfl rfl (Rdc.k hk976 rfl))<|Awq 7 rfl (by kernel_rfl) rfl rfl rfl (Qt_cmp rfl rfl rfl)<|Aw_done (by kernel_rfl)<|?_
            refine Cw_cond rfl ?_ ?_
            ·intro h977
             have h977 := dcd_t (h977)
             have H := ift h977 H
             refine Cw_region<|Ow_q rfl rfl rfl (Qt_move rfl)<|Ow_q rfl rfl rfl (Qt_loadA (m := 8) (cs := (Event.cells x963)) rfl rfl rfl rfl ⟨rfl, Rdc.blk Mb0 rfl⟩)<|?_
             have hR979 : RowR TyEvent K351 [(Event.cells x963)] [x963] := RowR.cons rfl (RowR.nil)
             refine Ow_cons rfl (O_lit (T := TyEvent) (rows := [(Event.cells x963)]) (l := [x963]) rfl rfl rfl hR979 rfl rfl rfl rfl rfl rfl rfl rfl (fun v978 => ?_))
             obtain ⟨x980, hx981, H⟩ := bnd H
             refine Ow_cons rfl (O_appRow (T := TyEvent) (bytes := 64) rfl rfl rfl Mb3 hR919 (SrcT.row Mb0 hR979 rfl) hx981 rfl rfl rfl rfl rfl rfl rfl rfl (fun v982 rs983 hR984 => ⟨_, (.there (.there (.there .here))), ?_⟩))
             refine Ow.shift (Re0 (Shift.done ?_))
             refine Ow_q rfl rfl rfl (Qt_assign rfl)<|Ow_nil<|Cw_region<|Ow_q rfl rfl rfl (Qt_arith (e := wI (i925 + 1)) rfl rfl rfl rfl)<|Ow_q rfl rfl rfl (Qt_move rfl)<|Ow_nil<|Pu7<|Pu7<|Pu7<|Pu7<|?_
             refine Pu7<|Pu7<|Pu7<|Re7<|Shift.done<|?_
             exact ⟨_, by exact ⟨rfl, rfl, rfl, rfl, rfl, rfl, rfl, rfl, rfl, trivial⟩, _, Nat.lt_succ_self _, v982, x980, rs983, v921, l922, rs924, (wI (i925 + 1)), rfl, rfl, rfl, (hkk931 ▸ H), hR984, hR923⟩
            ·intro h977
             have h977 := dcd_f (h977)
             have H := iff_ h977 H
             refine Cw_region<|Ow_q rfl rfl rfl (Qt_move rfl)<|Ow_q rfl rfl rfl (Qt_loadA (m := 8) (cs := (Event.cells x963)) rfl rfl rfl rfl ⟨rfl, Rdc.blk Mb0 rfl⟩)<|?_
             have hR986 : RowR TyEvent K351 [(Event.cells x963)] [x963] := RowR.cons rfl (RowR.nil)
             refine Ow_cons rfl (O_lit (T := TyEvent) (rows := [(Event.cells x963)]) (l := [x963]) rfl rfl rfl hR986 rfl rfl rfl rfl rfl rfl rfl rfl (fun v985 => ?_))
             obtain ⟨x987, hx988, H⟩ := bnd H
             refine Ow_cons rfl (O_appRow (T := TyEvent) (bytes := 64) rfl rfl rfl Mb4 hR923 (SrcT.row Mb0 hR986 rfl) hx988 rfl rfl rfl rfl rfl rfl rfl rfl (fun v989 rs990 hR991 => ⟨_, (.there (.there (.there (.there .here)))), ?_⟩))
             refine Ow.shift (Re0 (Shift.done ?_))
             refine Ow_q rfl rfl rfl (Qt_assign rfl)<|Ow_nil<|Cw_region<|Ow_q rfl rfl rfl (Qt_arith (e := wI (i925 + 1)) rfl rfl rfl rfl)<|Ow_q rfl rfl rfl (Qt_move rfl)<|Ow_nil<|Pu7<|Pu7<|Pu7<|Pu7<|?_
             refine Pu7<|Pu7<|Pu7<|Re7<|Shift.done<|?_
             exact ⟨_, by exact ⟨rfl, rfl, rfl, rfl, rfl, rfl, rfl, rfl, rfl, trivial⟩, _, Nat.lt_succ_self _, v917, l918, rs920, v989, x987, rs990, (wI (i925 + 1)), rfl, rfl, rfl, (hkk931 ▸ H), hR919, hR991⟩
           ·intro h933
            have h933 := dcd_f (h933)
            have H := iff_ h933 H
            refine Cw_exit<|Pu5<|Pu5<|Pu5<|Pu5<|Pu5<|Pu5<|Re6<|Shift.done<|?_
            exact ⟨_, by exact ⟨rfl, rfl, rfl, rfl, trivial⟩, v917, l918, rs920, v921, l922, rs924, rfl, rfl, H, hR919, hR923⟩
          rintro _ K992 _ hK993 ⟨v832, l833, rs835, v836, l837, rs839, rfl, rfl, H, hR834, hR838⟩
          unfold M_183z at H
          refine Cw_region<|Ow_q rfl rfl rfl (Qt_move rfl)<|Ow_q rfl rfl rfl (Qt_move rfl)<|?_
          obtain ⟨x994, hx995, H⟩ := bnd H
          refine Ow_cons rfl (O_appRow (T := TyEvent) (bytes := 64) rfl rfl rfl Mb1 hR834 (SrcT.row Mb2 hR838 rfl) hx995 rfl rfl rfl rfl rfl rfl rfl rfl (fun v996 rs997 hR998 => ⟨_, (.there .here), ?_⟩))
          refine Ow.shift (Re2 (Shift.done ?_))
          refine Ow_q rfl rfl rfl (Qt_assign rfl)<|Ow_nil<|Pu4<|Pu4<|Pu4<|Pu4<|Pu4<|Shift.done<|?_
          exact ⟨_, by exact ⟨rfl, rfl, rfl, trivial⟩, v996, x994, rs997, rfl, rfl, H, hR998⟩
         ·intro h745
          have h745 := dcd_f (h745)
          have H := iff_ h745 H
          refine Cw_skip<|Pu4<|Pu4<|Pu4<|Pu3<|Pu4<|Re5<|Shift.done<|?_
          exact ⟨_, by exact ⟨rfl, rfl, rfl, trivial⟩, v361, x359, rs362, rfl, rfl, H, hR363⟩
    rintro _ K999 _ hK1000 ⟨v589, l590, rs592, rfl, rfl, H, hR591⟩
    unfold M_1z at H
    refine Cw_seq ?_
    obtain ⟨x1036, hx1037, H⟩ := bnd H
    obtain ⟨x1043, hx1044, H⟩ := bnd H
    refine Cw_region_any [.blk b331 34 (Config.cells x315 v320 v321), .tok 3 1 [(sv v320)], .tok 23 1 [(sv v321)], .tok 99 1 [(sv v322)]] rfl (Inc.cons Mb0 (Inc.cons Mb2 (Inc.cons Mb3 (Inc.cons Mb4 Inc.nil))))<|Awq 0 rfl (by kernel_rfl) rfl rfl rfl (Qt_loadA (m := 3) (cs := (Config.cells x315 v320 v321)) rfl rfl rfl rfl ⟨rfl, Rdc.blk Mb0 rfl⟩)<|Awq 1 rfl (by kernel_rfl) rfl rfl rfl (Qt_move rfl)<|Awq 2 rfl (by kernel_rfl) rfl rfl rfl (Qt_move rfl)<|Awq 4 rfl (by kernel_rfl) rfl rfl rfl (Qt_loadA (m := 3) (cs := (Config.cells x315 v320 v321)) rfl rfl rfl rfl ⟨rfl, Rdc.blk Mb0 rfl⟩)<|Awq 5 rfl (by kernel_rfl) rfl rfl rfl (Qt_move rfl)<|Awq 6 rfl (by kernel_rfl) rfl rfl rfl (Qt_move rfl)<|?_
    refine Aw_one 3 (by kernel_rfl) (Ax_mk rfl rfl ?_)
    refine OpW.shift (Shift.settle (T := TyEvent) (.there .here) hR591 rfl (fun K1051 hK1052 hs1053 => Shift.done ?_))
    have hs1054 := (((hs348).mono hK352).mono hK1000).mono hK1052
    have hs1055 := (((hs349).mono hK352).mono hK1000).mono hK1052
    have hs1056 := (((hs345).mono hK352).mono hK1000).mono hK1052
    refine OpW_call rfl Try.call31 rfl rfl (c_M_2z x315 v320 v321 x316 v322 l590 v589 x1036 hx1037 _ _ hs1054 hs1055 hs1056 hs1053) ?_
    rintro _ K1057 _ hK1058 ⟨rfl, rfl⟩
    refine ⟨(Inc.cons Mb0 (Inc.cons Mb2 (Inc.cons Mb3 (Inc.cons Mb4 Inc.nil)))), ?_⟩
    refine Aw_one 7 (by kernel_rfl) (Ax_mk rfl rfl ?_)
    have hs1059 := (hs1054).mono hK1058
    have hs1060 := (hs1055).mono hK1058
    have hs1061 := (hs1056).mono hK1058
    have hs1062 := (hs1053).mono hK1058
    refine OpW_call rfl Try.call33 rfl rfl (c_M_141z x315 v320 v321 x316 v322 l590 v589 x1043 hx1044 _ _ hs1059 hs1060 hs1061 hs1062) ?_
    rintro _ K1063 _ hK1064 ⟨rfl, rfl⟩
    refine ⟨(Inc.cons Mb0 (Inc.cons Mb2 (Inc.cons Mb3 (Inc.cons Mb4 Inc.nil)))), ?_⟩
    refine Awq 8 rfl (by kernel_rfl) rfl rfl rfl (Qt_eqB rfl rfl rfl)<|Awq 9 rfl (by kernel_rfl) rfl rfl rfl (Qt_assign rfl)<|Aw_done (by kernel_rfl)<|Cw_ret<|?_
    obtain ey0 := inj1 H
    subst y0
    refine ⟨(by first | exact .inl rfl | exact .inr rfl), [(.bool (x1036 == x1043))], ⟨(.bool (x1036 == x1043)), _, rfl, rfl, rfl⟩, ?_⟩
    refine Re0<|Re0<|Re0<|Re0<|Re0<|Shift.done<|?_
    exact ⟨rfl, rfl⟩



end Go.Hx
