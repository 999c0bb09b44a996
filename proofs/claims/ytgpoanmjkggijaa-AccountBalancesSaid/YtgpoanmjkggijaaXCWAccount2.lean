/- Printed by program. -/
import Derived.Test.YtgpoanmjkggijaaXCM
import Derived.Test.YtgpoanmjkggijaaXCWAccount
import Derived.Test.YtgpoanmjkggijaaXCWAccount1
namespace Go.Hx
open Go Go.Proofs
set_option linter.unusedSimpArgs false
set_option linter.unusedVariables false
set_option maxRecDepth 10000
set_option maxHeartbeats 1000000 in
theorem c_M_181z (p0 : List (List Op)) (vp0 : SV) (p1 : List Event) (vp1 : SV) (p2 : Int) (bc3_0 : Nat) (c3_0 : Bool) (bc3_1 : Nat) (c3_1 : List Event) (vc3_1 : SV) (bc3_2 : Nat) (c3_2 : Int) (bc3_3 : Nat) (c3_3 : Int) (bc3_4 : Nat) (qc3_4 : Int → Option Int) (bqc3_4 : Nat) (esqc3_4 : Array MapEntry) (ckqc3_4 : Nat) (bc3_5 : Nat) (c3_5 : List Account_offer) (vc3_5 : SV) (z0_v : Bool) (z2_v : Int) (z3_v : Int) (ubqc3_4 : Int → Option Int) (H : M_181z p0 p1 p2 c3_0 c3_1 c3_2 c3_3 qc3_4 c3_5 = some (z0_v, z2_v, z3_v, ubqc3_4)) (K : Kp) (G : List Ent) (hp0 : Slr (Ty.sl TyOp) K (sv vp0) p0) (hp1 : Slr TyEvent K (sv vp1) p1) (hc3_1 : Slr TyEvent K (sv vc3_1) c3_1) (hqc3_4 : MapR Ty.i64 (Value.int .u64) K esqc3_4 qc3_4) (hc3_5 : Slr TyAccount_offer K (sv vc3_5) c3_5) :
  Fc Try.prog 81 #[(sv vp0), (sv vp1), (.int .i64 p2), (.func (.func 107) #[] #[(.pointer (some ((⟨bc3_0, 0, none⟩ : Addr).add 0))), (.pointer (some ((⟨bc3_1, 0, none⟩ : Addr).add 0))), (.pointer (some ((⟨bc3_2, 0, none⟩ : Addr).add 0))), (.pointer (some ((⟨bc3_3, 0, none⟩ : Addr).add 0))), (.pointer (some ((⟨bc3_4, 0, none⟩ : Addr).add 0))), (.pointer (some ((⟨bc3_5, 0, none⟩ : Addr).add 0)))])] K ((.blk bc3_0 4 [(.bool c3_0)]) :: (.blk bc3_1 59 [(sv vc3_1)]) :: (.blk bc3_2 3 [(.int .i64 c3_2)]) :: (.blk bc3_3 3 [(.int .i64 c3_3)]) :: (.blk bc3_4 141 [(.map (some bqc3_4))]) :: (.obj bqc3_4 (.map esqc3_4 ckqc3_4)) :: (.blk bc3_5 139 [(sv vc3_5)]) :: G) (fun v K' G' => ∃ (esubqc3_4 : Array MapEntry) (ckubqc3_4 : Nat), v = (.tuple #[]) ∧ (.blk bc3_0 4 [(.bool z0_v)]) :: (.blk bc3_1 59 [(sv vc3_1)]) :: (.blk bc3_2 3 [(.int .i64 z2_v)]) :: (.blk bc3_3 3 [(.int .i64 z3_v)]) :: (.blk bc3_4 141 [(.map (some bqc3_4))]) :: (.blk bc3_5 139 [(sv vc3_5)]) :: (.obj bqc3_4 (.map esubqc3_4 ckubqc3_4)) :: G = G' ∧ MapR Ty.i64 (Value.int .u64) K' esubqc3_4 ubqc3_4) := by
 refine Fc_body Try.func81 rfl Try.ntmps81 Try.results81 rfl ?_
 unfold M_181z at H
 refine Cw_seq ?_
 refine Cw_region ?_
 refine Ow_q rfl rfl rfl (Qt_move rfl) ?_
 refine Ow_q rfl rfl rfl (Q_len (T := TyEvent) hp1 rfl rfl) ?_
 refine Ow_q rfl rfl rfl (Qt_move rfl) ?_
 refine Ow_nil ?_
 refine Cw_block ?_
 refine Cw_loopM (fun n283 env' K' G' => ∃ (i275 : Int) (es276 : Array MapEntry) (ck277 : Nat) (m278 : Int → Option Int) (i280 : Int) (i281 : Int) (t282 : Bool), [(0, (sv vp0)), (2, (.int .i64 p2)), (3, (.func (.func 107) #[] #[(.pointer (some ((⟨bc3_0, 0, none⟩ : Addr).add 0))), (.pointer (some ((⟨bc3_1, 0, none⟩ : Addr).add 0))), (.pointer (some ((⟨bc3_2, 0, none⟩ : Addr).add 0))), (.pointer (some ((⟨bc3_3, 0, none⟩ : Addr).add 0))), (.pointer (some ((⟨bc3_4, 0, none⟩ : Addr).add 0))), (.pointer (some ((⟨bc3_5, 0, none⟩ : Addr).add 0)))])), (14, (sv vp1)), (15, (.int .i64 (p1.length : Int))), (16, (.int .i64 i275))] = env' ∧ (.blk bc3_5 139 [(sv vc3_5)]) :: (.blk bc3_4 141 [(.map (some bqc3_4))]) :: (.blk bc3_3 3 [(.int .i64 i280)]) :: (.blk bc3_2 3 [(.int .i64 i281)]) :: (.blk bc3_1 59 [(sv vc3_1)]) :: (.blk bc3_0 4 [(.bool t282)]) :: (.obj bqc3_4 (.map es276 ck277)) :: G = G' ∧ lp5 (M_180z p0 p2 p1 c3_5 c3_1) n283 i275 m278 i280 i281 t282 = some (z0_v, z2_v, z3_v, ubqc3_4) ∧ MapR Ty.i64 (Value.int .u64) K' es276 m278) BIG ?_ ?_
 ·skip
  refine Shift.pull (.there (.there (.there (.there (.there .here))))) ?_
  refine Shift.pull (.there .here) ?_
  refine Shift.pull (.there (.there .here)) ?_
  refine Shift.pull (.there (.there (.there .here))) ?_
  refine Shift.pull (.there (.there (.there (.there .here)))) ?_
  refine Shift.pull (.there (.there (.there (.there (.there .here))))) ?_
  refine Shift.pull (.there (.there (.there (.there (.there (.there .here)))))) ?_
  refine Shift.done ?_
  exact ⟨[(0, (sv vp0)), (2, (.int .i64 p2)), (3, (.func (.func 107) #[] #[(.pointer (some ((⟨bc3_0, 0, none⟩ : Addr).add 0))), (.pointer (some ((⟨bc3_1, 0, none⟩ : Addr).add 0))), (.pointer (some ((⟨bc3_2, 0, none⟩ : Addr).add 0))), (.pointer (some ((⟨bc3_3, 0, none⟩ : Addr).add 0))), (.pointer (some ((⟨bc3_4, 0, none⟩ : Addr).add 0))), (.pointer (some ((⟨bc3_5, 0, none⟩ : Addr).add 0)))])), (14, (sv vp1)), (15, (.int .i64 (p1.length : Int))), (16, (.int .i64 0))], ⟨rfl, rfl, rfl, rfl, rfl, rfl, trivial⟩, 0, esqc3_4, ckqc3_4, qc3_4, c3_3, c3_2, c3_0, rfl, rfl, H, hqc3_4⟩
 rintro n283 _ K284 _ hK285 ⟨i275, es276, ck277, m278, i280, i281, t282, rfl, rfl, H, hM279⟩
 obtain ⟨m286, k287, rfl, hkk288, H⟩ := lps5 H
 unfold M_180z at H
 refine Cw_seq ?_
 refine Cw_region ?_
 refine Ow_q rfl rfl rfl (Qt_cmp rfl rfl rfl) ?_
 refine Ow_nil ?_
 refine Cw_seq ?_
 refine Cw_cond rfl ?_ ?_
 ·intro h290
  have h290 := dcd_t (h290)
  have H := ift h290 H
  refine Cw_skip ?_
  refine Cw_join (fun env' K' G' => ∃ (es332 : Array MapEntry) (ck333 : Nat) (m334 : Int → Option Int) (i336 : Int) (i337 : Int) (t338 : Bool), [(0, (sv vp0)), (2, (.int .i64 p2)), (3, (.func (.func 107) #[] #[(.pointer (some ((⟨bc3_0, 0, none⟩ : Addr).add 0))), (.pointer (some ((⟨bc3_1, 0, none⟩ : Addr).add 0))), (.pointer (some ((⟨bc3_2, 0, none⟩ : Addr).add 0))), (.pointer (some ((⟨bc3_3, 0, none⟩ : Addr).add 0))), (.pointer (some ((⟨bc3_4, 0, none⟩ : Addr).add 0))), (.pointer (some ((⟨bc3_5, 0, none⟩ : Addr).add 0)))])), (14, (sv vp1)), (15, (.int .i64 (p1.length : Int))), (16, (.int .i64 i275))] = env' ∧ (.blk bc3_5 139 [(sv vc3_5)]) :: (.blk bc3_4 141 [(.map (some bqc3_4))]) :: (.blk bc3_3 3 [(.int .i64 i336)]) :: (.blk bc3_2 3 [(.int .i64 i337)]) :: (.blk bc3_1 59 [(sv vc3_1)]) :: (.blk bc3_0 4 [(.bool t338)]) :: (.obj bqc3_4 (.map es332 ck333)) :: G = G' ∧ M_72z p0 p2 p1 i275 c3_5 c3_1 k287 m334 i336 i337 t338 = some (z0_v, z2_v, z3_v, ubqc3_4) ∧ MapR Ty.i64 (Value.int .u64) K' es332 m334) ?_ ?_
  ·skip
   refine Cw_block ?_
   refine Cw_seq ?_
   refine Cw_region ?_
   refine Ow_q rfl rfl rfl (Qt_move rfl) ?_
   obtain ⟨x339, hx340, H⟩ := bnd H
   have hs341 := (hp1).mono hK285
   obtain ⟨r342, hr343, hk344⟩ := Slr.at hs341 hx340
   obtain rfl := hr343
   refine Ow_q rfl rfl rfl (Q_ix (T := TyEvent) hs341 hx340 rfl rfl rfl rfl rfl) ?_
   refine Ow_q rfl rfl rfl (Qt_loadA (m := 8) (cs := (Event.cells x339)) rfl rfl rfl rfl ⟨rfl, Rdc.k hk344 rfl⟩) ?_
   refine Ow_cons rfl (OpW_alloc (cs := (Event.cells (Event.mk 0 0 false (Result.mk 0 0 0 false 0)))) rfl rfl rfl rfl (fun b345 => ?_))
   refine Ow_q rfl rfl rfl (Qt_assign rfl) ?_
   refine Ow_cons rfl (OpW_store (vs := (Event.cells x339)) (all' := (Event.cells x339)) rfl rfl rfl rfl rfl .here rfl rfl rfl ?_)
   refine Ow_nil ?_
   refine Cw_seq ?_
   refine Cw_region ?_
   refine Ow_q rfl rfl rfl (Qt_move rfl) ?_
   refine Ow_q rfl rfl rfl (Qt_loadA (m := 8) (cs := (Event.cells x339)) rfl rfl rfl rfl ⟨rfl, Rdc.blk (.head _) rfl⟩) ?_
   obtain ⟨x346, x347, hx348, H⟩ := bnd2 H
   have hs349 := (hp0).mono hK285
   refine Ow_cons rfl (OpW_call rfl Try.call111 rfl rfl (c_M_1z p0 vp0 x339 x346 x347 hx348 _ _ hs349) ?_)
   rintro _ _ _ - ⟨v350, v351, rfl, rfl, rfl, hs352, hs353⟩
   refine Ow_q rfl rfl rfl (Qt_move rfl) ?_
   refine Ow_q rfl rfl rfl (Qt_extract rfl rfl) ?_
   refine Ow_q rfl rfl rfl (Qt_extract rfl rfl) ?_
   refine Ow_cons rfl (OpW_alloc (cs := (Op.cells (Op.mk 0 0 0 0 0 [] []) nilS nilS)) rfl rfl rfl rfl (fun b354 => ?_))
   refine Ow_cons rfl (OpW_store (vs := (Op.cells x346 v350 v351)) (all' := (Op.cells x346 v350 v351)) rfl rfl rfl rfl rfl .here rfl rfl rfl ?_)
   refine Ow_q rfl rfl rfl (Qt_assign rfl) ?_
   refine Ow_nil ?_
   refine Cw_seq ?_
   refine Cw_join (fun env' K' G' => ∃ (t363 : Bool), [(0, (sv vp0)), (2, (.int .i64 p2)), (3, (.func (.func 107) #[] #[(.pointer (some ((⟨bc3_0, 0, none⟩ : Addr).add 0))), (.pointer (some ((⟨bc3_1, 0, none⟩ : Addr).add 0))), (.pointer (some ((⟨bc3_2, 0, none⟩ : Addr).add 0))), (.pointer (some ((⟨bc3_3, 0, none⟩ : Addr).add 0))), (.pointer (some ((⟨bc3_4, 0, none⟩ : Addr).add 0))), (.pointer (some ((⟨bc3_5, 0, none⟩ : Addr).add 0)))])), (8, (.int .i64 i275)), (9, (.pointer (some ((⟨b345, 0, none⟩ : Addr).add 0)))), (10, (.pointer (some ((⟨b354, 0, none⟩ : Addr).add 0)))), (14, (sv vp1)), (15, (.int .i64 (p1.length : Int))), (16, (.int .i64 i275)), (45, (.bool t363))] = env' ∧ K284 = K' ∧ (.blk bc3_5 139 [(sv vc3_5)]) :: (.blk bc3_4 141 [(.map (some bqc3_4))]) :: (.blk bc3_3 3 [(.int .i64 i280)]) :: (.blk bc3_2 3 [(.int .i64 i281)]) :: (.blk bc3_1 59 [(sv vc3_1)]) :: (.blk bc3_0 4 [(.bool t282)]) :: (.blk b354 38 (Op.cells x346 v350 v351)) :: (.blk b345 65 (Event.cells x339)) :: (.obj bqc3_4 (.map es276 ck277)) :: G = G' ∧ M_41z p0 p2 i275 p1 c3_5 i280 i281 c3_1 t282 x346 x339 m278 k287 t363 = some (z0_v, z2_v, z3_v, ubqc3_4)) ?_ ?_
   ·skip
    refine Cw_region ?_
    refine Ow_q rfl rfl rfl (Qt_move rfl) ?_
    refine Ow_q rfl rfl rfl (Qt_not rfl) ?_
    refine Ow_q rfl rfl rfl (Qt_move rfl) ?_
    refine Ow_caseG rfl rfl rfl ?_ ?_
    ·intro h364
     have h364 := nt_t (h364)
     have H := iff_ (btf h364) H
     refine Ow_pass rfl rfl rfl rfl rfl rfl rfl ?_
     refine Ow_pass rfl rfl rfl rfl rfl rfl rfl ?_
     refine Ow_pass rfl rfl rfl rfl rfl rfl rfl ?_
     refine Ow_q rfl rfl rfl (Qt_pick_t rfl rfl) ?_
     refine Ow_q rfl rfl rfl (Qt_move rfl) ?_
     refine Ow_pass rfl rfl rfl rfl rfl rfl rfl ?_
     refine Ow_pass rfl rfl rfl rfl rfl rfl rfl ?_
     refine Ow_pass rfl rfl rfl rfl rfl rfl rfl ?_
     refine Ow_pass rfl rfl rfl rfl rfl rfl rfl ?_
     refine Ow_pass rfl rfl rfl rfl rfl rfl rfl ?_
     refine Ow_passU rfl rfl rfl rfl rfl ?_
     refine Ow_passU rfl rfl rfl rfl rfl ?_
     refine Ow_passU rfl rfl rfl rfl rfl ?_
     refine Ow_passU rfl rfl rfl rfl rfl ?_
     refine Ow_pass rfl rfl rfl rfl rfl rfl rfl ?_
     refine Ow_q rfl rfl rfl (Qt_pick_t rfl rfl) ?_
     refine Ow_nil ?_
     refine Shift.pull (.there (.there (.there (.there (.there (.there (.there (.there .here)))))))) ?_
     refine Shift.pull (.there (.there .here)) ?_
     refine Shift.pull (.there (.there .here)) ?_
     refine Shift.pull (.there (.there (.there (.there (.there (.there (.there (.there .here)))))))) ?_
     refine Shift.pull (.there (.there (.there (.there (.there (.there (.there (.there .here)))))))) ?_
     refine Shift.pull (.there (.there (.there (.there (.there (.there (.there (.there .here)))))))) ?_
     refine Shift.pull (.there (.there (.there (.there (.there (.there (.there (.there .here)))))))) ?_
     refine Shift.pull (.there (.there (.there (.there (.there (.there (.there (.there .here)))))))) ?_
     refine Shift.pull (.there (.there (.there (.there (.there (.there (.there (.there .here)))))))) ?_
     refine Shift.done ?_
     exact ⟨[(0, (sv vp0)), (2, (.int .i64 p2)), (3, (.func (.func 107) #[] #[(.pointer (some ((⟨bc3_0, 0, none⟩ : Addr).add 0))), (.pointer (some ((⟨bc3_1, 0, none⟩ : Addr).add 0))), (.pointer (some ((⟨bc3_2, 0, none⟩ : Addr).add 0))), (.pointer (some ((⟨bc3_3, 0, none⟩ : Addr).add 0))), (.pointer (some ((⟨bc3_4, 0, none⟩ : Addr).add 0))), (.pointer (some ((⟨bc3_5, 0, none⟩ : Addr).add 0)))])), (8, (.int .i64 i275)), (9, (.pointer (some ((⟨b345, 0, none⟩ : Addr).add 0)))), (10, (.pointer (some ((⟨b354, 0, none⟩ : Addr).add 0)))), (14, (sv vp1)), (15, (.int .i64 (p1.length : Int))), (16, (.int .i64 i275)), (45, (.bool true))], ⟨rfl, rfl, rfl, rfl, rfl, rfl, rfl, rfl, rfl, rfl, trivial⟩, true, rfl, rfl, rfl, H⟩
    ·intro h364
     have h364 := nt_f (h364)
     have H := ift h364 H
     refine Ow_qw rfl rfl rfl rfl rfl rfl (Qt_fieldAddr (m := 2) rfl rfl rfl rfl rfl) ?_
     refine Ow_qw rfl rfl rfl rfl rfl rfl (Qt_load1 (v := (.bool x339.ret)) rfl rfl rfl (Rdc.blk (.tail _ (.head _)) rfl)) ?_
     refine Ow_qw rfl rfl rfl rfl rfl rfl (Qt_not rfl) ?_
     refine Ow_q rfl rfl rfl (Qt_pick_f rfl rfl) ?_
     refine Ow_q rfl rfl rfl (Qt_move rfl) ?_
     refine Ow_caseG rfl rfl rfl ?_ ?_
     ·intro h365
      have h365 := nt_t (h365)
      have H := iff_ (btf h365) H
      refine Ow_pass rfl rfl rfl rfl rfl rfl rfl ?_
      refine Ow_pass rfl rfl rfl rfl rfl rfl rfl ?_
      refine Ow_pass rfl rfl rfl rfl rfl rfl rfl ?_
      refine Ow_pass rfl rfl rfl rfl rfl rfl rfl ?_
      refine Ow_pass rfl rfl rfl rfl rfl rfl rfl ?_
      refine Ow_passU rfl rfl rfl rfl rfl ?_
      refine Ow_passU rfl rfl rfl rfl rfl ?_
      refine Ow_passU rfl rfl rfl rfl rfl ?_
      refine Ow_passU rfl rfl rfl rfl rfl ?_
      refine Ow_pass rfl rfl rfl rfl rfl rfl rfl ?_
      refine Ow_q rfl rfl rfl (Qt_pick_t rfl rfl) ?_
      refine Ow_nil ?_
      refine Shift.pull (.there (.there (.there (.there (.there (.there (.there (.there .here)))))))) ?_
      refine Shift.pull (.there (.there .here)) ?_
      refine Shift.pull (.there (.there .here)) ?_
      refine Shift.pull (.there (.there (.there (.there (.there (.there (.there (.there .here)))))))) ?_
      refine Shift.pull (.there (.there (.there (.there (.there (.there (.there (.there .here)))))))) ?_
      refine Shift.pull (.there (.there (.there (.there (.there (.there (.there (.there .here)))))))) ?_
      refine Shift.pull (.there (.there (.there (.there (.there (.there (.there (.there .here)))))))) ?_
      refine Shift.pull (.there (.there (.there (.there (.there (.there (.there (.there .here)))))))) ?_
      refine Shift.pull (.there (.there (.there (.there (.there (.there (.there (.there .here)))))))) ?_
      refine Shift.done ?_
      exact ⟨[(0, (sv vp0)), (2, (.int .i64 p2)), (3, (.func (.func 107) #[] #[(.pointer (some ((⟨bc3_0, 0, none⟩ : Addr).add 0))), (.pointer (some ((⟨bc3_1, 0, none⟩ : Addr).add 0))), (.pointer (some ((⟨bc3_2, 0, none⟩ : Addr).add 0))), (.pointer (some ((⟨bc3_3, 0, none⟩ : Addr).add 0))), (.pointer (some ((⟨bc3_4, 0, none⟩ : Addr).add 0))), (.pointer (some ((⟨bc3_5, 0, none⟩ : Addr).add 0)))])), (8, (.int .i64 i275)), (9, (.pointer (some ((⟨b345, 0, none⟩ : Addr).add 0)))), (10, (.pointer (some ((⟨b354, 0, none⟩ : Addr).add 0)))), (14, (sv vp1)), (15, (.int .i64 (p1.length : Int))), (16, (.int .i64 i275)), (45, (.bool true))], ⟨rfl, rfl, rfl, rfl, rfl, rfl, rfl, rfl, rfl, rfl, trivial⟩, true, rfl, rfl, rfl, H⟩
     ·intro h365
      have h365 := nt_f (h365)
      have H := ift h365 H
      refine Ow_qw rfl rfl rfl rfl rfl rfl (Qt_fieldAddr (m := 3) rfl rfl rfl rfl rfl) ?_
      refine Ow_qw rfl rfl rfl rfl rfl rfl (Qt_fieldAddr (m := 3) rfl rfl rfl rfl rfl) ?_
      refine Ow_qw rfl rfl rfl rfl rfl rfl (Qt_load1 (v := (.int .i64 x339.result.kind)) rfl rfl rfl (Rdc.blk (.tail _ (.head _)) rfl)) ?_
      refine Ow_qw rfl rfl rfl rfl rfl rfl (Qt_cmp rfl rfl rfl) ?_
      refine Ow_qw rfl rfl rfl rfl rfl rfl (Qt_move rfl) ?_
      refine Ow_caseG rfl rfl rfl ?_ ?_
      ·intro h366
       have h366 := dcd_f (nt_t (h366))
       have H := iff_ h366 H
       refine Ow_qw rfl rfl rfl rfl rfl rfl (Qt_fieldAddr (m := 3) rfl rfl rfl rfl rfl) ?_
       refine Ow_qw rfl rfl rfl rfl rfl rfl (Qt_fieldAddr (m := 3) rfl rfl rfl rfl rfl) ?_
       refine Ow_qw rfl rfl rfl rfl rfl rfl (Qt_load1 (v := (.int .i64 x339.result.kind)) rfl rfl rfl (Rdc.blk (.tail _ (.head _)) rfl)) ?_
       refine Ow_qw rfl rfl rfl rfl rfl rfl (Qt_cmp rfl rfl rfl) ?_
       refine Ow_qw rfl rfl rfl rfl rfl rfl (Qt_pick_t rfl rfl) ?_
       refine Ow_q rfl rfl rfl (Qt_pick_f rfl rfl) ?_
       refine Ow_nil ?_
       refine Shift.pull (.there (.there (.there (.there (.there (.there (.there (.there .here)))))))) ?_
       refine Shift.pull (.there (.there .here)) ?_
       refine Shift.pull (.there (.there .here)) ?_
       refine Shift.pull (.there (.there (.there (.there (.there (.there (.there (.there .here)))))))) ?_
       refine Shift.pull (.there (.there (.there (.there (.there (.there (.there (.there .here)))))))) ?_
       refine Shift.pull (.there (.there (.there (.there (.there (.there (.there (.there .here)))))))) ?_
       refine Shift.pull (.there (.there (.there (.there (.there (.there (.there (.there .here)))))))) ?_
       refine Shift.pull (.there (.there (.there (.there (.there (.there (.there (.there .here)))))))) ?_
       refine Shift.pull (.there (.there (.there (.there (.there (.there (.there (.there .here)))))))) ?_
       refine Shift.done ?_
       exact ⟨[(0, (sv vp0)), (2, (.int .i64 p2)), (3, (.func (.func 107) #[] #[(.pointer (some ((⟨bc3_0, 0, none⟩ : Addr).add 0))), (.pointer (some ((⟨bc3_1, 0, none⟩ : Addr).add 0))), (.pointer (some ((⟨bc3_2, 0, none⟩ : Addr).add 0))), (.pointer (some ((⟨bc3_3, 0, none⟩ : Addr).add 0))), (.pointer (some ((⟨bc3_4, 0, none⟩ : Addr).add 0))), (.pointer (some ((⟨bc3_5, 0, none⟩ : Addr).add 0)))])), (8, (.int .i64 i275)), (9, (.pointer (some ((⟨b345, 0, none⟩ : Addr).add 0)))), (10, (.pointer (some ((⟨b354, 0, none⟩ : Addr).add 0)))), (14, (sv vp1)), (15, (.int .i64 (p1.length : Int))), (16, (.int .i64 i275)), (45, (.bool (!(dcd (x339.result.kind = 2)))))], ⟨rfl, rfl, rfl, rfl, rfl, rfl, rfl, rfl, rfl, rfl, trivial⟩, (!(dcd (x339.result.kind = 2))), rfl, rfl, rfl, H⟩
      ·intro h366
       have h366 := dcd_t (nt_f (h366))
       have H := ift h366 H
       refine Ow_pass rfl rfl rfl rfl rfl rfl rfl ?_
       refine Ow_pass rfl rfl rfl rfl rfl rfl rfl ?_
       refine Ow_pass rfl rfl rfl rfl rfl rfl rfl ?_
       refine Ow_pass rfl rfl rfl rfl rfl rfl rfl ?_
       refine Ow_qw rfl rfl rfl rfl rfl rfl (Qt_pick_f rfl rfl) ?_
       refine Ow_q rfl rfl rfl (Qt_pick_f rfl rfl) ?_
       refine Ow_nil ?_
       refine Shift.pull (.there (.there (.there (.there (.there (.there (.there (.there .here)))))))) ?_
       refine Shift.pull (.there (.there .here)) ?_
       refine Shift.pull (.there (.there .here)) ?_
       refine Shift.pull (.there (.there (.there (.there (.there (.there (.there (.there .here)))))))) ?_
       refine Shift.pull (.there (.there (.there (.there (.there (.there (.there (.there .here)))))))) ?_
       refine Shift.pull (.there (.there (.there (.there (.there (.there (.there (.there .here)))))))) ?_
       refine Shift.pull (.there (.there (.there (.there (.there (.there (.there (.there .here)))))))) ?_
       refine Shift.pull (.there (.there (.there (.there (.there (.there (.there (.there .here)))))))) ?_
       refine Shift.pull (.there (.there (.there (.there (.there (.there (.there (.there .here)))))))) ?_
       refine Shift.done ?_
       exact ⟨[(0, (sv vp0)), (2, (.int .i64 p2)), (3, (.func (.func 107) #[] #[(.pointer (some ((⟨bc3_0, 0, none⟩ : Addr).add 0))), (.pointer (some ((⟨bc3_1, 0, none⟩ : Addr).add 0))), (.pointer (some ((⟨bc3_2, 0, none⟩ : Addr).add 0))), (.pointer (some ((⟨bc3_3, 0, none⟩ : Addr).add 0))), (.pointer (some ((⟨bc3_4, 0, none⟩ : Addr).add 0))), (.pointer (some ((⟨bc3_5, 0, none⟩ : Addr).add 0)))])), (8, (.int .i64 i275)), (9, (.pointer (some ((⟨b345, 0, none⟩ : Addr).add 0)))), (10, (.pointer (some ((⟨b354, 0, none⟩ : Addr).add 0)))), (14, (sv vp1)), (15, (.int .i64 (p1.length : Int))), (16, (.int .i64 i275)), (45, (.bool false))], ⟨rfl, rfl, rfl, rfl, rfl, rfl, rfl, rfl, rfl, rfl, trivial⟩, false, rfl, rfl, rfl, H⟩
   rintro _ _ _ - ⟨t363, rfl, rfl, rfl, H⟩
   unfold M_41z at H
   refine Cw_cond rfl ?_ ?_
   ·intro h367
    have H := ift h367 H
    refine Cw_exit ?_
    refine Shift.pull (.there (.there (.there (.there (.there (.there (.there (.there .here)))))))) ?_
    refine Shift.pull (.there (.there (.there (.there (.there (.there .here)))))) ?_
    refine Shift.pull (.there (.there (.there (.there (.there (.there .here)))))) ?_
    refine Shift.pull (.there (.there (.there (.there (.there (.there .here)))))) ?_
    refine Shift.pull (.there (.there (.there (.there (.there (.there .here)))))) ?_
    refine Shift.pull (.there (.there (.there (.there (.there (.there .here)))))) ?_
    refine Shift.pull (.there (.there (.there (.there (.there (.there .here)))))) ?_
    refine Shift.rem (.there (.there (.there (.there (.there (.there (.there .here))))))) ?_
    refine Shift.rem (.there (.there (.there (.there (.there (.there (.there .here))))))) ?_
    refine Shift.done ?_
    exact ⟨[(0, (sv vp0)), (2, (.int .i64 p2)), (3, (.func (.func 107) #[] #[(.pointer (some ((⟨bc3_0, 0, none⟩ : Addr).add 0))), (.pointer (some ((⟨bc3_1, 0, none⟩ : Addr).add 0))), (.pointer (some ((⟨bc3_2, 0, none⟩ : Addr).add 0))), (.pointer (some ((⟨bc3_3, 0, none⟩ : Addr).add 0))), (.pointer (some ((⟨bc3_4, 0, none⟩ : Addr).add 0))), (.pointer (some ((⟨bc3_5, 0, none⟩ : Addr).add 0)))])), (14, (sv vp1)), (15, (.int .i64 (p1.length : Int))), (16, (.int .i64 i275))], ⟨rfl, rfl, rfl, rfl, rfl, rfl, trivial⟩, es276, ck277, m278, i280, i281, t282, rfl, rfl, H, hM279⟩
   ·intro h367
    have H := iff_ (btf h367) H
    refine Cw_skip ?_
    refine Cw_seq ?_
    refine Cw_region ?_
    refine Ow_q rfl rfl rfl (Qt_loadA (m := 7) (cs := (Op.cells x346 v350 v351)) rfl rfl rfl rfl ⟨rfl, Rdc.blk (.tail _ (.tail _ (.tail _ (.tail _ (.tail _ (.tail _ (.head _))))))) rfl⟩) ?_
    refine Ow_q rfl rfl rfl (Qt_fieldAddr (m := 3) rfl rfl rfl rfl rfl) ?_
    refine Ow_q rfl rfl rfl (Qt_loadA (m := 5) (cs := (Result.cells x339.result)) rfl rfl rfl rfl ⟨rfl, Rdc.blk (.tail _ (.tail _ (.tail _ (.tail _ (.tail _ (.tail _ (.tail _ (.head _)))))))) rfl⟩) ?_
    obtain ⟨x368, x369, hx370, H⟩ := bnd2 H
    refine Ow_cons rfl (OpW_call rfl Try.call112 rfl rfl (c_M_9z x346 v350 v351 x339.result x368 x369 hx370 _ _ hs352 hs353) ?_)
    rintro _ _ _ - ⟨rfl, rfl, rfl⟩
    refine Ow_q rfl rfl rfl (Qt_move rfl) ?_
    refine Ow_q rfl rfl rfl (Qt_extract rfl rfl) ?_
    refine Ow_q rfl rfl rfl (Qt_extract rfl rfl) ?_
    refine Ow_cons rfl (OpW_alloc (cs := (Case.cells (Case.mk false 0 0))) rfl rfl rfl rfl (fun b371 => ?_))
    refine Ow_cons rfl (OpW_store (vs := (Case.cells x368)) (all' := (Case.cells x368)) rfl rfl rfl rfl rfl .here rfl rfl rfl ?_)
    refine Ow_q rfl rfl rfl (Qt_assign rfl) ?_
    refine Ow_nil ?_
    refine Cw_join (fun env' K' G' => ∃ (t374 : Bool), [(0, (sv vp0)), (2, (.int .i64 p2)), (3, (.func (.func 107) #[] #[(.pointer (some ((⟨bc3_0, 0, none⟩ : Addr).add 0))), (.pointer (some ((⟨bc3_1, 0, none⟩ : Addr).add 0))), (.pointer (some ((⟨bc3_2, 0, none⟩ : Addr).add 0))), (.pointer (some ((⟨bc3_3, 0, none⟩ : Addr).add 0))), (.pointer (some ((⟨bc3_4, 0, none⟩ : Addr).add 0))), (.pointer (some ((⟨bc3_5, 0, none⟩ : Addr).add 0)))])), (8, (.int .i64 i275)), (9, (.pointer (some ((⟨b345, 0, none⟩ : Addr).add 0)))), (12, (.pointer (some ((⟨b371, 0, none⟩ : Addr).add 0)))), (14, (sv vp1)), (15, (.int .i64 (p1.length : Int))), (16, (.int .i64 i275)), (68, (.bool t374))] = env' ∧ K284 = K' ∧ (.blk bc3_5 139 [(sv vc3_5)]) :: (.blk bc3_4 141 [(.map (some bqc3_4))]) :: (.blk bc3_3 3 [(.int .i64 i280)]) :: (.blk bc3_2 3 [(.int .i64 i281)]) :: (.blk bc3_1 59 [(sv vc3_1)]) :: (.blk bc3_0 4 [(.bool t282)]) :: (.blk b371 73 (Case.cells x368)) :: (.blk b345 65 (Event.cells x339)) :: (.obj bqc3_4 (.map es276 ck277)) :: G = G' ∧ M_73z p0 p2 i275 p1 c3_5 i280 i281 c3_1 t282 x368 x339 m278 k287 t374 = some (z0_v, z2_v, z3_v, ubqc3_4)) ?_ ?_
    ·skip
     refine Cw_region ?_
     refine Ow_q rfl rfl rfl (Qt_move rfl) ?_
     refine Ow_q rfl rfl rfl (Qt_move rfl) ?_
     refine Ow_caseG rfl rfl rfl ?_ ?_
     ·intro h375
      have H := ift h375 H
      refine Ow_qw rfl rfl rfl rfl rfl rfl (Qt_fieldAddr (m := 1) rfl rfl rfl rfl rfl) ?_
      refine Ow_qw rfl rfl rfl rfl rfl rfl (Qt_load1 (v := (.int .i64 x368.channel)) rfl rfl rfl (Rdc.blk (.head _) rfl)) ?_
      refine Ow_qw rfl rfl rfl rfl rfl rfl (Qt_move rfl) ?_
      refine Ow_qw rfl rfl rfl rfl rfl rfl (Qt_cmp rfl rfl rfl) ?_
      refine Ow_q rfl rfl rfl (Qt_pick_t rfl rfl) ?_
      refine Ow_q rfl rfl rfl (Qt_move rfl) ?_
      refine Ow_caseG rfl rfl rfl ?_ ?_
      ·intro h376
       have h376 := dcd_t (h376)
       have H := ift h376 H
       refine Ow_qw rfl rfl rfl rfl rfl rfl (Qt_fieldAddr (m := 0) rfl rfl rfl rfl rfl) ?_
       refine Ow_qw rfl rfl rfl rfl rfl rfl (Qt_load1 (v := (.bool x368.send)) rfl rfl rfl (Rdc.blk (.head _) rfl)) ?_
       refine Ow_qw rfl rfl rfl rfl rfl rfl (Qt_fieldAddr (m := 3) rfl rfl rfl rfl rfl) ?_
       refine Ow_qw rfl rfl rfl rfl rfl rfl (Qt_fieldAddr (m := 3) rfl rfl rfl rfl rfl) ?_
       refine Ow_qw rfl rfl rfl rfl rfl rfl (Qt_load1 (v := (.int .i64 x339.result.kind)) rfl rfl rfl (Rdc.blk (.tail _ (.tail _ (.tail _ (.tail _ (.tail _ (.tail _ (.tail _ (.tail _ (.head _))))))))) rfl)) ?_
       refine Ow_qw rfl rfl rfl rfl rfl rfl (Qt_cmp rfl rfl rfl) ?_
       refine Ow_qw rfl rfl rfl rfl rfl rfl (Qt_eqB rfl rfl rfl) ?_
       refine Ow_q rfl rfl rfl (Qt_pick_t rfl rfl) ?_
       refine Ow_nil ?_
       refine Shift.pull (.there (.there (.there (.there (.there (.there (.there (.there (.there .here))))))))) ?_
       refine Shift.pull (.there (.there (.there (.there (.there (.there (.there (.there (.there .here))))))))) ?_
       refine Shift.pull (.there (.there .here)) ?_
       refine Shift.pull (.there (.there (.there (.there (.there (.there (.there (.there .here)))))))) ?_
       refine Shift.pull (.there (.there (.there (.there (.there (.there (.there (.there .here)))))))) ?_
       refine Shift.pull (.there (.there (.there (.there (.there (.there (.there (.there .here)))))))) ?_
       refine Shift.pull (.there (.there (.there (.there (.there (.there (.there (.there .here)))))))) ?_
       refine Shift.pull (.there (.there (.there (.there (.there (.there (.there (.there .here)))))))) ?_
       refine Shift.pull (.there (.there (.there (.there (.there (.there (.there (.there .here)))))))) ?_
       refine Shift.rem (.there (.there (.there (.there (.there (.there (.there (.there (.there .here))))))))) ?_
       refine Shift.done ?_
       exact ⟨[(0, (sv vp0)), (2, (.int .i64 p2)), (3, (.func (.func 107) #[] #[(.pointer (some ((⟨bc3_0, 0, none⟩ : Addr).add 0))), (.pointer (some ((⟨bc3_1, 0, none⟩ : Addr).add 0))), (.pointer (some ((⟨bc3_2, 0, none⟩ : Addr).add 0))), (.pointer (some ((⟨bc3_3, 0, none⟩ : Addr).add 0))), (.pointer (some ((⟨bc3_4, 0, none⟩ : Addr).add 0))), (.pointer (some ((⟨bc3_5, 0, none⟩ : Addr).add 0)))])), (8, (.int .i64 i275)), (9, (.pointer (some ((⟨b345, 0, none⟩ : Addr).add 0)))), (12, (.pointer (some ((⟨b371, 0, none⟩ : Addr).add 0)))), (14, (sv vp1)), (15, (.int .i64 (p1.length : Int))), (16, (.int .i64 i275)), (68, (.bool (x368.send == (dcd (x339.result.kind = 1)))))], ⟨rfl, rfl, rfl, rfl, rfl, rfl, rfl, rfl, rfl, rfl, trivial⟩, (x368.send == (dcd (x339.result.kind = 1))), rfl, rfl, rfl, H⟩
      ·intro h376
       have h376 := dcd_f (h376)
       have H := iff_ h376 H
       refine Ow_pass rfl rfl rfl rfl rfl rfl rfl ?_
       refine Ow_pass rfl rfl rfl rfl rfl rfl rfl ?_
       refine Ow_pass rfl rfl rfl rfl rfl rfl rfl ?_
       refine Ow_pass rfl rfl rfl rfl rfl rfl rfl ?_
       refine Ow_pass rfl rfl rfl rfl rfl rfl rfl ?_
       refine Ow_pass rfl rfl rfl rfl rfl rfl rfl ?_
       refine Ow_pass rfl rfl rfl rfl rfl rfl rfl ?_
       refine Ow_q rfl rfl rfl (Qt_pick_f rfl rfl) ?_
       refine Ow_nil ?_
       refine Shift.pull (.there (.there (.there (.there (.there (.there (.there (.there (.there .here))))))))) ?_
       refine Shift.pull (.there (.there (.there (.there (.there (.there (.there (.there (.there .here))))))))) ?_
       refine Shift.pull (.there (.there .here)) ?_
       refine Shift.pull (.there (.there (.there (.there (.there (.there (.there (.there .here)))))))) ?_
       refine Shift.pull (.there (.there (.there (.there (.there (.there (.there (.there .here)))))))) ?_
       refine Shift.pull (.there (.there (.there (.there (.there (.there (.there (.there .here)))))))) ?_
       refine Shift.pull (.there (.there (.there (.there (.there (.there (.there (.there .here)))))))) ?_
       refine Shift.pull (.there (.there (.there (.there (.there (.there (.there (.there .here)))))))) ?_
       refine Shift.pull (.there (.there (.there (.there (.there (.there (.there (.there .here)))))))) ?_
       refine Shift.rem (.there (.there (.there (.there (.there (.there (.there (.there (.there .here))))))))) ?_
       refine Shift.done ?_
       exact ⟨[(0, (sv vp0)), (2, (.int .i64 p2)), (3, (.func (.func 107) #[] #[(.pointer (some ((⟨bc3_0, 0, none⟩ : Addr).add 0))), (.pointer (some ((⟨bc3_1, 0, none⟩ : Addr).add 0))), (.pointer (some ((⟨bc3_2, 0, none⟩ : Addr).add 0))), (.pointer (some ((⟨bc3_3, 0, none⟩ : Addr).add 0))), (.pointer (some ((⟨bc3_4, 0, none⟩ : Addr).add 0))), (.pointer (some ((⟨bc3_5, 0, none⟩ : Addr).add 0)))])), (8, (.int .i64 i275)), (9, (.pointer (some ((⟨b345, 0, none⟩ : Addr).add 0)))), (12, (.pointer (some ((⟨b371, 0, none⟩ : Addr).add 0)))), (14, (sv vp1)), (15, (.int .i64 (p1.length : Int))), (16, (.int .i64 i275)), (68, (.bool false))], ⟨rfl, rfl, rfl, rfl, rfl, rfl, rfl, rfl, rfl, rfl, trivial⟩, false, rfl, rfl, rfl, H⟩
     ·intro h375
      have H := iff_ (btf h375) H
      refine Ow_pass rfl rfl rfl rfl rfl rfl rfl ?_
      refine Ow_pass rfl rfl rfl rfl rfl rfl rfl ?_
      refine Ow_pass rfl rfl rfl rfl rfl rfl rfl ?_
      refine Ow_pass rfl rfl rfl rfl rfl rfl rfl ?_
      refine Ow_q rfl rfl rfl (Qt_pick_f rfl rfl) ?_
      refine Ow_q rfl rfl rfl (Qt_move rfl) ?_
      refine Ow_pass rfl rfl rfl rfl rfl rfl rfl ?_
      refine Ow_pass rfl rfl rfl rfl rfl rfl rfl ?_
      refine Ow_pass rfl rfl rfl rfl rfl rfl rfl ?_
      refine Ow_pass rfl rfl rfl rfl rfl rfl rfl ?_
      refine Ow_pass rfl rfl rfl rfl rfl rfl rfl ?_
      refine Ow_pass rfl rfl rfl rfl rfl rfl rfl ?_
      refine Ow_pass rfl rfl rfl rfl rfl rfl rfl ?_
      refine Ow_q rfl rfl rfl (Qt_pick_f rfl rfl) ?_
      refine Ow_nil ?_
      refine Shift.pull (.there (.there (.there (.there (.there (.there (.there (.there (.there .here))))))))) ?_
      refine Shift.pull (.there (.there (.there (.there (.there (.there (.there (.there (.there .here))))))))) ?_
      refine Shift.pull (.there (.there .here)) ?_
      refine Shift.pull (.there (.there (.there (.there (.there (.there (.there (.there .here)))))))) ?_
      refine Shift.pull (.there (.there (.there (.there (.there (.there (.there (.there .here)))))))) ?_
      refine Shift.pull (.there (.there (.there (.there (.there (.there (.there (.there .here)))))))) ?_
      refine Shift.pull (.there (.there (.there (.there (.there (.there (.there (.there .here)))))))) ?_
      refine Shift.pull (.there (.there (.there (.there (.there (.there (.there (.there .here)))))))) ?_
      refine Shift.pull (.there (.there (.there (.there (.there (.there (.there (.there .here)))))))) ?_
      refine Shift.rem (.there (.there (.there (.there (.there (.there (.there (.there (.there .here))))))))) ?_
      refine Shift.done ?_
      exact ⟨[(0, (sv vp0)), (2, (.int .i64 p2)), (3, (.func (.func 107) #[] #[(.pointer (some ((⟨bc3_0, 0, none⟩ : Addr).add 0))), (.pointer (some ((⟨bc3_1, 0, none⟩ : Addr).add 0))), (.pointer (some ((⟨bc3_2, 0, none⟩ : Addr).add 0))), (.pointer (some ((⟨bc3_3, 0, none⟩ : Addr).add 0))), (.pointer (some ((⟨bc3_4, 0, none⟩ : Addr).add 0))), (.pointer (some ((⟨bc3_5, 0, none⟩ : Addr).add 0)))])), (8, (.int .i64 i275)), (9, (.pointer (some ((⟨b345, 0, none⟩ : Addr).add 0)))), (12, (.pointer (some ((⟨b371, 0, none⟩ : Addr).add 0)))), (14, (sv vp1)), (15, (.int .i64 (p1.length : Int))), (16, (.int .i64 i275)), (68, (.bool false))], ⟨rfl, rfl, rfl, rfl, rfl, rfl, rfl, rfl, rfl, rfl, trivial⟩, false, rfl, rfl, rfl, H⟩
    rintro _ _ _ - ⟨t374, rfl, rfl, rfl, H⟩
    unfold M_73z at H
    refine Cw_cond rfl ?_ ?_
    ·intro h377
     have H := ift h377 H
     refine Cw_region ?_
     refine Ow_q rfl rfl rfl (Qt_move rfl) ?_
     refine Ow_q rfl rfl rfl (Qt_move rfl) ?_
     refine Ow_q rfl rfl rfl (Qt_loadA (m := 3) (cs := (Case.cells x368)) rfl rfl rfl rfl ⟨rfl, Rdc.blk (.tail _ (.tail _ (.tail _ (.tail _ (.tail _ (.tail _ (.head _))))))) rfl⟩) ?_
     refine Ow_q rfl rfl rfl (Qt_fieldAddr (m := 3) rfl rfl rfl rfl rfl) ?_
     refine Ow_q rfl rfl rfl (Qt_loadA (m := 5) (cs := (Result.cells x339.result)) rfl rfl rfl rfl ⟨rfl, Rdc.blk (.tail _ (.tail _ (.tail _ (.tail _ (.tail _ (.tail _ (.tail _ (.head _)))))))) rfl⟩) ?_
     obtain ⟨x378, x379, x380, x381, hx382, H⟩ := bnd4 H
     refine Ow.shift (Shift.pull (.there (.there (.there (.there (.there (.there (.there (.there .here)))))))) (Shift.done ?_))
     refine Ow.shift (Shift.pull (.there (.there .here)) (Shift.done ?_))
     refine Ow.shift (Shift.pull (.there (.there (.there .here))) (Shift.done ?_))
     refine Ow.shift (Shift.pull (.there (.there (.there (.there .here)))) (Shift.done ?_))
     refine Ow.shift (Shift.pull (.there (.there (.there (.there (.there .here))))) (Shift.done ?_))
     refine Ow.shift (Shift.pull (.there (.there (.there (.there (.there (.there .here)))))) (Shift.done ?_))
     have hs383 := (hc3_1).mono hK285
     have hs384 := (hc3_5).mono hK285
     refine Ow_cons rfl (OpW_call rfl Try.call107 rfl rfl (c_M_179z i275 x368 x339.result bc3_0 t282 bc3_1 c3_1 vc3_1 bc3_2 i281 bc3_3 i280 bc3_4 m278 bqc3_4 es276 ck277 bc3_5 c3_5 vc3_5 x378 x379 x380 x381 hx382 _ _ hs383 hM279 hs384) ?_)
     rintro _ K387 _ hK388 ⟨es385, b386, rfl, rfl, hs389⟩
     refine Ow_nil ?_
     refine Shift.pull (.there (.there (.there (.there (.there (.there .here)))))) ?_
     refine Shift.pull (.there .here) ?_
     refine Shift.pull (.there (.there .here)) ?_
     refine Shift.pull (.there (.there (.there .here))) ?_
     refine Shift.pull (.there (.there (.there (.there .here)))) ?_
     refine Shift.pull (.there (.there (.there (.there (.there .here))))) ?_
     refine Shift.pull (.there (.there (.there (.there (.there (.there .here)))))) ?_
     refine Shift.rem (.there (.there (.there (.there (.there (.there (.there .here))))))) ?_
     refine Shift.rem (.there (.there (.there (.there (.there (.there (.there .here))))))) ?_
     refine Shift.done ?_
     exact ⟨[(0, (sv vp0)), (2, (.int .i64 p2)), (3, (.func (.func 107) #[] #[(.pointer (some ((⟨bc3_0, 0, none⟩ : Addr).add 0))), (.pointer (some ((⟨bc3_1, 0, none⟩ : Addr).add 0))), (.pointer (some ((⟨bc3_2, 0, none⟩ : Addr).add 0))), (.pointer (some ((⟨bc3_3, 0, none⟩ : Addr).add 0))), (.pointer (some ((⟨bc3_4, 0, none⟩ : Addr).add 0))), (.pointer (some ((⟨bc3_5, 0, none⟩ : Addr).add 0)))])), (14, (sv vp1)), (15, (.int .i64 (p1.length : Int))), (16, (.int .i64 i275))], ⟨rfl, rfl, rfl, rfl, rfl, rfl, trivial⟩, es385, b386, x381, x380, x379, x378, rfl, rfl, H, hs389⟩
    ·intro h377
     have H := iff_ (btf h377) H
     refine Cw_skip ?_
     refine Shift.pull (.there (.there (.there (.there (.there (.there (.there (.there .here)))))))) ?_
     refine Shift.pull (.there (.there (.there (.there (.there (.there .here)))))) ?_
     refine Shift.pull (.there (.there (.there (.there (.there (.there .here)))))) ?_
     refine Shift.pull (.there (.there (.there (.there (.there (.there .here)))))) ?_
     refine Shift.pull (.there (.there (.there (.there (.there (.there .here)))))) ?_
     refine Shift.pull (.there (.there (.there (.there (.there (.there .here)))))) ?_
     refine Shift.pull (.there (.there (.there (.there (.there (.there .here)))))) ?_
     refine Shift.rem (.there (.there (.there (.there (.there (.there (.there .here))))))) ?_
     refine Shift.rem (.there (.there (.there (.there (.there (.there (.there .here))))))) ?_
     refine Shift.done ?_
     exact ⟨[(0, (sv vp0)), (2, (.int .i64 p2)), (3, (.func (.func 107) #[] #[(.pointer (some ((⟨bc3_0, 0, none⟩ : Addr).add 0))), (.pointer (some ((⟨bc3_1, 0, none⟩ : Addr).add 0))), (.pointer (some ((⟨bc3_2, 0, none⟩ : Addr).add 0))), (.pointer (some ((⟨bc3_3, 0, none⟩ : Addr).add 0))), (.pointer (some ((⟨bc3_4, 0, none⟩ : Addr).add 0))), (.pointer (some ((⟨bc3_5, 0, none⟩ : Addr).add 0)))])), (14, (sv vp1)), (15, (.int .i64 (p1.length : Int))), (16, (.int .i64 i275))], ⟨rfl, rfl, rfl, rfl, rfl, rfl, trivial⟩, es276, ck277, m278, i280, i281, t282, rfl, rfl, H, hM279⟩
  rintro _ K390 _ hK391 ⟨es332, ck333, m334, i336, i337, t338, rfl, rfl, H, hM335⟩
  unfold M_72z at H
  refine Cw_region ?_
  refine Ow_q rfl rfl rfl (Qt_arith (e := wI (i275 + 1)) rfl rfl rfl rfl) ?_
  refine Ow_q rfl rfl rfl (Qt_move rfl) ?_
  refine Ow_nil ?_
  refine Shift.pull (.there (.there (.there (.there (.there (.there .here)))))) ?_
  refine Shift.pull (.there (.there (.there (.there (.there (.there .here)))))) ?_
  refine Shift.pull (.there (.there (.there (.there (.there (.there .here)))))) ?_
  refine Shift.pull (.there (.there (.there (.there (.there (.there .here)))))) ?_
  refine Shift.pull (.there (.there (.there (.there (.there (.there .here)))))) ?_
  refine Shift.pull (.there (.there (.there (.there (.there (.there .here)))))) ?_
  refine Shift.pull (.there (.there (.there (.there (.there (.there .here)))))) ?_
  refine Shift.done ?_
  exact ⟨[(0, (sv vp0)), (2, (.int .i64 p2)), (3, (.func (.func 107) #[] #[(.pointer (some ((⟨bc3_0, 0, none⟩ : Addr).add 0))), (.pointer (some ((⟨bc3_1, 0, none⟩ : Addr).add 0))), (.pointer (some ((⟨bc3_2, 0, none⟩ : Addr).add 0))), (.pointer (some ((⟨bc3_3, 0, none⟩ : Addr).add 0))), (.pointer (some ((⟨bc3_4, 0, none⟩ : Addr).add 0))), (.pointer (some ((⟨bc3_5, 0, none⟩ : Addr).add 0)))])), (14, (sv vp1)), (15, (.int .i64 (p1.length : Int))), (16, (.int .i64 (wI (i275 + 1))))], ⟨rfl, rfl, rfl, rfl, rfl, rfl, trivial⟩, _, Nat.lt_succ_self _, (wI (i275 + 1)), es332, ck333, m334, i336, i337, t338, rfl, rfl, (hkk288 ▸ H), hM335⟩
 ·intro h290
  have h290 := dcd_f (h290)
  have H := iff_ h290 H
  refine Cw_exit ?_
  obtain ⟨ez0_v, ez2_v, ez3_v, eubqc3_4⟩ := inj4 H
  subst z0_v z2_v z3_v ubqc3_4
  refine ⟨(by first | exact .inl rfl | exact .inr rfl), [], rfl, ?_⟩
  refine Shift.pull (.there (.there (.there (.there (.there (.there .here)))))) ?_
  refine Shift.pull (.there .here) ?_
  refine Shift.pull (.there (.there .here)) ?_
  refine Shift.pull (.there (.there (.there .here))) ?_
  refine Shift.pull (.there (.there (.there (.there .here)))) ?_
  refine Shift.pull (.there (.there (.there (.there (.there .here))))) ?_
  refine Shift.pull (.there (.there (.there (.there (.there (.there .here)))))) ?_
  refine Shift.done ?_
  exact ⟨es276, ck277, rfl, rfl, hM279⟩

set_option maxHeartbeats 1000000 in
theorem c_M_182z (p0 : List (List Op)) (vp0 : SV) (p1 : List Event) (vp1 : SV) (p2 : Int) (y0 : Bool) (H : M_182z p0 p1 p2 = some y0) (K : Kp) (G : List Ent) (hp0 : Slr (Ty.sl TyOp) K (sv vp0) p0) (hp1 : Slr TyEvent K (sv vp1) p1) :
  Fc Try.prog 70 #[(sv vp0), (sv vp1), (.int .i64 p2)] K (G) (fun v K' G' => v = (.bool y0) ∧ G = G') := by
 refine Fc_body Try.func70 rfl Try.ntmps70 Try.results70 rfl ?_
 unfold M_182z at H
 refine Cw_seq ?_
 refine Cw_region ?_
 refine Ow_cons rfl (OpW_box (cs := [(sv vp1)]) rfl rfl rfl (fun b37 => ?_))
 refine Ow_q rfl rfl rfl (Qt_assign rfl) ?_
 refine Ow_nil ?_
 refine Cw_seq ?_
 refine Cw_region ?_
 refine Ow_q rfl rfl rfl (Qt_move rfl) ?_
 refine Ow_q rfl rfl rfl (Qt_load1 (v := (sv vp1)) rfl rfl rfl (Rdc.blk (.head _) rfl)) ?_
 refine Ow_q rfl rfl rfl (Qt_move rfl) ?_
 obtain ⟨x38, hx39, H⟩ := bnd H
 refine Ow_cons rfl (OpW_call rfl Try.call105 rfl rfl (c_M_173z p0 vp0 p1 vp1 p2 x38 hx39 _ _ hp0 hp1) ?_)
 rintro _ K41 _ hK42 ⟨v40, rfl, rfl, hs43⟩
 refine Ow_cons rfl (OpW_alloc (cs := [(sv nilS)]) rfl rfl rfl rfl (fun b44 => ?_))
 refine Ow_cons rfl (OpW_store (vs := [(sv v40)]) (all' := [(sv v40)]) rfl rfl rfl rfl rfl .here rfl rfl rfl ?_)
 refine Ow_nil ?_
 refine Cw_seq ?_
 refine Cw_region ?_
 refine Ow_q rfl rfl rfl (Qt_move rfl) ?_
 refine Ow_q rfl rfl rfl (Qt_load1 (v := (sv vp1)) rfl rfl rfl (Rdc.blk (.tail _ (.tail _ (.head _))) rfl)) ?_
 refine Ow_q rfl rfl rfl (Qt_move rfl) ?_
 obtain ⟨x45, x46, hx47, H⟩ := bnd2 H
 have hs48 := (hp0).mono hK42
 have hs49 := (hp1).mono hK42
 refine Ow_cons rfl (OpW_call rfl Try.call106 rfl rfl (c_M_176z p0 vp0 p1 vp1 p2 x45 x46 hx47 _ _ hs48 hs49) ?_)
 rintro _ K50 _ hK51 ⟨rfl, rfl⟩
 refine Ow_q rfl rfl rfl (Qt_move rfl) ?_
 refine Ow_q rfl rfl rfl (Qt_extract rfl rfl) ?_
 refine Ow_q rfl rfl rfl (Qt_extract rfl rfl) ?_
 refine Ow_cons rfl (OpW_alloc (cs := [(.int .i64 0)]) rfl rfl rfl rfl (fun b52 => ?_))
 refine Ow_cons rfl (OpW_alloc (cs := [(.int .i64 0)]) rfl rfl rfl rfl (fun b53 => ?_))
 refine Ow_cons rfl (OpW_store (vs := [(.int .i64 x45)]) (all' := [(.int .i64 x45)]) rfl rfl rfl rfl rfl (.there .here) rfl rfl rfl ?_)
 refine Ow_cons rfl (OpW_store (vs := [(.int .i64 x46)]) (all' := [(.int .i64 x46)]) rfl rfl rfl rfl rfl .here rfl rfl rfl ?_)
 refine Ow_nil ?_
 refine Cw_seq ?_
 refine Cw_region ?_
 refine Ow_cons rfl (O_makeMap Ty.i64 (Value.int .u64) rfl (fun b54 es55 ck56 hM57 => ?_))
 refine Ow_cons rfl (OpW_alloc (cs := [(.map none)]) rfl rfl rfl rfl (fun b58 => ?_))
 refine Ow_cons rfl (OpW_store (vs := [(.map (some b54))]) (all' := [(.map (some b54))]) rfl rfl rfl rfl rfl .here rfl rfl rfl ?_)
 refine Ow_nil ?_
 refine Cw_seq ?_
 refine Cw_region ?_
 refine Ow_cons rfl (OpW_alloc (cs := [(.bool false)]) rfl rfl rfl rfl (fun b59 => ?_))
 refine Ow_cons rfl (OpW_store (vs := [(.bool true)]) (all' := [(.bool true)]) rfl rfl rfl rfl rfl .here rfl rfl rfl ?_)
 refine Ow_nil ?_
 refine Cw_seq ?_
 refine Cw_region ?_
 refine Ow_q rfl rfl rfl (Qt_move rfl) ?_
 refine Ow_q rfl rfl rfl (Qt_load1 (v := (sv vp1)) rfl rfl rfl (Rdc.blk (.tail _ (.tail _ (.tail _ (.tail _ (.tail _ (.tail _ (.tail _ (.head _)))))))) rfl)) ?_
 refine Ow_q rfl rfl rfl (Qt_move rfl) ?_
 refine Ow_q rfl rfl rfl (Qt_makeFunc rfl rfl) ?_
 obtain ⟨x60, x61, x62, x63, hx64, H⟩ := bnd4 H
 refine Ow.shift (Shift.pull (.there (.there (.there (.there (.there .here))))) (Shift.done ?_))
 refine Ow.shift (Shift.pull (.there (.there (.there .here))) (Shift.done ?_))
 refine Ow.shift (Shift.pull (.there (.there (.there .here))) (Shift.done ?_))
 refine Ow.shift (Shift.pull (.there (.there (.there (.there (.there .here))))) (Shift.done ?_))
 refine Ow.shift (Shift.pull (.there (.there (.there (.there (.there .here))))) (Shift.done ?_))
 refine Ow.shift (Shift.pull (.there (.there (.there (.there (.there (.there (.there .here))))))) (Shift.done ?_))
 refine Ow.shift (Shift.pull (.there (.there (.there (.there (.there (.there .here)))))) (Shift.done ?_))
 have hs65 := (hs48).mono hK51
 have hs66 := (hs49).mono hK51
 have hs67 := (hs43).mono hK51
 refine Ow_cons rfl (OpW_call rfl Try.call81 rfl rfl (c_M_181z p0 vp0 p1 vp1 p2 b59 true b37 p1 vp1 b53 x46 b52 x45 b58 (mEmpty Int Int) b54 es55 ck56 b44 x38 v40 x60 x61 x62 x63 hx64 _ _ hs65 hs66 hs66 hM57 hs67) ?_)
 rintro _ K70 _ hK71 ⟨es68, b69, rfl, rfl, hs72⟩
 refine Ow_nil ?_
 refine Cw_seq ?_
 refine Cw_region ?_
 refine Ow_q rfl rfl rfl (Qt_load1 (v := (.bool x60)) rfl rfl rfl (Rdc.blk (.head _) rfl)) ?_
 refine Ow_q rfl rfl rfl (Qt_assign rfl) ?_
 refine Ow_nil ?_
 refine Cw_ret ?_
 obtain ey0 := inj1 H
 subst y0
 refine ⟨(by first | exact .inl rfl | exact .inr rfl), [(.bool x60)], ⟨(.bool x60), _, rfl, rfl, rfl⟩, ?_⟩
 refine Shift.rem .here ?_
 refine Shift.rem .here ?_
 refine Shift.rem .here ?_
 refine Shift.rem .here ?_
 refine Shift.rem .here ?_
 refine Shift.rem .here ?_
 refine Shift.rem .here ?_
 refine Shift.rem .here ?_
 refine Shift.done ?_
 exact ⟨rfl, rfl⟩

set_option maxHeartbeats 1000000 in
theorem c_M_122z (p0 : Config) (vp0_capacities : SV) (vp0_starts : SV) (p1 : List (List Op)) (vp1 : SV) (p2 : List Event) (vp2 : SV) (y0 : Bool) (H : M_122z p0 p1 p2 = some y0) (K : Kp) (G : List Ent) (hp0_capacities : Slr Ty.i64 K (sv vp0_capacities) p0.capacities) (hp0_starts : Slr Ty.u64 K (sv vp0_starts) p0.starts) (hp1 : Slr (Ty.sl TyOp) K (sv vp1) p1) (hp2 : Slr TyEvent K (sv vp2) p2) :
  Fc Try.prog 31 #[(.agg (Config.cells p0 vp0_capacities vp0_starts).toArray), (sv vp1), (sv vp2)] K (G) (fun v K' G' => v = (.bool y0) ∧ G = G') := by
 refine Fc_body Try.func31 rfl Try.ntmps31 Try.results31 rfl ?_
 unfold M_122z at H
 refine Cw_seq ?_
 refine Cw_region ?_
 refine Ow_cons rfl (OpW_box (cs := (Config.cells p0 vp0_capacities vp0_starts)) rfl rfl rfl (fun b26 => ?_))
 refine Ow_q rfl rfl rfl (Qt_assign rfl) ?_
 refine Ow_nil ?_
 refine Cw_join (fun env' K' G' => [] = env' ∧ G = G' ∧ M_183z = some y0) ?_ ?_
 ·skip
  refine Cw_seq ?_
  refine Cw_region ?_
  refine Ow_q rfl rfl rfl (Qt_fieldAddr (m := 0) rfl rfl rfl rfl rfl) ?_
  refine Ow_q rfl rfl rfl (Qt_load1 (v := (sv vp0_capacities)) rfl rfl rfl (Rdc.blk (.head _) rfl)) ?_
  refine Ow_q rfl rfl rfl (Q_len (T := Ty.i64) hp0_capacities rfl rfl) ?_
  refine Ow_q rfl rfl rfl (Qt_move rfl) ?_
  refine Ow_nil ?_
  refine Cw_block ?_
  refine Cw_loopM (fun n71 env' K' G' => ∃ (i70 : Int), [(1, (sv vp1)), (2, (sv vp2)), (10, (.int .i64 (p0.capacities.length : Int))), (11, (.int .i64 i70))] = env' ∧ G = G' ∧ lp1 (M_184z p1 p2 p0) n71 i70 = some y0) BIG ?_ ?_
  ·skip
   refine Shift.rem .here ?_
   refine Shift.done ?_
   exact ⟨[(1, (sv vp1)), (2, (sv vp2)), (10, (.int .i64 (p0.capacities.length : Int))), (11, (.int .i64 0))], ⟨rfl, rfl, rfl, rfl, trivial⟩, 0, rfl, rfl, H⟩
  rintro n71 _ K72 _ hK73 ⟨i70, rfl, rfl, H⟩
  obtain ⟨m74, k75, rfl, hkk76, H⟩ := lps1 H
  unfold M_184z at H
  refine Cw_seq ?_
  refine Cw_region ?_
  refine Ow_q rfl rfl rfl (Qt_cmp rfl rfl rfl) ?_
  refine Ow_nil ?_
  refine Cw_seq ?_
  refine Cw_cond rfl ?_ ?_
  ·intro h78
   have h78 := dcd_t (h78)
   have H := ift h78 H
   refine Cw_skip ?_
   refine Cw_seq ?_
   refine Cw_block ?_
   refine Cw_seq ?_
   refine Cw_region ?_
   refine Ow_q rfl rfl rfl (Qt_move rfl) ?_
   refine Ow_q rfl rfl rfl (Qt_assign rfl) ?_
   refine Ow_nil ?_
   refine Cw_seq ?_
   refine Cw_region ?_
   refine Ow_q rfl rfl rfl (Qt_move rfl) ?_
   refine Ow_q rfl rfl rfl (Qt_move rfl) ?_
   refine Ow_q rfl rfl rfl (Qt_move rfl) ?_
   obtain ⟨x86, hx87, H⟩ := bnd H
   have hs88 := (hp1).mono hK73
   have hs89 := (hp2).mono hK73
   refine Ow_cons rfl (OpW_call rfl Try.call70 rfl rfl (c_M_182z p1 vp1 p2 vp2 i70 x86 hx87 _ _ hs88 hs89) ?_)
   rintro _ K90 _ hK91 ⟨rfl, rfl⟩
   refine Ow_q rfl rfl rfl (Qt_not rfl) ?_
   refine Ow_nil ?_
   refine Cw_cond rfl ?_ ?_
   ·intro h92
    have h92 := nt_t (h92)
    have H := iff_ (btf h92) H
    refine Cw_seq ?_
    refine Cw_region ?_
    refine Ow_q rfl rfl rfl (Qt_assign rfl) ?_
    refine Ow_nil ?_
    refine Cw_ret ?_
    obtain ey0 := inj1 H
    subst y0
    refine ⟨(by first | exact .inl rfl | exact .inr rfl), [(.bool false)], ⟨(.bool false), _, rfl, rfl, rfl⟩, ?_⟩
    refine Shift.done ?_
    exact ⟨rfl, rfl⟩
   ·intro h92
    have h92 := nt_f (h92)
    have H := ift h92 H
    refine Cw_skip ?_
    refine Cw_region ?_
    refine Ow_q rfl rfl rfl (Qt_arith (e := wI (i70 + 1)) rfl rfl rfl rfl) ?_
    refine Ow_q rfl rfl rfl (Qt_move rfl) ?_
    refine Ow_nil ?_
    refine Shift.done ?_
    exact ⟨[(1, (sv vp1)), (2, (sv vp2)), (10, (.int .i64 (p0.capacities.length : Int))), (11, (.int .i64 (wI (i70 + 1))))], ⟨rfl, rfl, rfl, rfl, trivial⟩, _, Nat.lt_succ_self _, (wI (i70 + 1)), rfl, rfl, (hkk76 ▸ H)⟩
  ·intro h78
   have h78 := dcd_f (h78)
   have H := iff_ h78 H
   refine Cw_exit ?_
   refine Shift.done ?_
   exact ⟨[], trivial, rfl, rfl, H⟩
 rintro _ K93 _ hK94 ⟨rfl, rfl, H⟩
 unfold M_183z at H
 refine Cw_seq ?_
 refine Cw_region ?_
 refine Ow_q rfl rfl rfl (Qt_assign rfl) ?_
 refine Ow_nil ?_
 refine Cw_ret ?_
 obtain ey0 := inj1 H
 subst y0
 refine ⟨(by first | exact .inl rfl | exact .inr rfl), [(.bool true)], ⟨(.bool true), _, rfl, rfl, rfl⟩, ?_⟩
 refine Shift.done ?_
 exact ⟨rfl, rfl⟩

set_option maxHeartbeats 1000000 in
theorem c_M_148z (p0 : Int) (p1 : Case) (p2 : Result) (bp3 : Nat) (p3 : List Int) (vp3 : SV) (z0_v : List Int) (H : M_148z p0 p1 p2 p3 = some z0_v) (K : Kp) (G : List Ent) (hp3 : Slr Ty.u64 K (sv vp3) p3) :
  Fc Try.prog 82 #[(.int .i64 p0), (.agg (Case.cells p1).toArray), (.agg (Result.cells p2).toArray), (.pointer (some ((⟨bp3, 0, none⟩ : Addr).add 0)))] K ((.blk bp3 32 [(sv vp3)]) :: (.tok 23 1 [(sv vp3)]) :: G) (fun v K' G' => ∃ (wz0_v : SV), v = (.tuple #[]) ∧ (.blk bp3 32 [(sv wz0_v)]) :: (.tok 23 1 [(sv wz0_v)]) :: G = G' ∧ Slr Ty.u64 K' (sv wz0_v) z0_v) := by
 refine Fc_body Try.func82 rfl Try.ntmps82 Try.results82 rfl ?_
 unfold M_148z at H
 refine Cw_seq ?_
 refine Cw_region ?_
 refine Ow_cons rfl (OpW_box (cs := (Case.cells p1)) rfl rfl rfl (fun b12 => ?_))
 refine Ow_cons rfl (OpW_box (cs := (Result.cells p2)) rfl rfl rfl (fun b13 => ?_))
 refine Ow_nil ?_
 refine Cw_seq ?_
 refine Cw_region ?_
 refine Ow_q rfl rfl rfl (Qt_fieldAddr (m := 0) rfl rfl rfl rfl rfl) ?_
 refine Ow_q rfl rfl rfl (Qt_load1 (v := (.bool p1.send)) rfl rfl rfl (Rdc.blk (.tail _ (.head _)) rfl)) ?_
 refine Ow_nil ?_
 refine Cw_cond rfl ?_ ?_
 ·intro h14
  have H := ift h14 H
  refine Cw_region ?_
  refine Ow_q rfl rfl rfl (Qt_load1 (v := (sv vp3)) rfl rfl rfl (Rdc.blk (.tail _ (.tail _ (.head _))) rfl)) ?_
  refine Ow_q rfl rfl rfl (Qt_fieldAddr (m := 2) rfl rfl rfl rfl rfl) ?_
  refine Ow_q rfl rfl rfl (Qt_load1 (v := (.int .u64 p1.value)) rfl rfl rfl (Rdc.blk (.tail _ (.head _)) rfl)) ?_
  have hR16 : RowR Ty.u64 K [[(.int .u64 p1.value)]] [p1.value] := RowR.cons rfl (RowR.nil)
  refine Ow_cons rfl (O_lit (T := Ty.u64) (rows := [[(.int .u64 p1.value)]]) (l := [p1.value]) rfl rfl rfl hR16 rfl rfl rfl rfl rfl rfl rfl rfl (fun v15 => ?_))
  obtain ⟨x17, hx18, H⟩ := bnd H
  refine Ow_cons rfl (O_appTok (T := Ty.u64) (bytes := 8) (q := 0) rfl rfl rfl hp3 (.tail _ (.tail _ (.tail _ (.tail _ (.head _))))) rfl (SrcT.row (.head _) hR16 rfl) hx18 rfl rfl rfl rfl rfl rfl rfl rfl (fun v19 K20 hK21 hs22 => ⟨_, (.there (.there (.there (.there .here)))), ?_⟩))
  refine Ow.shift (Shift.rem .here (Shift.done ?_))
  refine Ow_cons rfl (OpW_store (vs := [(sv v19)]) (all' := [(sv v19)]) rfl rfl rfl rfl rfl (.there (.there .here)) rfl rfl rfl ?_)
  refine Ow_nil ?_
  obtain ez0_v := inj1 H
  subst z0_v
  refine ⟨(by first | exact .inl rfl | exact .inr rfl), [], rfl, ?_⟩
  refine Shift.pull (.there (.there (.there .here))) ?_
  refine Shift.pull (.there (.there (.there .here))) ?_
  refine Shift.rem (.there (.there .here)) ?_
  refine Shift.rem (.there (.there .here)) ?_
  refine Shift.done ?_
  exact ⟨v19, rfl, rfl, hs22⟩
 ·intro h14
  have H := iff_ (btf h14) H
  refine Cw_skip ?_
  obtain ez0_v := inj1 H
  subst z0_v
  refine ⟨(by first | exact .inl rfl | exact .inr rfl), [], rfl, ?_⟩
  refine Shift.pull (.there (.there (.there .here))) ?_
  refine Shift.pull (.there (.there (.there .here))) ?_
  refine Shift.rem (.there (.there .here)) ?_
  refine Shift.rem (.there (.there .here)) ?_
  refine Shift.done ?_
  exact ⟨vp3, rfl, rfl, hp3⟩

set_option maxHeartbeats 1000000 in
theorem c_M_150z (p0 : List (List Op)) (vp0 : SV) (p1 : List Event) (vp1 : SV) (p2 : Int) (bc3_0 : Nat) (c3_0 : List Int) (vc3_0 : SV) (z0_v : List Int) (H : M_150z p0 p1 p2 c3_0 = some z0_v) (K : Kp) (G : List Ent) (hp0 : Slr (Ty.sl TyOp) K (sv vp0) p0) (hp1 : Slr TyEvent K (sv vp1) p1) (hc3_0 : Slr Ty.u64 K (sv vc3_0) c3_0) :
  Fc Try.prog 81 #[(sv vp0), (sv vp1), (.int .i64 p2), (.func (.func 82) #[] #[(.pointer (some ((⟨bc3_0, 0, none⟩ : Addr).add 0)))])] K ((.blk bc3_0 32 [(sv vc3_0)]) :: (.tok 23 1 [(sv vc3_0)]) :: G) (fun v K' G' => ∃ (wz0_v : SV), v = (.tuple #[]) ∧ (.blk bc3_0 32 [(sv wz0_v)]) :: (.tok 23 1 [(sv wz0_v)]) :: G = G' ∧ Slr Ty.u64 K' (sv wz0_v) z0_v) := by
 refine Fc_body Try.func81 rfl Try.ntmps81 Try.results81 rfl ?_
 unfold M_150z at H
 refine Cw_seq ?_
 refine Cw_region ?_
 refine Ow_q rfl rfl rfl (Qt_move rfl) ?_
 refine Ow_q rfl rfl rfl (Q_len (T := TyEvent) hp1 rfl rfl) ?_
 refine Ow_q rfl rfl rfl (Qt_move rfl) ?_
 refine Ow_nil ?_
 refine Cw_block ?_
 refine Cw_loopM (fun n223 env' K' G' => ∃ (i219 : Int) (v220 : SV) (l221 : List Int), [(0, (sv vp0)), (2, (.int .i64 p2)), (3, (.func (.func 82) #[] #[(.pointer (some ((⟨bc3_0, 0, none⟩ : Addr).add 0)))])), (14, (sv vp1)), (15, (.int .i64 (p1.length : Int))), (16, (.int .i64 i219))] = env' ∧ (.blk bc3_0 32 [(sv v220)]) :: (.tok 23 1 [(sv v220)]) :: G = G' ∧ lp2 (M_149z p0 p2 p1) n223 i219 l221 = some z0_v ∧ Slr Ty.u64 K' (sv v220) l221) BIG ?_ ?_
 ·skip
  refine Shift.pull (.there .here) ?_
  refine Shift.pull (.there .here) ?_
  refine Shift.done ?_
  exact ⟨[(0, (sv vp0)), (2, (.int .i64 p2)), (3, (.func (.func 82) #[] #[(.pointer (some ((⟨bc3_0, 0, none⟩ : Addr).add 0)))])), (14, (sv vp1)), (15, (.int .i64 (p1.length : Int))), (16, (.int .i64 0))], ⟨rfl, rfl, rfl, rfl, rfl, rfl, trivial⟩, 0, vc3_0, c3_0, rfl, rfl, H, hc3_0⟩
 rintro n223 _ K224 _ hK225 ⟨i219, v220, l221, rfl, rfl, H, hs222⟩
 obtain ⟨m226, k227, rfl, hkk228, H⟩ := lps2 H
 unfold M_149z at H
 refine Cw_seq ?_
 refine Cw_region ?_
 refine Ow_q rfl rfl rfl (Qt_cmp rfl rfl rfl) ?_
 refine Ow_nil ?_
 refine Cw_seq ?_
 refine Cw_cond rfl ?_ ?_
 ·intro h230
  have h230 := dcd_t (h230)
  have H := ift h230 H
  refine Cw_skip ?_
  refine Cw_join (fun env' K' G' => ∃ (v266 : SV) (l267 : List Int), [(0, (sv vp0)), (2, (.int .i64 p2)), (3, (.func (.func 82) #[] #[(.pointer (some ((⟨bc3_0, 0, none⟩ : Addr).add 0)))])), (14, (sv vp1)), (15, (.int .i64 (p1.length : Int))), (16, (.int .i64 i219))] = env' ∧ (.blk bc3_0 32 [(sv v266)]) :: (.tok 23 1 [(sv v266)]) :: G = G' ∧ M_16z p0 p2 p1 i219 k227 l267 = some z0_v ∧ Slr Ty.u64 K' (sv v266) l267) ?_ ?_
  ·skip
   refine Cw_block ?_
   refine Cw_seq ?_
   refine Cw_region ?_
   refine Ow_q rfl rfl rfl (Qt_move rfl) ?_
   obtain ⟨x269, hx270, H⟩ := bnd H
   have hs271 := (hp1).mono hK225
   obtain ⟨r272, hr273, hk274⟩ := Slr.at hs271 hx270
   obtain rfl := hr273
   refine Ow_q rfl rfl rfl (Q_ix (T := TyEvent) hs271 hx270 rfl rfl rfl rfl rfl) ?_
   refine Ow_q rfl rfl rfl (Qt_loadA (m := 8) (cs := (Event.cells x269)) rfl rfl rfl rfl ⟨rfl, Rdc.k hk274 rfl⟩) ?_
   refine Ow_cons rfl (OpW_alloc (cs := (Event.cells (Event.mk 0 0 false (Result.mk 0 0 0 false 0)))) rfl rfl rfl rfl (fun b275 => ?_))
   refine Ow_q rfl rfl rfl (Qt_assign rfl) ?_
   refine Ow_cons rfl (OpW_store (vs := (Event.cells x269)) (all' := (Event.cells x269)) rfl rfl rfl rfl rfl .here rfl rfl rfl ?_)
   refine Ow_nil ?_
   refine Cw_seq ?_
   refine Cw_region ?_
   refine Ow_q rfl rfl rfl (Qt_move rfl) ?_
   refine Ow_q rfl rfl rfl (Qt_loadA (m := 8) (cs := (Event.cells x269)) rfl rfl rfl rfl ⟨rfl, Rdc.blk (.head _) rfl⟩) ?_
   obtain ⟨x276, x277, hx278, H⟩ := bnd2 H
   have hs279 := (hp0).mono hK225
   refine Ow_cons rfl (OpW_call rfl Try.call111 rfl rfl (c_M_1z p0 vp0 x269 x276 x277 hx278 _ _ hs279) ?_)
   rintro _ _ _ - ⟨v280, v281, rfl, rfl, rfl, hs282, hs283⟩
   refine Ow_q rfl rfl rfl (Qt_move rfl) ?_
   refine Ow_q rfl rfl rfl (Qt_extract rfl rfl) ?_
   refine Ow_q rfl rfl rfl (Qt_extract rfl rfl) ?_
   refine Ow_cons rfl (OpW_alloc (cs := (Op.cells (Op.mk 0 0 0 0 0 [] []) nilS nilS)) rfl rfl rfl rfl (fun b284 => ?_))
   refine Ow_cons rfl (OpW_store (vs := (Op.cells x276 v280 v281)) (all' := (Op.cells x276 v280 v281)) rfl rfl rfl rfl rfl .here rfl rfl rfl ?_)
   refine Ow_q rfl rfl rfl (Qt_assign rfl) ?_
   refine Ow_nil ?_
   refine Cw_seq ?_
   refine Cw_join (fun env' K' G' => ∃ (t293 : Bool), [(0, (sv vp0)), (2, (.int .i64 p2)), (3, (.func (.func 82) #[] #[(.pointer (some ((⟨bc3_0, 0, none⟩ : Addr).add 0)))])), (8, (.int .i64 i219)), (9, (.pointer (some ((⟨b275, 0, none⟩ : Addr).add 0)))), (10, (.pointer (some ((⟨b284, 0, none⟩ : Addr).add 0)))), (14, (sv vp1)), (15, (.int .i64 (p1.length : Int))), (16, (.int .i64 i219)), (45, (.bool t293))] = env' ∧ K224 = K' ∧ (.blk bc3_0 32 [(sv v220)]) :: (.blk b284 38 (Op.cells x276 v280 v281)) :: (.blk b275 65 (Event.cells x269)) :: (.tok 23 1 [(sv v220)]) :: G = G' ∧ M_5z p0 p2 i219 p1 l221 x276 x269 k227 t293 = some z0_v) ?_ ?_
   ·skip
    refine Cw_region ?_
    refine Ow_q rfl rfl rfl (Qt_move rfl) ?_
    refine Ow_q rfl rfl rfl (Qt_not rfl) ?_
    refine Ow_q rfl rfl rfl (Qt_move rfl) ?_
    refine Ow_caseG rfl rfl rfl ?_ ?_
    ·intro h294
     have h294 := nt_t (h294)
     have H := iff_ (btf h294) H
     refine Ow_pass rfl rfl rfl rfl rfl rfl rfl ?_
     refine Ow_pass rfl rfl rfl rfl rfl rfl rfl ?_
     refine Ow_pass rfl rfl rfl rfl rfl rfl rfl ?_
     refine Ow_q rfl rfl rfl (Qt_pick_t rfl rfl) ?_
     refine Ow_q rfl rfl rfl (Qt_move rfl) ?_
     refine Ow_pass rfl rfl rfl rfl rfl rfl rfl ?_
     refine Ow_pass rfl rfl rfl rfl rfl rfl rfl ?_
     refine Ow_pass rfl rfl rfl rfl rfl rfl rfl ?_
     refine Ow_pass rfl rfl rfl rfl rfl rfl rfl ?_
     refine Ow_pass rfl rfl rfl rfl rfl rfl rfl ?_
     refine Ow_passU rfl rfl rfl rfl rfl ?_
     refine Ow_passU rfl rfl rfl rfl rfl ?_
     refine Ow_passU rfl rfl rfl rfl rfl ?_
     refine Ow_passU rfl rfl rfl rfl rfl ?_
     refine Ow_pass rfl rfl rfl rfl rfl rfl rfl ?_
     refine Ow_q rfl rfl rfl (Qt_pick_t rfl rfl) ?_
     refine Ow_nil ?_
     refine Shift.pull (.there (.there (.there .here))) ?_
     refine Shift.pull (.there (.there .here)) ?_
     refine Shift.pull (.there (.there .here)) ?_
     refine Shift.pull (.there (.there (.there .here))) ?_
     refine Shift.done ?_
     exact ⟨[(0, (sv vp0)), (2, (.int .i64 p2)), (3, (.func (.func 82) #[] #[(.pointer (some ((⟨bc3_0, 0, none⟩ : Addr).add 0)))])), (8, (.int .i64 i219)), (9, (.pointer (some ((⟨b275, 0, none⟩ : Addr).add 0)))), (10, (.pointer (some ((⟨b284, 0, none⟩ : Addr).add 0)))), (14, (sv vp1)), (15, (.int .i64 (p1.length : Int))), (16, (.int .i64 i219)), (45, (.bool true))], ⟨rfl, rfl, rfl, rfl, rfl, rfl, rfl, rfl, rfl, rfl, trivial⟩, true, rfl, rfl, rfl, H⟩
    ·intro h294
     have h294 := nt_f (h294)
     have H := ift h294 H
     refine Ow_qw rfl rfl rfl rfl rfl rfl (Qt_fieldAddr (m := 2) rfl rfl rfl rfl rfl) ?_
     refine Ow_qw rfl rfl rfl rfl rfl rfl (Qt_load1 (v := (.bool x269.ret)) rfl rfl rfl (Rdc.blk (.tail _ (.head _)) rfl)) ?_
     refine Ow_qw rfl rfl rfl rfl rfl rfl (Qt_not rfl) ?_
     refine Ow_q rfl rfl rfl (Qt_pick_f rfl rfl) ?_
     refine Ow_q rfl rfl rfl (Qt_move rfl) ?_
     refine Ow_caseG rfl rfl rfl ?_ ?_
     ·intro h295
      have h295 := nt_t (h295)
      have H := iff_ (btf h295) H
      refine Ow_pass rfl rfl rfl rfl rfl rfl rfl ?_
      refine Ow_pass rfl rfl rfl rfl rfl rfl rfl ?_
      refine Ow_pass rfl rfl rfl rfl rfl rfl rfl ?_
      refine Ow_pass rfl rfl rfl rfl rfl rfl rfl ?_
      refine Ow_pass rfl rfl rfl rfl rfl rfl rfl ?_
      refine Ow_passU rfl rfl rfl rfl rfl ?_
      refine Ow_passU rfl rfl rfl rfl rfl ?_
      refine Ow_passU rfl rfl rfl rfl rfl ?_
      refine Ow_passU rfl rfl rfl rfl rfl ?_
      refine Ow_pass rfl rfl rfl rfl rfl rfl rfl ?_
      refine Ow_q rfl rfl rfl (Qt_pick_t rfl rfl) ?_
      refine Ow_nil ?_
      refine Shift.pull (.there (.there (.there .here))) ?_
      refine Shift.pull (.there (.there .here)) ?_
      refine Shift.pull (.there (.there .here)) ?_
      refine Shift.pull (.there (.there (.there .here))) ?_
      refine Shift.done ?_
      exact ⟨[(0, (sv vp0)), (2, (.int .i64 p2)), (3, (.func (.func 82) #[] #[(.pointer (some ((⟨bc3_0, 0, none⟩ : Addr).add 0)))])), (8, (.int .i64 i219)), (9, (.pointer (some ((⟨b275, 0, none⟩ : Addr).add 0)))), (10, (.pointer (some ((⟨b284, 0, none⟩ : Addr).add 0)))), (14, (sv vp1)), (15, (.int .i64 (p1.length : Int))), (16, (.int .i64 i219)), (45, (.bool true))], ⟨rfl, rfl, rfl, rfl, rfl, rfl, rfl, rfl, rfl, rfl, trivial⟩, true, rfl, rfl, rfl, H⟩
     ·intro h295
      have h295 := nt_f (h295)
      have H := ift h295 H
      refine Ow_qw rfl rfl rfl rfl rfl rfl (Qt_fieldAddr (m := 3) rfl rfl rfl rfl rfl) ?_
      refine Ow_qw rfl rfl rfl rfl rfl rfl (Qt_fieldAddr (m := 3) rfl rfl rfl rfl rfl) ?_
      refine Ow_qw rfl rfl rfl rfl rfl rfl (Qt_load1 (v := (.int .i64 x269.result.kind)) rfl rfl rfl (Rdc.blk (.tail _ (.head _)) rfl)) ?_
      refine Ow_qw rfl rfl rfl rfl rfl rfl (Qt_cmp rfl rfl rfl) ?_
      refine Ow_qw rfl rfl rfl rfl rfl rfl (Qt_move rfl) ?_
      refine Ow_caseG rfl rfl rfl ?_ ?_
      ·intro h296
       have h296 := dcd_f (nt_t (h296))
       have H := iff_ h296 H
       refine Ow_qw rfl rfl rfl rfl rfl rfl (Qt_fieldAddr (m := 3) rfl rfl rfl rfl rfl) ?_
       refine Ow_qw rfl rfl rfl rfl rfl rfl (Qt_fieldAddr (m := 3) rfl rfl rfl rfl rfl) ?_
       refine Ow_qw rfl rfl rfl rfl rfl rfl (Qt_load1 (v := (.int .i64 x269.result.kind)) rfl rfl rfl (Rdc.blk (.tail _ (.head _)) rfl)) ?_
       refine Ow_qw rfl rfl rfl rfl rfl rfl (Qt_cmp rfl rfl rfl) ?_
       refine Ow_qw rfl rfl rfl rfl rfl rfl (Qt_pick_t rfl rfl) ?_
       refine Ow_q rfl rfl rfl (Qt_pick_f rfl rfl) ?_
       refine Ow_nil ?_
       refine Shift.pull (.there (.there (.there .here))) ?_
       refine Shift.pull (.there (.there .here)) ?_
       refine Shift.pull (.there (.there .here)) ?_
       refine Shift.pull (.there (.there (.there .here))) ?_
       refine Shift.done ?_
       exact ⟨[(0, (sv vp0)), (2, (.int .i64 p2)), (3, (.func (.func 82) #[] #[(.pointer (some ((⟨bc3_0, 0, none⟩ : Addr).add 0)))])), (8, (.int .i64 i219)), (9, (.pointer (some ((⟨b275, 0, none⟩ : Addr).add 0)))), (10, (.pointer (some ((⟨b284, 0, none⟩ : Addr).add 0)))), (14, (sv vp1)), (15, (.int .i64 (p1.length : Int))), (16, (.int .i64 i219)), (45, (.bool (!(dcd (x269.result.kind = 2)))))], ⟨rfl, rfl, rfl, rfl, rfl, rfl, rfl, rfl, rfl, rfl, trivial⟩, (!(dcd (x269.result.kind = 2))), rfl, rfl, rfl, H⟩
      ·intro h296
       have h296 := dcd_t (nt_f (h296))
       have H := ift h296 H
       refine Ow_pass rfl rfl rfl rfl rfl rfl rfl ?_
       refine Ow_pass rfl rfl rfl rfl rfl rfl rfl ?_
       refine Ow_pass rfl rfl rfl rfl rfl rfl rfl ?_
       refine Ow_pass rfl rfl rfl rfl rfl rfl rfl ?_
       refine Ow_qw rfl rfl rfl rfl rfl rfl (Qt_pick_f rfl rfl) ?_
       refine Ow_q rfl rfl rfl (Qt_pick_f rfl rfl) ?_
       refine Ow_nil ?_
       refine Shift.pull (.there (.there (.there .here))) ?_
       refine Shift.pull (.there (.there .here)) ?_
       refine Shift.pull (.there (.there .here)) ?_
       refine Shift.pull (.there (.there (.there .here))) ?_
       refine Shift.done ?_
       exact ⟨[(0, (sv vp0)), (2, (.int .i64 p2)), (3, (.func (.func 82) #[] #[(.pointer (some ((⟨bc3_0, 0, none⟩ : Addr).add 0)))])), (8, (.int .i64 i219)), (9, (.pointer (some ((⟨b275, 0, none⟩ : Addr).add 0)))), (10, (.pointer (some ((⟨b284, 0, none⟩ : Addr).add 0)))), (14, (sv vp1)), (15, (.int .i64 (p1.length : Int))), (16, (.int .i64 i219)), (45, (.bool false))], ⟨rfl, rfl, rfl, rfl, rfl, rfl, rfl, rfl, rfl, rfl, trivial⟩, false, rfl, rfl, rfl, H⟩
   rintro _ _ _ - ⟨t293, rfl, rfl, rfl, H⟩
   unfold M_5z at H
   refine Cw_cond rfl ?_ ?_
   ·intro h297
    have H := ift h297 H
    refine Cw_exit ?_
    refine Shift.pull (.there (.there (.there .here))) ?_
    refine Shift.pull (.there .here) ?_
    refine Shift.rem (.there (.there .here)) ?_
    refine Shift.rem (.there (.there .here)) ?_
    refine Shift.done ?_
    exact ⟨[(0, (sv vp0)), (2, (.int .i64 p2)), (3, (.func (.func 82) #[] #[(.pointer (some ((⟨bc3_0, 0, none⟩ : Addr).add 0)))])), (14, (sv vp1)), (15, (.int .i64 (p1.length : Int))), (16, (.int .i64 i219))], ⟨rfl, rfl, rfl, rfl, rfl, rfl, trivial⟩, v220, l221, rfl, rfl, H, hs222⟩
   ·intro h297
    have H := iff_ (btf h297) H
    refine Cw_skip ?_
    refine Cw_seq ?_
    refine Cw_region ?_
    refine Ow_q rfl rfl rfl (Qt_loadA (m := 7) (cs := (Op.cells x276 v280 v281)) rfl rfl rfl rfl ⟨rfl, Rdc.blk (.tail _ (.head _)) rfl⟩) ?_
    refine Ow_q rfl rfl rfl (Qt_fieldAddr (m := 3) rfl rfl rfl rfl rfl) ?_
    refine Ow_q rfl rfl rfl (Qt_loadA (m := 5) (cs := (Result.cells x269.result)) rfl rfl rfl rfl ⟨rfl, Rdc.blk (.tail _ (.tail _ (.head _))) rfl⟩) ?_
    obtain ⟨x298, x299, hx300, H⟩ := bnd2 H
    refine Ow_cons rfl (OpW_call rfl Try.call112 rfl rfl (c_M_9z x276 v280 v281 x269.result x298 x299 hx300 _ _ hs282 hs283) ?_)
    rintro _ _ _ - ⟨rfl, rfl, rfl⟩
    refine Ow_q rfl rfl rfl (Qt_move rfl) ?_
    refine Ow_q rfl rfl rfl (Qt_extract rfl rfl) ?_
    refine Ow_q rfl rfl rfl (Qt_extract rfl rfl) ?_
    refine Ow_cons rfl (OpW_alloc (cs := (Case.cells (Case.mk false 0 0))) rfl rfl rfl rfl (fun b301 => ?_))
    refine Ow_cons rfl (OpW_store (vs := (Case.cells x298)) (all' := (Case.cells x298)) rfl rfl rfl rfl rfl .here rfl rfl rfl ?_)
    refine Ow_q rfl rfl rfl (Qt_assign rfl) ?_
    refine Ow_nil ?_
    refine Cw_join (fun env' K' G' => ∃ (t304 : Bool), [(0, (sv vp0)), (2, (.int .i64 p2)), (3, (.func (.func 82) #[] #[(.pointer (some ((⟨bc3_0, 0, none⟩ : Addr).add 0)))])), (8, (.int .i64 i219)), (9, (.pointer (some ((⟨b275, 0, none⟩ : Addr).add 0)))), (12, (.pointer (some ((⟨b301, 0, none⟩ : Addr).add 0)))), (14, (sv vp1)), (15, (.int .i64 (p1.length : Int))), (16, (.int .i64 i219)), (68, (.bool t304))] = env' ∧ K224 = K' ∧ (.blk bc3_0 32 [(sv v220)]) :: (.blk b301 73 (Case.cells x298)) :: (.blk b275 65 (Event.cells x269)) :: (.tok 23 1 [(sv v220)]) :: G = G' ∧ M_28z p0 p2 i219 p1 l221 x298 x269 k227 t304 = some z0_v) ?_ ?_
    ·skip
     refine Cw_region ?_
     refine Ow_q rfl rfl rfl (Qt_move rfl) ?_
     refine Ow_q rfl rfl rfl (Qt_move rfl) ?_
     refine Ow_caseG rfl rfl rfl ?_ ?_
     ·intro h305
      have H := ift h305 H
      refine Ow_qw rfl rfl rfl rfl rfl rfl (Qt_fieldAddr (m := 1) rfl rfl rfl rfl rfl) ?_
      refine Ow_qw rfl rfl rfl rfl rfl rfl (Qt_load1 (v := (.int .i64 x298.channel)) rfl rfl rfl (Rdc.blk (.head _) rfl)) ?_
      refine Ow_qw rfl rfl rfl rfl rfl rfl (Qt_move rfl) ?_
      refine Ow_qw rfl rfl rfl rfl rfl rfl (Qt_cmp rfl rfl rfl) ?_
      refine Ow_q rfl rfl rfl (Qt_pick_t rfl rfl) ?_
      refine Ow_q rfl rfl rfl (Qt_move rfl) ?_
      refine Ow_caseG rfl rfl rfl ?_ ?_
      ·intro h306
       have h306 := dcd_t (h306)
       have H := ift h306 H
       refine Ow_qw rfl rfl rfl rfl rfl rfl (Qt_fieldAddr (m := 0) rfl rfl rfl rfl rfl) ?_
       refine Ow_qw rfl rfl rfl rfl rfl rfl (Qt_load1 (v := (.bool x298.send)) rfl rfl rfl (Rdc.blk (.head _) rfl)) ?_
       refine Ow_qw rfl rfl rfl rfl rfl rfl (Qt_fieldAddr (m := 3) rfl rfl rfl rfl rfl) ?_
       refine Ow_qw rfl rfl rfl rfl rfl rfl (Qt_fieldAddr (m := 3) rfl rfl rfl rfl rfl) ?_
       refine Ow_qw rfl rfl rfl rfl rfl rfl (Qt_load1 (v := (.int .i64 x269.result.kind)) rfl rfl rfl (Rdc.blk (.tail _ (.tail _ (.tail _ (.head _)))) rfl)) ?_
       refine Ow_qw rfl rfl rfl rfl rfl rfl (Qt_cmp rfl rfl rfl) ?_
       refine Ow_qw rfl rfl rfl rfl rfl rfl (Qt_eqB rfl rfl rfl) ?_
       refine Ow_q rfl rfl rfl (Qt_pick_t rfl rfl) ?_
       refine Ow_nil ?_
       refine Shift.pull (.there (.there (.there (.there .here)))) ?_
       refine Shift.pull (.there (.there (.there (.there .here)))) ?_
       refine Shift.pull (.there (.there .here)) ?_
       refine Shift.pull (.there (.there (.there .here))) ?_
       refine Shift.rem (.there (.there (.there (.there .here)))) ?_
       refine Shift.done ?_
       exact ⟨[(0, (sv vp0)), (2, (.int .i64 p2)), (3, (.func (.func 82) #[] #[(.pointer (some ((⟨bc3_0, 0, none⟩ : Addr).add 0)))])), (8, (.int .i64 i219)), (9, (.pointer (some ((⟨b275, 0, none⟩ : Addr).add 0)))), (12, (.pointer (some ((⟨b301, 0, none⟩ : Addr).add 0)))), (14, (sv vp1)), (15, (.int .i64 (p1.length : Int))), (16, (.int .i64 i219)), (68, (.bool (x298.send == (dcd (x269.result.kind = 1)))))], ⟨rfl, rfl, rfl, rfl, rfl, rfl, rfl, rfl, rfl, rfl, trivial⟩, (x298.send == (dcd (x269.result.kind = 1))), rfl, rfl, rfl, H⟩
      ·intro h306
       have h306 := dcd_f (h306)
       have H := iff_ h306 H
       refine Ow_pass rfl rfl rfl rfl rfl rfl rfl ?_
       refine Ow_pass rfl rfl rfl rfl rfl rfl rfl ?_
       refine Ow_pass rfl rfl rfl rfl rfl rfl rfl ?_
       refine Ow_pass rfl rfl rfl rfl rfl rfl rfl ?_
       refine Ow_pass rfl rfl rfl rfl rfl rfl rfl ?_
       refine Ow_pass rfl rfl rfl rfl rfl rfl rfl ?_
       refine Ow_pass rfl rfl rfl rfl rfl rfl rfl ?_
       refine Ow_q rfl rfl rfl (Qt_pick_f rfl rfl) ?_
       refine Ow_nil ?_
       refine Shift.pull (.there (.there (.there (.there .here)))) ?_
       refine Shift.pull (.there (.there (.there (.there .here)))) ?_
       refine Shift.pull (.there (.there .here)) ?_
       refine Shift.pull (.there (.there (.there .here))) ?_
       refine Shift.rem (.there (.there (.there (.there .here)))) ?_
       refine Shift.done ?_
       exact ⟨[(0, (sv vp0)), (2, (.int .i64 p2)), (3, (.func (.func 82) #[] #[(.pointer (some ((⟨bc3_0, 0, none⟩ : Addr).add 0)))])), (8, (.int .i64 i219)), (9, (.pointer (some ((⟨b275, 0, none⟩ : Addr).add 0)))), (12, (.pointer (some ((⟨b301, 0, none⟩ : Addr).add 0)))), (14, (sv vp1)), (15, (.int .i64 (p1.length : Int))), (16, (.int .i64 i219)), (68, (.bool false))], ⟨rfl, rfl, rfl, rfl, rfl, rfl, rfl, rfl, rfl, rfl, trivial⟩, false, rfl, rfl, rfl, H⟩
     ·intro h305
      have H := iff_ (btf h305) H
      refine Ow_pass rfl rfl rfl rfl rfl rfl rfl ?_
      refine Ow_pass rfl rfl rfl rfl rfl rfl rfl ?_
      refine Ow_pass rfl rfl rfl rfl rfl rfl rfl ?_
      refine Ow_pass rfl rfl rfl rfl rfl rfl rfl ?_
      refine Ow_q rfl rfl rfl (Qt_pick_f rfl rfl) ?_
      refine Ow_q rfl rfl rfl (Qt_move rfl) ?_
      refine Ow_pass rfl rfl rfl rfl rfl rfl rfl ?_
      refine Ow_pass rfl rfl rfl rfl rfl rfl rfl ?_
      refine Ow_pass rfl rfl rfl rfl rfl rfl rfl ?_
      refine Ow_pass rfl rfl rfl rfl rfl rfl rfl ?_
      refine Ow_pass rfl rfl rfl rfl rfl rfl rfl ?_
      refine Ow_pass rfl rfl rfl rfl rfl rfl rfl ?_
      refine Ow_pass rfl rfl rfl rfl rfl rfl rfl ?_
      refine Ow_q rfl rfl rfl (Qt_pick_f rfl rfl) ?_
      refine Ow_nil ?_
      refine Shift.pull (.there (.there (.there (.there .here)))) ?_
      refine Shift.pull (.there (.there (.there (.there .here)))) ?_
      refine Shift.pull (.there (.there .here)) ?_
      refine Shift.pull (.there (.there (.there .here))) ?_
      refine Shift.rem (.there (.there (.there (.there .here)))) ?_
      refine Shift.done ?_
      exact ⟨[(0, (sv vp0)), (2, (.int .i64 p2)), (3, (.func (.func 82) #[] #[(.pointer (some ((⟨bc3_0, 0, none⟩ : Addr).add 0)))])), (8, (.int .i64 i219)), (9, (.pointer (some ((⟨b275, 0, none⟩ : Addr).add 0)))), (12, (.pointer (some ((⟨b301, 0, none⟩ : Addr).add 0)))), (14, (sv vp1)), (15, (.int .i64 (p1.length : Int))), (16, (.int .i64 i219)), (68, (.bool false))], ⟨rfl, rfl, rfl, rfl, rfl, rfl, rfl, rfl, rfl, rfl, trivial⟩, false, rfl, rfl, rfl, H⟩
    rintro _ _ _ - ⟨t304, rfl, rfl, rfl, H⟩
    unfold M_28z at H
    refine Cw_cond rfl ?_ ?_
    ·intro h307
     have H := ift h307 H
     refine Cw_region ?_
     refine Ow_q rfl rfl rfl (Qt_move rfl) ?_
     refine Ow_q rfl rfl rfl (Qt_move rfl) ?_
     refine Ow_q rfl rfl rfl (Qt_loadA (m := 3) (cs := (Case.cells x298)) rfl rfl rfl rfl ⟨rfl, Rdc.blk (.tail _ (.head _)) rfl⟩) ?_
     refine Ow_q rfl rfl rfl (Qt_fieldAddr (m := 3) rfl rfl rfl rfl rfl) ?_
     refine Ow_q rfl rfl rfl (Qt_loadA (m := 5) (cs := (Result.cells x269.result)) rfl rfl rfl rfl ⟨rfl, Rdc.blk (.tail _ (.tail _ (.head _))) rfl⟩) ?_
     obtain ⟨x308, hx309, H⟩ := bnd H
     refine Ow.shift (Shift.pull (.there (.there (.there .here))) (Shift.done ?_))
     refine Ow.shift (Shift.pull (.there .here) (Shift.done ?_))
     refine Ow_cons rfl (OpW_call rfl Try.call82 rfl rfl (c_M_148z i219 x298 x269.result bc3_0 l221 v220 x308 hx309 _ _ hs222) ?_)
     rintro _ K311 _ hK312 ⟨v310, rfl, rfl, hs313⟩
     refine Ow_nil ?_
     refine Shift.pull (.there .here) ?_
     refine Shift.pull (.there .here) ?_
     refine Shift.rem (.there (.there .here)) ?_
     refine Shift.rem (.there (.there .here)) ?_
     refine Shift.done ?_
     exact ⟨[(0, (sv vp0)), (2, (.int .i64 p2)), (3, (.func (.func 82) #[] #[(.pointer (some ((⟨bc3_0, 0, none⟩ : Addr).add 0)))])), (14, (sv vp1)), (15, (.int .i64 (p1.length : Int))), (16, (.int .i64 i219))], ⟨rfl, rfl, rfl, rfl, rfl, rfl, trivial⟩, v310, x308, rfl, rfl, H, hs313⟩
    ·intro h307
     have H := iff_ (btf h307) H
     refine Cw_skip ?_
     refine Shift.pull (.there (.there (.there .here))) ?_
     refine Shift.pull (.there .here) ?_
     refine Shift.rem (.there (.there .here)) ?_
     refine Shift.rem (.there (.there .here)) ?_
     refine Shift.done ?_
     exact ⟨[(0, (sv vp0)), (2, (.int .i64 p2)), (3, (.func (.func 82) #[] #[(.pointer (some ((⟨bc3_0, 0, none⟩ : Addr).add 0)))])), (14, (sv vp1)), (15, (.int .i64 (p1.length : Int))), (16, (.int .i64 i219))], ⟨rfl, rfl, rfl, rfl, rfl, rfl, trivial⟩, v220, l221, rfl, rfl, H, hs222⟩
  rintro _ K314 _ hK315 ⟨v266, l267, rfl, rfl, H, hs268⟩
  unfold M_16z at H
  refine Cw_region ?_
  refine Ow_q rfl rfl rfl (Qt_arith (e := wI (i219 + 1)) rfl rfl rfl rfl) ?_
  refine Ow_q rfl rfl rfl (Qt_move rfl) ?_
  refine Ow_nil ?_
  refine Shift.pull (.there .here) ?_
  refine Shift.pull (.there .here) ?_
  refine Shift.done ?_
  exact ⟨[(0, (sv vp0)), (2, (.int .i64 p2)), (3, (.func (.func 82) #[] #[(.pointer (some ((⟨bc3_0, 0, none⟩ : Addr).add 0)))])), (14, (sv vp1)), (15, (.int .i64 (p1.length : Int))), (16, (.int .i64 (wI (i219 + 1))))], ⟨rfl, rfl, rfl, rfl, rfl, rfl, trivial⟩, _, Nat.lt_succ_self _, (wI (i219 + 1)), v266, l267, rfl, rfl, (hkk228 ▸ H), hs268⟩
 ·intro h230
  have h230 := dcd_f (h230)
  have H := iff_ h230 H
  refine Cw_exit ?_
  obtain ez0_v := inj1 H
  subst z0_v
  refine ⟨(by first | exact .inl rfl | exact .inr rfl), [], rfl, ?_⟩
  refine Shift.pull (.there .here) ?_
  refine Shift.pull (.there .here) ?_
  refine Shift.done ?_
  exact ⟨v220, rfl, rfl, hs222⟩

set_option maxHeartbeats 1000000 in
theorem c_M_102z (p0 : List (List Op)) (vp0 : SV) (p1 : List Event) (vp1 : SV) (p2 : Int) (y0 : List Int) (H : M_102z p0 p1 p2 = some y0) (K : Kp) (G : List Ent) (hp0 : Slr (Ty.sl TyOp) K (sv vp0) p0) (hp1 : Slr TyEvent K (sv vp1) p1) :
  Fc Try.prog 37 #[(sv vp0), (sv vp1), (.int .i64 p2)] K (G) (fun v K' G' => ∃ (wy0 : SV), v = (sv wy0) ∧ (.tok 23 1 [(sv wy0)]) :: G = G' ∧ Slr Ty.u64 K' (sv wy0) y0) := by
 refine Fc_body Try.func37 rfl Try.ntmps37 Try.results37 rfl ?_
 unfold M_102z at H
 refine Cw_seq ?_
 refine Cw_region ?_
 refine Ow_q rfl rfl rfl (Qt_assign rfl) ?_
 refine Ow_nil ?_
 refine Cw_seq ?_
 refine Cw_region ?_
 refine Ow_cons rfl (OpW_alloc (cs := [(sv nilS)]) rfl rfl rfl rfl (fun b8 => ?_))
 refine Ow_nil ?_
 refine Cw_seq ?_
 refine Cw_region ?_
 refine Ow_q rfl rfl rfl (Qt_move rfl) ?_
 refine Ow_q rfl rfl rfl (Qt_move rfl) ?_
 refine Ow_q rfl rfl rfl (Qt_move rfl) ?_
 refine Ow_q rfl rfl rfl (Qt_makeFunc rfl rfl) ?_
 obtain ⟨x9, hx10, H⟩ := bnd H
 refine Ow.shift (Shift.nilTok1 23 1 (Shift.done ?_))
 refine Ow.shift (Shift.pull (.there .here) (Shift.done ?_))
 refine Ow_cons rfl (OpW_call rfl Try.call81 rfl rfl (c_M_150z p0 vp0 p1 vp1 p2 b8 ([] : List Int) nilS x9 hx10 _ _ hp0 hp1 (Slr.nil Ty.u64 _)) ?_)
 rintro _ K12 _ hK13 ⟨v11, rfl, rfl, hs14⟩
 refine Ow_nil ?_
 refine Cw_seq ?_
 refine Cw_region ?_
 refine Ow_q rfl rfl rfl (Qt_load1 (v := (sv v11)) rfl rfl rfl (Rdc.blk (.head _) rfl)) ?_
 refine Ow_q rfl rfl rfl (Qt_assign rfl) ?_
 refine Ow_nil ?_
 refine Cw_ret ?_
 obtain ey0 := inj1 H
 subst y0
 refine ⟨(by first | exact .inl rfl | exact .inr rfl), [(sv v11)], ⟨(sv v11), _, rfl, rfl, rfl⟩, ?_⟩
 refine Shift.pull (.there .here) ?_
 refine Shift.rem (.there .here) ?_
 refine Shift.done ?_
 exact ⟨v11, rfl, rfl, hs14⟩

set_option maxHeartbeats 1000000 in
theorem c_M_152z (p0 : Int) (p1 : Case) (p2 : Result) (bp3 : Nat) (p3 : List Int) (vp3 : SV) (z0_v : List Int) (H : M_152z p0 p1 p2 p3 = some z0_v) (K : Kp) (G : List Ent) (hp3 : Slr Ty.u64 K (sv vp3) p3) :
  Fc Try.prog 83 #[(.int .i64 p0), (.agg (Case.cells p1).toArray), (.agg (Result.cells p2).toArray), (.pointer (some ((⟨bp3, 0, none⟩ : Addr).add 0)))] K ((.blk bp3 32 [(sv vp3)]) :: (.tok 23 1 [(sv vp3)]) :: G) (fun v K' G' => ∃ (wz0_v : SV), v = (.tuple #[]) ∧ (.blk bp3 32 [(sv wz0_v)]) :: (.tok 23 1 [(sv wz0_v)]) :: G = G' ∧ Slr Ty.u64 K' (sv wz0_v) z0_v) := by
 refine Fc_body Try.func83 rfl Try.ntmps83 Try.results83 rfl ?_
 unfold M_152z at H
 refine Cw_seq ?_
 refine Cw_region ?_
 refine Ow_cons rfl (OpW_box (cs := (Case.cells p1)) rfl rfl rfl (fun b18 => ?_))
 refine Ow_cons rfl (OpW_box (cs := (Result.cells p2)) rfl rfl rfl (fun b19 => ?_))
 refine Ow_nil ?_
 refine Cw_join (fun env' K' G' => ∃ (t21 : Bool) (i22 : Int) (i23 : Int) (i24 : Int) (i25 : Int), [(3, (.pointer (some ((⟨bp3, 0, none⟩ : Addr).add 0)))), (6, (.pointer (some ((⟨b19, 0, none⟩ : Addr).add 0)))), (13, (.bool t21))] = env' ∧ K = K' ∧ (.blk bp3 32 [(sv vp3)]) :: (.blk b19 25 (Result.cells (Result.mk i22 i23 i24 p2.ok i25))) :: (.tok 23 1 [(sv vp3)]) :: G = G' ∧ M_106z p3 p2 t21 i22 i23 i24 i25 = some z0_v) ?_ ?_
 ·skip
  refine Cw_region ?_
  refine Ow_q rfl rfl rfl (Qt_fieldAddr (m := 0) rfl rfl rfl rfl rfl) ?_
  refine Ow_q rfl rfl rfl (Qt_load1 (v := (.bool p1.send)) rfl rfl rfl (Rdc.blk (.tail _ (.head _)) rfl)) ?_
  refine Ow_q rfl rfl rfl (Qt_not rfl) ?_
  refine Ow_q rfl rfl rfl (Qt_move rfl) ?_
  refine Ow_caseG rfl rfl rfl ?_ ?_
  ·intro h26
   have h26 := nt_t (h26)
   have H := iff_ (btf h26) H
   refine Ow_qw rfl rfl rfl rfl rfl rfl (Qt_fieldAddr (m := 3) rfl rfl rfl rfl rfl) ?_
   refine Ow_qw rfl rfl rfl rfl rfl rfl (Qt_load1 (v := (.bool p2.ok)) rfl rfl rfl (Rdc.blk (.head _) rfl)) ?_
   refine Ow_q rfl rfl rfl (Qt_pick_t rfl rfl) ?_
   refine Ow_nil ?_
   refine Shift.pull (.there (.there (.there .here))) ?_
   refine Shift.pull (.there .here) ?_
   refine Shift.pull (.there (.there (.there .here))) ?_
   refine Shift.rem (.there (.there (.there .here))) ?_
   refine Shift.done ?_
   exact ⟨[(3, (.pointer (some ((⟨bp3, 0, none⟩ : Addr).add 0)))), (6, (.pointer (some ((⟨b19, 0, none⟩ : Addr).add 0)))), (13, (.bool p2.ok))], ⟨rfl, rfl, rfl, trivial⟩, p2.ok, p2.kind, p2.case_, p2.value, p2.number, rfl, rfl, rfl, H⟩
  ·intro h26
   have h26 := nt_f (h26)
   have H := ift h26 H
   refine Ow_pass rfl rfl rfl rfl rfl rfl rfl ?_
   refine Ow_pass rfl rfl rfl rfl rfl rfl rfl ?_
   refine Ow_q rfl rfl rfl (Qt_pick_f rfl rfl) ?_
   refine Ow_nil ?_
   refine Shift.pull (.there (.there (.there .here))) ?_
   refine Shift.pull (.there .here) ?_
   refine Shift.pull (.there (.there (.there .here))) ?_
   refine Shift.rem (.there (.there (.there .here))) ?_
   refine Shift.done ?_
   exact ⟨[(3, (.pointer (some ((⟨bp3, 0, none⟩ : Addr).add 0)))), (6, (.pointer (some ((⟨b19, 0, none⟩ : Addr).add 0)))), (13, (.bool false))], ⟨rfl, rfl, rfl, trivial⟩, false, p2.kind, p2.case_, p2.value, p2.number, rfl, rfl, rfl, H⟩
 rintro _ _ _ - ⟨t21, i22, i23, i24, i25, rfl, rfl, rfl, H⟩
 unfold M_106z at H
 refine Cw_cond rfl ?_ ?_
 ·intro h27
  have H := ift h27 H
  refine Cw_region ?_
  refine Ow_q rfl rfl rfl (Qt_load1 (v := (sv vp3)) rfl rfl rfl (Rdc.blk (.head _) rfl)) ?_
  refine Ow_q rfl rfl rfl (Qt_fieldAddr (m := 2) rfl rfl rfl rfl rfl) ?_
  refine Ow_q rfl rfl rfl (Qt_load1 (v := (.int .u64 i24)) rfl rfl rfl (Rdc.blk (.tail _ (.head _)) rfl)) ?_
  have hR29 : RowR Ty.u64 K [[(.int .u64 i24)]] [i24] := RowR.cons rfl (RowR.nil)
  refine Ow_cons rfl (O_lit (T := Ty.u64) (rows := [[(.int .u64 i24)]]) (l := [i24]) rfl rfl rfl hR29 rfl rfl rfl rfl rfl rfl rfl rfl (fun v28 => ?_))
  obtain ⟨x30, hx31, H⟩ := bnd H
  refine Ow_cons rfl (O_appTok (T := Ty.u64) (bytes := 8) (q := 0) rfl rfl rfl hp3 (.tail _ (.tail _ (.tail _ (.head _)))) rfl (SrcT.row (.head _) hR29 rfl) hx31 rfl rfl rfl rfl rfl rfl rfl rfl (fun v32 K33 hK34 hs35 => ⟨_, (.there (.there (.there .here))), ?_⟩))
  refine Ow.shift (Shift.rem .here (Shift.done ?_))
  refine Ow_cons rfl (OpW_store (vs := [(sv v32)]) (all' := [(sv v32)]) rfl rfl rfl rfl rfl .here rfl rfl rfl ?_)
  refine Ow_nil ?_
  obtain ez0_v := inj1 H
  subst z0_v
  refine ⟨(by first | exact .inl rfl | exact .inr rfl), [], rfl, ?_⟩
  refine Shift.pull (.there (.there .here)) ?_
  refine Shift.pull (.there .here) ?_
  refine Shift.rem (.there (.there .here)) ?_
  refine Shift.done ?_
  exact ⟨v32, rfl, rfl, hs35⟩
 ·intro h27
  have H := iff_ (btf h27) H
  refine Cw_skip ?_
  obtain ez0_v := inj1 H
  subst z0_v
  refine ⟨(by first | exact .inl rfl | exact .inr rfl), [], rfl, ?_⟩
  refine Shift.pull (.there (.there .here)) ?_
  refine Shift.pull (.there .here) ?_
  refine Shift.rem (.there (.there .here)) ?_
  refine Shift.done ?_
  exact ⟨vp3, rfl, rfl, hp3⟩

set_option maxHeartbeats 1000000 in
theorem c_M_154z (p0 : List (List Op)) (vp0 : SV) (p1 : List Event) (vp1 : SV) (p2 : Int) (bc3_0 : Nat) (c3_0 : List Int) (vc3_0 : SV) (z0_v : List Int) (H : M_154z p0 p1 p2 c3_0 = some z0_v) (K : Kp) (G : List Ent) (hp0 : Slr (Ty.sl TyOp) K (sv vp0) p0) (hp1 : Slr TyEvent K (sv vp1) p1) (hc3_0 : Slr Ty.u64 K (sv vc3_0) c3_0) :
  Fc Try.prog 81 #[(sv vp0), (sv vp1), (.int .i64 p2), (.func (.func 83) #[] #[(.pointer (some ((⟨bc3_0, 0, none⟩ : Addr).add 0)))])] K ((.blk bc3_0 32 [(sv vc3_0)]) :: (.tok 23 1 [(sv vc3_0)]) :: G) (fun v K' G' => ∃ (wz0_v : SV), v = (.tuple #[]) ∧ (.blk bc3_0 32 [(sv wz0_v)]) :: (.tok 23 1 [(sv wz0_v)]) :: G = G' ∧ Slr Ty.u64 K' (sv wz0_v) z0_v) := by
 refine Fc_body Try.func81 rfl Try.ntmps81 Try.results81 rfl ?_
 unfold M_154z at H
 refine Cw_seq ?_
 refine Cw_region ?_
 refine Ow_q rfl rfl rfl (Qt_move rfl) ?_
 refine Ow_q rfl rfl rfl (Q_len (T := TyEvent) hp1 rfl rfl) ?_
 refine Ow_q rfl rfl rfl (Qt_move rfl) ?_
 refine Ow_nil ?_
 refine Cw_block ?_
 refine Cw_loopM (fun n223 env' K' G' => ∃ (i219 : Int) (v220 : SV) (l221 : List Int), [(0, (sv vp0)), (2, (.int .i64 p2)), (3, (.func (.func 83) #[] #[(.pointer (some ((⟨bc3_0, 0, none⟩ : Addr).add 0)))])), (14, (sv vp1)), (15, (.int .i64 (p1.length : Int))), (16, (.int .i64 i219))] = env' ∧ (.blk bc3_0 32 [(sv v220)]) :: (.tok 23 1 [(sv v220)]) :: G = G' ∧ lp2 (M_153z p0 p2 p1) n223 i219 l221 = some z0_v ∧ Slr Ty.u64 K' (sv v220) l221) BIG ?_ ?_
 ·skip
  refine Shift.pull (.there .here) ?_
  refine Shift.pull (.there .here) ?_
  refine Shift.done ?_
  exact ⟨[(0, (sv vp0)), (2, (.int .i64 p2)), (3, (.func (.func 83) #[] #[(.pointer (some ((⟨bc3_0, 0, none⟩ : Addr).add 0)))])), (14, (sv vp1)), (15, (.int .i64 (p1.length : Int))), (16, (.int .i64 0))], ⟨rfl, rfl, rfl, rfl, rfl, rfl, trivial⟩, 0, vc3_0, c3_0, rfl, rfl, H, hc3_0⟩
 rintro n223 _ K224 _ hK225 ⟨i219, v220, l221, rfl, rfl, H, hs222⟩
 obtain ⟨m226, k227, rfl, hkk228, H⟩ := lps2 H
 unfold M_153z at H
 refine Cw_seq ?_
 refine Cw_region ?_
 refine Ow_q rfl rfl rfl (Qt_cmp rfl rfl rfl) ?_
 refine Ow_nil ?_
 refine Cw_seq ?_
 refine Cw_cond rfl ?_ ?_
 ·intro h230
  have h230 := dcd_t (h230)
  have H := ift h230 H
  refine Cw_skip ?_
  refine Cw_join (fun env' K' G' => ∃ (v266 : SV) (l267 : List Int), [(0, (sv vp0)), (2, (.int .i64 p2)), (3, (.func (.func 83) #[] #[(.pointer (some ((⟨bc3_0, 0, none⟩ : Addr).add 0)))])), (14, (sv vp1)), (15, (.int .i64 (p1.length : Int))), (16, (.int .i64 i219))] = env' ∧ (.blk bc3_0 32 [(sv v266)]) :: (.tok 23 1 [(sv v266)]) :: G = G' ∧ M_17z p0 p2 p1 i219 k227 l267 = some z0_v ∧ Slr Ty.u64 K' (sv v266) l267) ?_ ?_
  ·skip
   refine Cw_block ?_
   refine Cw_seq ?_
   refine Cw_region ?_
   refine Ow_q rfl rfl rfl (Qt_move rfl) ?_
   obtain ⟨x269, hx270, H⟩ := bnd H
   have hs271 := (hp1).mono hK225
   obtain ⟨r272, hr273, hk274⟩ := Slr.at hs271 hx270
   obtain rfl := hr273
   refine Ow_q rfl rfl rfl (Q_ix (T := TyEvent) hs271 hx270 rfl rfl rfl rfl rfl) ?_
   refine Ow_q rfl rfl rfl (Qt_loadA (m := 8) (cs := (Event.cells x269)) rfl rfl rfl rfl ⟨rfl, Rdc.k hk274 rfl⟩) ?_
   refine Ow_cons rfl (OpW_alloc (cs := (Event.cells (Event.mk 0 0 false (Result.mk 0 0 0 false 0)))) rfl rfl rfl rfl (fun b275 => ?_))
   refine Ow_q rfl rfl rfl (Qt_assign rfl) ?_
   refine Ow_cons rfl (OpW_store (vs := (Event.cells x269)) (all' := (Event.cells x269)) rfl rfl rfl rfl rfl .here rfl rfl rfl ?_)
   refine Ow_nil ?_
   refine Cw_seq ?_
   refine Cw_region ?_
   refine Ow_q rfl rfl rfl (Qt_move rfl) ?_
   refine Ow_q rfl rfl rfl (Qt_loadA (m := 8) (cs := (Event.cells x269)) rfl rfl rfl rfl ⟨rfl, Rdc.blk (.head _) rfl⟩) ?_
   obtain ⟨x276, x277, hx278, H⟩ := bnd2 H
   have hs279 := (hp0).mono hK225
   refine Ow_cons rfl (OpW_call rfl Try.call111 rfl rfl (c_M_1z p0 vp0 x269 x276 x277 hx278 _ _ hs279) ?_)
   rintro _ _ _ - ⟨v280, v281, rfl, rfl, rfl, hs282, hs283⟩
   refine Ow_q rfl rfl rfl (Qt_move rfl) ?_
   refine Ow_q rfl rfl rfl (Qt_extract rfl rfl) ?_
   refine Ow_q rfl rfl rfl (Qt_extract rfl rfl) ?_
   refine Ow_cons rfl (OpW_alloc (cs := (Op.cells (Op.mk 0 0 0 0 0 [] []) nilS nilS)) rfl rfl rfl rfl (fun b284 => ?_))
   refine Ow_cons rfl (OpW_store (vs := (Op.cells x276 v280 v281)) (all' := (Op.cells x276 v280 v281)) rfl rfl rfl rfl rfl .here rfl rfl rfl ?_)
   refine Ow_q rfl rfl rfl (Qt_assign rfl) ?_
   refine Ow_nil ?_
   refine Cw_seq ?_
   refine Cw_join (fun env' K' G' => ∃ (t293 : Bool), [(0, (sv vp0)), (2, (.int .i64 p2)), (3, (.func (.func 83) #[] #[(.pointer (some ((⟨bc3_0, 0, none⟩ : Addr).add 0)))])), (8, (.int .i64 i219)), (9, (.pointer (some ((⟨b275, 0, none⟩ : Addr).add 0)))), (10, (.pointer (some ((⟨b284, 0, none⟩ : Addr).add 0)))), (14, (sv vp1)), (15, (.int .i64 (p1.length : Int))), (16, (.int .i64 i219)), (45, (.bool t293))] = env' ∧ K224 = K' ∧ (.blk bc3_0 32 [(sv v220)]) :: (.blk b284 38 (Op.cells x276 v280 v281)) :: (.blk b275 65 (Event.cells x269)) :: (.tok 23 1 [(sv v220)]) :: G = G' ∧ M_7z p0 p2 i219 p1 l221 x276 x269 k227 t293 = some z0_v) ?_ ?_
   ·skip
    refine Cw_region ?_
    refine Ow_q rfl rfl rfl (Qt_move rfl) ?_
    refine Ow_q rfl rfl rfl (Qt_not rfl) ?_
    refine Ow_q rfl rfl rfl (Qt_move rfl) ?_
    refine Ow_caseG rfl rfl rfl ?_ ?_
    ·intro h294
     have h294 := nt_t (h294)
     have H := iff_ (btf h294) H
     refine Ow_pass rfl rfl rfl rfl rfl rfl rfl ?_
     refine Ow_pass rfl rfl rfl rfl rfl rfl rfl ?_
     refine Ow_pass rfl rfl rfl rfl rfl rfl rfl ?_
     refine Ow_q rfl rfl rfl (Qt_pick_t rfl rfl) ?_
     refine Ow_q rfl rfl rfl (Qt_move rfl) ?_
     refine Ow_pass rfl rfl rfl rfl rfl rfl rfl ?_
     refine Ow_pass rfl rfl rfl rfl rfl rfl rfl ?_
     refine Ow_pass rfl rfl rfl rfl rfl rfl rfl ?_
     refine Ow_pass rfl rfl rfl rfl rfl rfl rfl ?_
     refine Ow_pass rfl rfl rfl rfl rfl rfl rfl ?_
     refine Ow_passU rfl rfl rfl rfl rfl ?_
     refine Ow_passU rfl rfl rfl rfl rfl ?_
     refine Ow_passU rfl rfl rfl rfl rfl ?_
     refine Ow_passU rfl rfl rfl rfl rfl ?_
     refine Ow_pass rfl rfl rfl rfl rfl rfl rfl ?_
     refine Ow_q rfl rfl rfl (Qt_pick_t rfl rfl) ?_
     refine Ow_nil ?_
     refine Shift.pull (.there (.there (.there .here))) ?_
     refine Shift.pull (.there (.there .here)) ?_
     refine Shift.pull (.there (.there .here)) ?_
     refine Shift.pull (.there (.there (.there .here))) ?_
     refine Shift.done ?_
     exact ⟨[(0, (sv vp0)), (2, (.int .i64 p2)), (3, (.func (.func 83) #[] #[(.pointer (some ((⟨bc3_0, 0, none⟩ : Addr).add 0)))])), (8, (.int .i64 i219)), (9, (.pointer (some ((⟨b275, 0, none⟩ : Addr).add 0)))), (10, (.pointer (some ((⟨b284, 0, none⟩ : Addr).add 0)))), (14, (sv vp1)), (15, (.int .i64 (p1.length : Int))), (16, (.int .i64 i219)), (45, (.bool true))], ⟨rfl, rfl, rfl, rfl, rfl, rfl, rfl, rfl, rfl, rfl, trivial⟩, true, rfl, rfl, rfl, H⟩
    ·intro h294
     have h294 := nt_f (h294)
     have H := ift h294 H
     refine Ow_qw rfl rfl rfl rfl rfl rfl (Qt_fieldAddr (m := 2) rfl rfl rfl rfl rfl) ?_
     refine Ow_qw rfl rfl rfl rfl rfl rfl (Qt_load1 (v := (.bool x269.ret)) rfl rfl rfl (Rdc.blk (.tail _ (.head _)) rfl)) ?_
     refine Ow_qw rfl rfl rfl rfl rfl rfl (Qt_not rfl) ?_
     refine Ow_q rfl rfl rfl (Qt_pick_f rfl rfl) ?_
     refine Ow_q rfl rfl rfl (Qt_move rfl) ?_
     refine Ow_caseG rfl rfl rfl ?_ ?_
     ·intro h295
      have h295 := nt_t (h295)
      have H := iff_ (btf h295) H
      refine Ow_pass rfl rfl rfl rfl rfl rfl rfl ?_
      refine Ow_pass rfl rfl rfl rfl rfl rfl rfl ?_
      refine Ow_pass rfl rfl rfl rfl rfl rfl rfl ?_
      refine Ow_pass rfl rfl rfl rfl rfl rfl rfl ?_
      refine Ow_pass rfl rfl rfl rfl rfl rfl rfl ?_
      refine Ow_passU rfl rfl rfl rfl rfl ?_
      refine Ow_passU rfl rfl rfl rfl rfl ?_
      refine Ow_passU rfl rfl rfl rfl rfl ?_
      refine Ow_passU rfl rfl rfl rfl rfl ?_
      refine Ow_pass rfl rfl rfl rfl rfl rfl rfl ?_
      refine Ow_q rfl rfl rfl (Qt_pick_t rfl rfl) ?_
      refine Ow_nil ?_
      refine Shift.pull (.there (.there (.there .here))) ?_
      refine Shift.pull (.there (.there .here)) ?_
      refine Shift.pull (.there (.there .here)) ?_
      refine Shift.pull (.there (.there (.there .here))) ?_
      refine Shift.done ?_
      exact ⟨[(0, (sv vp0)), (2, (.int .i64 p2)), (3, (.func (.func 83) #[] #[(.pointer (some ((⟨bc3_0, 0, none⟩ : Addr).add 0)))])), (8, (.int .i64 i219)), (9, (.pointer (some ((⟨b275, 0, none⟩ : Addr).add 0)))), (10, (.pointer (some ((⟨b284, 0, none⟩ : Addr).add 0)))), (14, (sv vp1)), (15, (.int .i64 (p1.length : Int))), (16, (.int .i64 i219)), (45, (.bool true))], ⟨rfl, rfl, rfl, rfl, rfl, rfl, rfl, rfl, rfl, rfl, trivial⟩, true, rfl, rfl, rfl, H⟩
     ·intro h295
      have h295 := nt_f (h295)
      have H := ift h295 H
      refine Ow_qw rfl rfl rfl rfl rfl rfl (Qt_fieldAddr (m := 3) rfl rfl rfl rfl rfl) ?_
      refine Ow_qw rfl rfl rfl rfl rfl rfl (Qt_fieldAddr (m := 3) rfl rfl rfl rfl rfl) ?_
      refine Ow_qw rfl rfl rfl rfl rfl rfl (Qt_load1 (v := (.int .i64 x269.result.kind)) rfl rfl rfl (Rdc.blk (.tail _ (.head _)) rfl)) ?_
      refine Ow_qw rfl rfl rfl rfl rfl rfl (Qt_cmp rfl rfl rfl) ?_
      refine Ow_qw rfl rfl rfl rfl rfl rfl (Qt_move rfl) ?_
      refine Ow_caseG rfl rfl rfl ?_ ?_
      ·intro h296
       have h296 := dcd_f (nt_t (h296))
       have H := iff_ h296 H
       refine Ow_qw rfl rfl rfl rfl rfl rfl (Qt_fieldAddr (m := 3) rfl rfl rfl rfl rfl) ?_
       refine Ow_qw rfl rfl rfl rfl rfl rfl (Qt_fieldAddr (m := 3) rfl rfl rfl rfl rfl) ?_
       refine Ow_qw rfl rfl rfl rfl rfl rfl (Qt_load1 (v := (.int .i64 x269.result.kind)) rfl rfl rfl (Rdc.blk (.tail _ (.head _)) rfl)) ?_
       refine Ow_qw rfl rfl rfl rfl rfl rfl (Qt_cmp rfl rfl rfl) ?_
       refine Ow_qw rfl rfl rfl rfl rfl rfl (Qt_pick_t rfl rfl) ?_
       refine Ow_q rfl rfl rfl (Qt_pick_f rfl rfl) ?_
       refine Ow_nil ?_
       refine Shift.pull (.there (.there (.there .here))) ?_
       refine Shift.pull (.there (.there .here)) ?_
       refine Shift.pull (.there (.there .here)) ?_
       refine Shift.pull (.there (.there (.there .here))) ?_
       refine Shift.done ?_
       exact ⟨[(0, (sv vp0)), (2, (.int .i64 p2)), (3, (.func (.func 83) #[] #[(.pointer (some ((⟨bc3_0, 0, none⟩ : Addr).add 0)))])), (8, (.int .i64 i219)), (9, (.pointer (some ((⟨b275, 0, none⟩ : Addr).add 0)))), (10, (.pointer (some ((⟨b284, 0, none⟩ : Addr).add 0)))), (14, (sv vp1)), (15, (.int .i64 (p1.length : Int))), (16, (.int .i64 i219)), (45, (.bool (!(dcd (x269.result.kind = 2)))))], ⟨rfl, rfl, rfl, rfl, rfl, rfl, rfl, rfl, rfl, rfl, trivial⟩, (!(dcd (x269.result.kind = 2))), rfl, rfl, rfl, H⟩
      ·intro h296
       have h296 := dcd_t (nt_f (h296))
       have H := ift h296 H
       refine Ow_pass rfl rfl rfl rfl rfl rfl rfl ?_
       refine Ow_pass rfl rfl rfl rfl rfl rfl rfl ?_
       refine Ow_pass rfl rfl rfl rfl rfl rfl rfl ?_
       refine Ow_pass rfl rfl rfl rfl rfl rfl rfl ?_
       refine Ow_qw rfl rfl rfl rfl rfl rfl (Qt_pick_f rfl rfl) ?_
       refine Ow_q rfl rfl rfl (Qt_pick_f rfl rfl) ?_
       refine Ow_nil ?_
       refine Shift.pull (.there (.there (.there .here))) ?_
       refine Shift.pull (.there (.there .here)) ?_
       refine Shift.pull (.there (.there .here)) ?_
       refine Shift.pull (.there (.there (.there .here))) ?_
       refine Shift.done ?_
       exact ⟨[(0, (sv vp0)), (2, (.int .i64 p2)), (3, (.func (.func 83) #[] #[(.pointer (some ((⟨bc3_0, 0, none⟩ : Addr).add 0)))])), (8, (.int .i64 i219)), (9, (.pointer (some ((⟨b275, 0, none⟩ : Addr).add 0)))), (10, (.pointer (some ((⟨b284, 0, none⟩ : Addr).add 0)))), (14, (sv vp1)), (15, (.int .i64 (p1.length : Int))), (16, (.int .i64 i219)), (45, (.bool false))], ⟨rfl, rfl, rfl, rfl, rfl, rfl, rfl, rfl, rfl, rfl, trivial⟩, false, rfl, rfl, rfl, H⟩
   rintro _ _ _ - ⟨t293, rfl, rfl, rfl, H⟩
   unfold M_7z at H
   refine Cw_cond rfl ?_ ?_
   ·intro h297
    have H := ift h297 H
    refine Cw_exit ?_
    refine Shift.pull (.there (.there (.there .here))) ?_
    refine Shift.pull (.there .here) ?_
    refine Shift.rem (.there (.there .here)) ?_
    refine Shift.rem (.there (.there .here)) ?_
    refine Shift.done ?_
    exact ⟨[(0, (sv vp0)), (2, (.int .i64 p2)), (3, (.func (.func 83) #[] #[(.pointer (some ((⟨bc3_0, 0, none⟩ : Addr).add 0)))])), (14, (sv vp1)), (15, (.int .i64 (p1.length : Int))), (16, (.int .i64 i219))], ⟨rfl, rfl, rfl, rfl, rfl, rfl, trivial⟩, v220, l221, rfl, rfl, H, hs222⟩
   ·intro h297
    have H := iff_ (btf h297) H
    refine Cw_skip ?_
    refine Cw_seq ?_
    refine Cw_region ?_
    refine Ow_q rfl rfl rfl (Qt_loadA (m := 7) (cs := (Op.cells x276 v280 v281)) rfl rfl rfl rfl ⟨rfl, Rdc.blk (.tail _ (.head _)) rfl⟩) ?_
    refine Ow_q rfl rfl rfl (Qt_fieldAddr (m := 3) rfl rfl rfl rfl rfl) ?_
    refine Ow_q rfl rfl rfl (Qt_loadA (m := 5) (cs := (Result.cells x269.result)) rfl rfl rfl rfl ⟨rfl, Rdc.blk (.tail _ (.tail _ (.head _))) rfl⟩) ?_
    obtain ⟨x298, x299, hx300, H⟩ := bnd2 H
    refine Ow_cons rfl (OpW_call rfl Try.call112 rfl rfl (c_M_9z x276 v280 v281 x269.result x298 x299 hx300 _ _ hs282 hs283) ?_)
    rintro _ _ _ - ⟨rfl, rfl, rfl⟩
    refine Ow_q rfl rfl rfl (Qt_move rfl) ?_
    refine Ow_q rfl rfl rfl (Qt_extract rfl rfl) ?_
    refine Ow_q rfl rfl rfl (Qt_extract rfl rfl) ?_
    refine Ow_cons rfl (OpW_alloc (cs := (Case.cells (Case.mk false 0 0))) rfl rfl rfl rfl (fun b301 => ?_))
    refine Ow_cons rfl (OpW_store (vs := (Case.cells x298)) (all' := (Case.cells x298)) rfl rfl rfl rfl rfl .here rfl rfl rfl ?_)
    refine Ow_q rfl rfl rfl (Qt_assign rfl) ?_
    refine Ow_nil ?_
    refine Cw_join (fun env' K' G' => ∃ (t304 : Bool), [(0, (sv vp0)), (2, (.int .i64 p2)), (3, (.func (.func 83) #[] #[(.pointer (some ((⟨bc3_0, 0, none⟩ : Addr).add 0)))])), (8, (.int .i64 i219)), (9, (.pointer (some ((⟨b275, 0, none⟩ : Addr).add 0)))), (12, (.pointer (some ((⟨b301, 0, none⟩ : Addr).add 0)))), (14, (sv vp1)), (15, (.int .i64 (p1.length : Int))), (16, (.int .i64 i219)), (68, (.bool t304))] = env' ∧ K224 = K' ∧ (.blk bc3_0 32 [(sv v220)]) :: (.blk b301 73 (Case.cells x298)) :: (.blk b275 65 (Event.cells x269)) :: (.tok 23 1 [(sv v220)]) :: G = G' ∧ M_30z p0 p2 i219 p1 l221 x298 x269 k227 t304 = some z0_v) ?_ ?_
    ·skip
     refine Cw_region ?_
     refine Ow_q rfl rfl rfl (Qt_move rfl) ?_
     refine Ow_q rfl rfl rfl (Qt_move rfl) ?_
     refine Ow_caseG rfl rfl rfl ?_ ?_
     ·intro h305
      have H := ift h305 H
      refine Ow_qw rfl rfl rfl rfl rfl rfl (Qt_fieldAddr (m := 1) rfl rfl rfl rfl rfl) ?_
      refine Ow_qw rfl rfl rfl rfl rfl rfl (Qt_load1 (v := (.int .i64 x298.channel)) rfl rfl rfl (Rdc.blk (.head _) rfl)) ?_
      refine Ow_qw rfl rfl rfl rfl rfl rfl (Qt_move rfl) ?_
      refine Ow_qw rfl rfl rfl rfl rfl rfl (Qt_cmp rfl rfl rfl) ?_
      refine Ow_q rfl rfl rfl (Qt_pick_t rfl rfl) ?_
      refine Ow_q rfl rfl rfl (Qt_move rfl) ?_
      refine Ow_caseG rfl rfl rfl ?_ ?_
      ·intro h306
       have h306 := dcd_t (h306)
       have H := ift h306 H
       refine Ow_qw rfl rfl rfl rfl rfl rfl (Qt_fieldAddr (m := 0) rfl rfl rfl rfl rfl) ?_
       refine Ow_qw rfl rfl rfl rfl rfl rfl (Qt_load1 (v := (.bool x298.send)) rfl rfl rfl (Rdc.blk (.head _) rfl)) ?_
       refine Ow_qw rfl rfl rfl rfl rfl rfl (Qt_fieldAddr (m := 3) rfl rfl rfl rfl rfl) ?_
       refine Ow_qw rfl rfl rfl rfl rfl rfl (Qt_fieldAddr (m := 3) rfl rfl rfl rfl rfl) ?_
       refine Ow_qw rfl rfl rfl rfl rfl rfl (Qt_load1 (v := (.int .i64 x269.result.kind)) rfl rfl rfl (Rdc.blk (.tail _ (.tail _ (.tail _ (.head _)))) rfl)) ?_
       refine Ow_qw rfl rfl rfl rfl rfl rfl (Qt_cmp rfl rfl rfl) ?_
       refine Ow_qw rfl rfl rfl rfl rfl rfl (Qt_eqB rfl rfl rfl) ?_
       refine Ow_q rfl rfl rfl (Qt_pick_t rfl rfl) ?_
       refine Ow_nil ?_
       refine Shift.pull (.there (.there (.there (.there .here)))) ?_
       refine Shift.pull (.there (.there (.there (.there .here)))) ?_
       refine Shift.pull (.there (.there .here)) ?_
       refine Shift.pull (.there (.there (.there .here))) ?_
       refine Shift.rem (.there (.there (.there (.there .here)))) ?_
       refine Shift.done ?_
       exact ⟨[(0, (sv vp0)), (2, (.int .i64 p2)), (3, (.func (.func 83) #[] #[(.pointer (some ((⟨bc3_0, 0, none⟩ : Addr).add 0)))])), (8, (.int .i64 i219)), (9, (.pointer (some ((⟨b275, 0, none⟩ : Addr).add 0)))), (12, (.pointer (some ((⟨b301, 0, none⟩ : Addr).add 0)))), (14, (sv vp1)), (15, (.int .i64 (p1.length : Int))), (16, (.int .i64 i219)), (68, (.bool (x298.send == (dcd (x269.result.kind = 1)))))], ⟨rfl, rfl, rfl, rfl, rfl, rfl, rfl, rfl, rfl, rfl, trivial⟩, (x298.send == (dcd (x269.result.kind = 1))), rfl, rfl, rfl, H⟩
      ·intro h306
       have h306 := dcd_f (h306)
       have H := iff_ h306 H
       refine Ow_pass rfl rfl rfl rfl rfl rfl rfl ?_
       refine Ow_pass rfl rfl rfl rfl rfl rfl rfl ?_
       refine Ow_pass rfl rfl rfl rfl rfl rfl rfl ?_
       refine Ow_pass rfl rfl rfl rfl rfl rfl rfl ?_
       refine Ow_pass rfl rfl rfl rfl rfl rfl rfl ?_
       refine Ow_pass rfl rfl rfl rfl rfl rfl rfl ?_
       refine Ow_pass rfl rfl rfl rfl rfl rfl rfl ?_
       refine Ow_q rfl rfl rfl (Qt_pick_f rfl rfl) ?_
       refine Ow_nil ?_
       refine Shift.pull (.there (.there (.there (.there .here)))) ?_
       refine Shift.pull (.there (.there (.there (.there .here)))) ?_
       refine Shift.pull (.there (.there .here)) ?_
       refine Shift.pull (.there (.there (.there .here))) ?_
       refine Shift.rem (.there (.there (.there (.there .here)))) ?_
       refine Shift.done ?_
       exact ⟨[(0, (sv vp0)), (2, (.int .i64 p2)), (3, (.func (.func 83) #[] #[(.pointer (some ((⟨bc3_0, 0, none⟩ : Addr).add 0)))])), (8, (.int .i64 i219)), (9, (.pointer (some ((⟨b275, 0, none⟩ : Addr).add 0)))), (12, (.pointer (some ((⟨b301, 0, none⟩ : Addr).add 0)))), (14, (sv vp1)), (15, (.int .i64 (p1.length : Int))), (16, (.int .i64 i219)), (68, (.bool false))], ⟨rfl, rfl, rfl, rfl, rfl, rfl, rfl, rfl, rfl, rfl, trivial⟩, false, rfl, rfl, rfl, H⟩
     ·intro h305
      have H := iff_ (btf h305) H
      refine Ow_pass rfl rfl rfl rfl rfl rfl rfl ?_
      refine Ow_pass rfl rfl rfl rfl rfl rfl rfl ?_
      refine Ow_pass rfl rfl rfl rfl rfl rfl rfl ?_
      refine Ow_pass rfl rfl rfl rfl rfl rfl rfl ?_
      refine Ow_q rfl rfl rfl (Qt_pick_f rfl rfl) ?_
      refine Ow_q rfl rfl rfl (Qt_move rfl) ?_
      refine Ow_pass rfl rfl rfl rfl rfl rfl rfl ?_
      refine Ow_pass rfl rfl rfl rfl rfl rfl rfl ?_
      refine Ow_pass rfl rfl rfl rfl rfl rfl rfl ?_
      refine Ow_pass rfl rfl rfl rfl rfl rfl rfl ?_
      refine Ow_pass rfl rfl rfl rfl rfl rfl rfl ?_
      refine Ow_pass rfl rfl rfl rfl rfl rfl rfl ?_
      refine Ow_pass rfl rfl rfl rfl rfl rfl rfl ?_
      refine Ow_q rfl rfl rfl (Qt_pick_f rfl rfl) ?_
      refine Ow_nil ?_
      refine Shift.pull (.there (.there (.there (.there .here)))) ?_
      refine Shift.pull (.there (.there (.there (.there .here)))) ?_
      refine Shift.pull (.there (.there .here)) ?_
      refine Shift.pull (.there (.there (.there .here))) ?_
      refine Shift.rem (.there (.there (.there (.there .here)))) ?_
      refine Shift.done ?_
      exact ⟨[(0, (sv vp0)), (2, (.int .i64 p2)), (3, (.func (.func 83) #[] #[(.pointer (some ((⟨bc3_0, 0, none⟩ : Addr).add 0)))])), (8, (.int .i64 i219)), (9, (.pointer (some ((⟨b275, 0, none⟩ : Addr).add 0)))), (12, (.pointer (some ((⟨b301, 0, none⟩ : Addr).add 0)))), (14, (sv vp1)), (15, (.int .i64 (p1.length : Int))), (16, (.int .i64 i219)), (68, (.bool false))], ⟨rfl, rfl, rfl, rfl, rfl, rfl, rfl, rfl, rfl, rfl, trivial⟩, false, rfl, rfl, rfl, H⟩
    rintro _ _ _ - ⟨t304, rfl, rfl, rfl, H⟩
    unfold M_30z at H
    refine Cw_cond rfl ?_ ?_
    ·intro h307
     have H := ift h307 H
     refine Cw_region ?_
     refine Ow_q rfl rfl rfl (Qt_move rfl) ?_
     refine Ow_q rfl rfl rfl (Qt_move rfl) ?_
     refine Ow_q rfl rfl rfl (Qt_loadA (m := 3) (cs := (Case.cells x298)) rfl rfl rfl rfl ⟨rfl, Rdc.blk (.tail _ (.head _)) rfl⟩) ?_
     refine Ow_q rfl rfl rfl (Qt_fieldAddr (m := 3) rfl rfl rfl rfl rfl) ?_
     refine Ow_q rfl rfl rfl (Qt_loadA (m := 5) (cs := (Result.cells x269.result)) rfl rfl rfl rfl ⟨rfl, Rdc.blk (.tail _ (.tail _ (.head _))) rfl⟩) ?_
     obtain ⟨x308, hx309, H⟩ := bnd H
     refine Ow.shift (Shift.pull (.there (.there (.there .here))) (Shift.done ?_))
     refine Ow.shift (Shift.pull (.there .here) (Shift.done ?_))
     refine Ow_cons rfl (OpW_call rfl Try.call83 rfl rfl (c_M_152z i219 x298 x269.result bc3_0 l221 v220 x308 hx309 _ _ hs222) ?_)
     rintro _ K311 _ hK312 ⟨v310, rfl, rfl, hs313⟩
     refine Ow_nil ?_
     refine Shift.pull (.there .here) ?_
     refine Shift.pull (.there .here) ?_
     refine Shift.rem (.there (.there .here)) ?_
     refine Shift.rem (.there (.there .here)) ?_
     refine Shift.done ?_
     exact ⟨[(0, (sv vp0)), (2, (.int .i64 p2)), (3, (.func (.func 83) #[] #[(.pointer (some ((⟨bc3_0, 0, none⟩ : Addr).add 0)))])), (14, (sv vp1)), (15, (.int .i64 (p1.length : Int))), (16, (.int .i64 i219))], ⟨rfl, rfl, rfl, rfl, rfl, rfl, trivial⟩, v310, x308, rfl, rfl, H, hs313⟩
    ·intro h307
     have H := iff_ (btf h307) H
     refine Cw_skip ?_
     refine Shift.pull (.there (.there (.there .here))) ?_
     refine Shift.pull (.there .here) ?_
     refine Shift.rem (.there (.there .here)) ?_
     refine Shift.rem (.there (.there .here)) ?_
     refine Shift.done ?_
     exact ⟨[(0, (sv vp0)), (2, (.int .i64 p2)), (3, (.func (.func 83) #[] #[(.pointer (some ((⟨bc3_0, 0, none⟩ : Addr).add 0)))])), (14, (sv vp1)), (15, (.int .i64 (p1.length : Int))), (16, (.int .i64 i219))], ⟨rfl, rfl, rfl, rfl, rfl, rfl, trivial⟩, v220, l221, rfl, rfl, H, hs222⟩
  rintro _ K314 _ hK315 ⟨v266, l267, rfl, rfl, H, hs268⟩
  unfold M_17z at H
  refine Cw_region ?_
  refine Ow_q rfl rfl rfl (Qt_arith (e := wI (i219 + 1)) rfl rfl rfl rfl) ?_
  refine Ow_q rfl rfl rfl (Qt_move rfl) ?_
  refine Ow_nil ?_
  refine Shift.pull (.there .here) ?_
  refine Shift.pull (.there .here) ?_
  refine Shift.done ?_
  exact ⟨[(0, (sv vp0)), (2, (.int .i64 p2)), (3, (.func (.func 83) #[] #[(.pointer (some ((⟨bc3_0, 0, none⟩ : Addr).add 0)))])), (14, (sv vp1)), (15, (.int .i64 (p1.length : Int))), (16, (.int .i64 (wI (i219 + 1))))], ⟨rfl, rfl, rfl, rfl, rfl, rfl, trivial⟩, _, Nat.lt_succ_self _, (wI (i219 + 1)), v266, l267, rfl, rfl, (hkk228 ▸ H), hs268⟩
 ·intro h230
  have h230 := dcd_f (h230)
  have H := iff_ h230 H
  refine Cw_exit ?_
  obtain ez0_v := inj1 H
  subst z0_v
  refine ⟨(by first | exact .inl rfl | exact .inr rfl), [], rfl, ?_⟩
  refine Shift.pull (.there .here) ?_
  refine Shift.pull (.there .here) ?_
  refine Shift.done ?_
  exact ⟨v220, rfl, rfl, hs222⟩

set_option maxHeartbeats 1000000 in
theorem c_M_107z (p0 : List (List Op)) (vp0 : SV) (p1 : List Event) (vp1 : SV) (p2 : Int) (y0 : List Int) (H : M_107z p0 p1 p2 = some y0) (K : Kp) (G : List Ent) (hp0 : Slr (Ty.sl TyOp) K (sv vp0) p0) (hp1 : Slr TyEvent K (sv vp1) p1) :
  Fc Try.prog 39 #[(sv vp0), (sv vp1), (.int .i64 p2)] K (G) (fun v K' G' => ∃ (wy0 : SV), v = (sv wy0) ∧ (.tok 23 1 [(sv wy0)]) :: G = G' ∧ Slr Ty.u64 K' (sv wy0) y0) := by
 refine Fc_body Try.func39 rfl Try.ntmps39 Try.results39 rfl ?_
 unfold M_107z at H
 refine Cw_seq ?_
 refine Cw_region ?_
 refine Ow_q rfl rfl rfl (Qt_assign rfl) ?_
 refine Ow_nil ?_
 refine Cw_seq ?_
 refine Cw_region ?_
 refine Ow_cons rfl (OpW_alloc (cs := [(sv nilS)]) rfl rfl rfl rfl (fun b8 => ?_))
 refine Ow_nil ?_
 refine Cw_seq ?_
 refine Cw_region ?_
 refine Ow_q rfl rfl rfl (Qt_move rfl) ?_
 refine Ow_q rfl rfl rfl (Qt_move rfl) ?_
 refine Ow_q rfl rfl rfl (Qt_move rfl) ?_
 refine Ow_q rfl rfl rfl (Qt_makeFunc rfl rfl) ?_
 obtain ⟨x9, hx10, H⟩ := bnd H
 refine Ow.shift (Shift.nilTok1 23 1 (Shift.done ?_))
 refine Ow.shift (Shift.pull (.there .here) (Shift.done ?_))
 refine Ow_cons rfl (OpW_call rfl Try.call81 rfl rfl (c_M_154z p0 vp0 p1 vp1 p2 b8 ([] : List Int) nilS x9 hx10 _ _ hp0 hp1 (Slr.nil Ty.u64 _)) ?_)
 rintro _ K12 _ hK13 ⟨v11, rfl, rfl, hs14⟩
 refine Ow_nil ?_
 refine Cw_seq ?_
 refine Cw_region ?_
 refine Ow_q rfl rfl rfl (Qt_load1 (v := (sv v11)) rfl rfl rfl (Rdc.blk (.head _) rfl)) ?_
 refine Ow_q rfl rfl rfl (Qt_assign rfl) ?_
 refine Ow_nil ?_
 refine Cw_ret ?_
 obtain ey0 := inj1 H
 subst y0
 refine ⟨(by first | exact .inl rfl | exact .inr rfl), [(sv v11)], ⟨(sv v11), _, rfl, rfl, rfl⟩, ?_⟩
 refine Shift.pull (.there .here) ?_
 refine Shift.rem (.there .here) ?_
 refine Shift.done ?_
 exact ⟨v11, rfl, rfl, hs14⟩



end Go.Hx
