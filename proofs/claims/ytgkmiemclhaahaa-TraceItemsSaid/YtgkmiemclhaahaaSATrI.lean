/- Contracts of functions, walked: printed by program. -/
import Derived.Test.YtgkmiemclhaahaaProg
import Derived.Test.YtgkmiemclhaahaaGhlTyped
import Derived.Test.YtgkmiemclhaahaaSABase
import Derived.Test.YtgkmiemclhaahaaSATrA
namespace Go.Ghl
open Go.Proofs
set_option linter.unusedSimpArgs false
set_option linter.unusedVariables false

theorem c_item (th : Int) (a : Access) (b : Answer) (K : Kp) (G : List Ent)  :
    Fc Try.prog 21 #[(.int .i64 th), (Access.val a), (Answer.val b)] K G (fun v K' G' => v = Item.val (Item.mk th a b.value b.ok) ∧ K' = K ∧ G' = G) := by
  refine Fc_of Try.func21 rfl Try.ntmps21 Try.results21 rfl ?_
  refine Cw_seq ?_
  refine Cw_region ?_
  refine Ow_cons rfl (OpW_box (cs := [(.int .i64 a.kind), (.int .i64 a.address), (.int .u64 a.old), (.int .u64 a.new), (.int .i64 a.until_)]) rfl rfl rfl (fun b1 => ?_))
  refine Ow_cons rfl (OpW_box (cs := [(.int .u64 b.value), (.bool b.ok), (.bool b.late), (.slice b.list.A b.list.l.length b.list.cp)]) rfl rfl rfl (fun b2 => ?_))
  refine Ow_cons rfl (OpW_alloc (cs := [(.int .i64 0), (.int .i64 0), (.int .i64 0), (.int .u64 0), (.int .u64 0), (.int .i64 0), (.int .u64 0), (.bool false)]) rfl rfl rfl rfl (fun b3 => ?_))
  refine Ow_nil ?_
  refine Cw_seq ?_
  refine Cw_region ?_
  refine Ow_q rfl rfl rfl (Qt_move rfl) ?_
  refine Ow_q rfl rfl rfl (Qt_loadA (m := 5) (cs := Access.cells a) rfl rfl rfl rfl ⟨rfl, Rdc.blk (.tail _ (.tail _ (.head _))) rfl⟩) ?_
  refine Ow_q rfl rfl rfl (Qt_fieldAddr (m := 0) rfl rfl rfl rfl rfl) ?_
  refine Ow_q rfl rfl rfl (Qt_load1 (v := (.int .u64 b.value)) rfl rfl rfl (Rdc.blk (.tail _ (.head _)) rfl)) ?_
  refine Ow_q rfl rfl rfl (Qt_fieldAddr (m := 1) rfl rfl rfl rfl rfl) ?_
  refine Ow_q rfl rfl rfl (Qt_load1 (v := (.bool b.ok)) rfl rfl rfl (Rdc.blk (.tail _ (.head _)) rfl)) ?_
  refine Ow_q rfl rfl rfl (Qt_build (cs := Item.cells (Item.mk th a b.value b.ok)) rfl rfl rfl rfl rfl rfl) ?_
  refine Ow_cons rfl (OpW_store (vs := [(.int .i64 th), (.int .i64 a.kind), (.int .i64 a.address), (.int .u64 a.old), (.int .u64 a.new), (.int .i64 a.until_), (.int .u64 b.value), (.bool b.ok)]) (all' := [(.int .i64 th), (.int .i64 a.kind), (.int .i64 a.address), (.int .u64 a.old), (.int .u64 a.new), (.int .i64 a.until_), (.int .u64 b.value), (.bool b.ok)]) rfl rfl rfl rfl rfl .here rfl rfl rfl ?_)
  refine Ow_nil ?_
  refine Cw_ret ?_
  refine ⟨(by first | exact .inl rfl | exact .inr rfl), [(Item.val (Item.mk th a b.value b.ok))], G, ⟨(Item.val (Item.mk th a b.value b.ok)), _, rfl, ⟨_, 8, Item.cells (Item.mk th a b.value b.ok), rfl, rfl, rfl, rfl, ⟨rfl, Rdc.blk (.head _) rfl⟩, rfl⟩, rfl⟩, .cons _ (.cons _ (.cons _ (.refl _))), ?_⟩
  exact ⟨rfl, rfl, rfl⟩

theorem c_itemR (th : Int) (a : Access) (b : Answer) (K : Kp) (G : List Ent)  :
    Fc Try.prog 22 #[(.int .i64 th), (Access.val a), (Answer.val b)] K G (fun v K' G' => v = Item.val (Item.mk th a b.value b.ok) ∧ K' = K ∧ G' = G) := by
  refine Fc_of Try.func22 rfl Try.ntmps22 Try.results22 rfl ?_
  refine Cw_seq ?_
  refine Cw_region ?_
  refine Ow_cons rfl (OpW_box (cs := [(.int .i64 a.kind), (.int .i64 a.address), (.int .u64 a.old), (.int .u64 a.new), (.int .i64 a.until_)]) rfl rfl rfl (fun b1 => ?_))
  refine Ow_cons rfl (OpW_box (cs := [(.int .u64 b.value), (.bool b.ok), (.bool b.late), (.slice b.list.A b.list.l.length b.list.cp)]) rfl rfl rfl (fun b2 => ?_))
  refine Ow_cons rfl (OpW_alloc (cs := [(.int .i64 0), (.int .i64 0), (.int .i64 0), (.int .u64 0), (.int .u64 0), (.int .i64 0), (.int .u64 0), (.bool false)]) rfl rfl rfl rfl (fun b3 => ?_))
  refine Ow_nil ?_
  refine Cw_seq ?_
  refine Cw_region ?_
  refine Ow_q rfl rfl rfl (Qt_move rfl) ?_
  refine Ow_q rfl rfl rfl (Qt_loadA (m := 5) (cs := Access.cells a) rfl rfl rfl rfl ⟨rfl, Rdc.blk (.tail _ (.tail _ (.head _))) rfl⟩) ?_
  refine Ow_q rfl rfl rfl (Qt_fieldAddr (m := 0) rfl rfl rfl rfl rfl) ?_
  refine Ow_q rfl rfl rfl (Qt_load1 (v := (.int .u64 b.value)) rfl rfl rfl (Rdc.blk (.tail _ (.head _)) rfl)) ?_
  refine Ow_q rfl rfl rfl (Qt_fieldAddr (m := 1) rfl rfl rfl rfl rfl) ?_
  refine Ow_q rfl rfl rfl (Qt_load1 (v := (.bool b.ok)) rfl rfl rfl (Rdc.blk (.tail _ (.head _)) rfl)) ?_
  refine Ow_q rfl rfl rfl (Qt_build (cs := Item.cells (Item.mk th a b.value b.ok)) rfl rfl rfl rfl rfl rfl) ?_
  refine Ow_cons rfl (OpW_store (vs := [(.int .i64 th), (.int .i64 a.kind), (.int .i64 a.address), (.int .u64 a.old), (.int .u64 a.new), (.int .i64 a.until_), (.int .u64 b.value), (.bool b.ok)]) (all' := [(.int .i64 th), (.int .i64 a.kind), (.int .i64 a.address), (.int .u64 a.old), (.int .u64 a.new), (.int .i64 a.until_), (.int .u64 b.value), (.bool b.ok)]) rfl rfl rfl rfl rfl .here rfl rfl rfl ?_)
  refine Ow_nil ?_
  refine Cw_ret ?_
  refine ⟨(by first | exact .inl rfl | exact .inr rfl), [(Item.val (Item.mk th a b.value b.ok))], G, ⟨(Item.val (Item.mk th a b.value b.ok)), _, rfl, ⟨_, 8, Item.cells (Item.mk th a b.value b.ok), rfl, rfl, rfl, rfl, ⟨rfl, Rdc.blk (.head _) rfl⟩, rfl⟩, rfl⟩, .cons _ (.cons _ (.cons _ (.refl _))), ?_⟩
  exact ⟨rfl, rfl, rfl⟩

set_option maxHeartbeats 1000000 in
theorem c_traceItems (raw : Item) (a : Access) (b : Answer) (th : Int) (A : Option Addr) (cp : Nat) (cl : List UInt8) (K : Kp) (G : List Ent) (hb : AnsOk K b) (hcl : Sl K (.slice A cl.length cp) 1 (cl.map u8c)) :
    Fc Try.prog 5 #[(Item.val raw), (Access.val a), (Answer.val b), (.int .i64 th), (.slice A cl.length cp)] K G (fun v K' G' => v = .bool true) := by
  refine Fc_of Try.func5 rfl Try.ntmps5 Try.results5 rfl ?_
  refine Cw_seq ?_
  refine Cw_region ?_
  refine Ow_cons rfl (OpW_box (cs := [(.int .i64 raw.thread), (.int .i64 raw.access.kind), (.int .i64 raw.access.address), (.int .u64 raw.access.old), (.int .u64 raw.access.new), (.int .i64 raw.access.until_), (.int .u64 raw.value), (.bool raw.ok)]) rfl rfl rfl (fun b1 => ?_))
  refine Ow_cons rfl (OpW_box (cs := [(.int .i64 a.kind), (.int .i64 a.address), (.int .u64 a.old), (.int .u64 a.new), (.int .i64 a.until_)]) rfl rfl rfl (fun b2 => ?_))
  refine Ow_cons rfl (OpW_box (cs := [(.int .u64 b.value), (.bool b.ok), (.bool b.late), (.slice b.list.A b.list.l.length b.list.cp)]) rfl rfl rfl (fun b3 => ?_))
  refine Ow_q rfl rfl rfl (Qt_assign rfl) ?_
  refine Ow_nil ?_
  refine Cw_seq ?_
  refine Cw_seq ?_
  refine Cw_region ?_
  refine Ow_cons rfl (OpW_callP (v0 := (.bool true)) rfl Try.call13 rfl rfl (c_awake6  _ _) ?_)
  refine Ow_q rfl rfl rfl (Qt_not rfl) ?_
  refine Ow_nil ?_
  refine Cw_cond_f rfl ?_
  refine Cw_skip ?_
  refine Cw_seq ?_
  refine Cw_seq ?_
  refine Cw_region_any [.blk b3 40 [(.int .u64 b.value), (.bool b.ok), (.bool b.late), (.slice b.list.A b.list.l.length b.list.cp)], .blk b2 24 [(.int .i64 a.kind), (.int .i64 a.address), (.int .u64 a.old), (.int .u64 a.new), (.int .i64 a.until_)], .blk b1 26 [(.int .i64 raw.thread), (.int .i64 raw.access.kind), (.int .i64 raw.access.address), (.int .u64 raw.access.old), (.int .u64 raw.access.new), (.int .i64 raw.access.until_), (.int .u64 raw.value), (.bool raw.ok)]] rfl (Inc.cons (.head _) (Inc.cons (.tail _ (.head _)) (Inc.cons (.tail _ (.tail _ (.head _))) Inc.nil))) ?_
  refine Aw_q 0 rfl (by kernel_rfl) (by kernel_rfl) (by kernel_rfl) rfl rfl rfl (Qt_fieldAddr (m := 3) rfl rfl rfl rfl rfl) ?_
  refine Aw_q 1 rfl (by kernel_rfl) (by kernel_rfl) (by kernel_rfl) rfl rfl rfl (Qt_load1 (v := (.slice b.list.A b.list.l.length b.list.cp)) rfl rfl rfl (Rdc.blk (.head _) rfl)) ?_
  refine Aw_q 2 rfl (by kernel_rfl) (by kernel_rfl) (by kernel_rfl) rfl rfl rfl (Qt_len rfl rfl) ?_
  refine Aw_q 3 rfl (by kernel_rfl) (by kernel_rfl) (by kernel_rfl) rfl rfl rfl (Qt_cmp rfl rfl rfl) ?_
  refine Aw_q 4 rfl (by kernel_rfl) (by kernel_rfl) (by kernel_rfl) rfl rfl rfl (Qt_move rfl) ?_
  refine Aw.case (d := 21) rfl ?_ ?_
  · intro h4
    have h4 := dcd_t (h4)
    refine Aw_pass 5 rfl (by kernel_rfl) (by kernel_rfl) (by kernel_rfl) rfl rfl rfl rfl rfl rfl rfl ?_
    refine Aw_pass 6 rfl (by kernel_rfl) (by kernel_rfl) (by kernel_rfl) rfl rfl rfl rfl rfl rfl rfl ?_
    refine Aw_pass 7 rfl (by kernel_rfl) (by kernel_rfl) (by kernel_rfl) rfl rfl rfl rfl rfl rfl rfl ?_
    refine Aw_pass 8 rfl (by kernel_rfl) (by kernel_rfl) (by kernel_rfl) rfl rfl rfl rfl rfl rfl rfl ?_
    refine Aw_pass 9 rfl (by kernel_rfl) (by kernel_rfl) (by kernel_rfl) rfl rfl rfl rfl rfl rfl rfl ?_
    refine Aw_pass 10 rfl (by kernel_rfl) (by kernel_rfl) (by kernel_rfl) rfl rfl rfl rfl rfl rfl rfl ?_
    refine Aw_pass 11 rfl (by kernel_rfl) (by kernel_rfl) (by kernel_rfl) rfl rfl rfl rfl rfl rfl rfl ?_
    refine Aw_pass 12 rfl (by kernel_rfl) (by kernel_rfl) (by kernel_rfl) rfl rfl rfl rfl rfl rfl rfl ?_
    refine Aw_pass 13 rfl (by kernel_rfl) (by kernel_rfl) (by kernel_rfl) rfl rfl rfl rfl rfl rfl rfl ?_
    refine Aw_q 14 rfl (by kernel_rfl) (by kernel_rfl) (by kernel_rfl) rfl rfl rfl (Qt_pick_t rfl rfl) ?_
    refine Aw_done (by kernel_rfl) ?_
    refine Cw_cond_t rfl ?_
    refine Cw_seq ?_
    refine Cw_region ?_
    refine Ow_q rfl rfl rfl (Qt_fieldAddr (m := 3) rfl rfl rfl rfl rfl) ?_
    refine Ow_q rfl rfl rfl (Qt_load1 (v := (.slice b.list.A b.list.l.length b.list.cp)) rfl rfl rfl (Rdc.blk (.head _) rfl)) ?_
    refine Ow_q rfl rfl rfl (Qt_len rfl rfl) ?_
    refine Ow_q rfl rfl rfl (Qt_cmp rfl rfl rfl) ?_
    refine Ow_q rfl rfl rfl (Qt_assign rfl) ?_
    refine Ow_nil ?_
    refine Cw_ret ?_
    refine ⟨(by first | exact .inl rfl | exact .inr rfl), [(.bool (dcd (((b.list.l.length : Nat) : Int) > 40)))], G, ⟨(.bool (dcd (((b.list.l.length : Nat) : Int) > 40))), _, rfl, rfl, rfl⟩, .cons _ (.cons _ (.cons _ (.refl _))), ?_⟩
    first | rfl | (exfalso; omega) | (exfalso; simp_all; done) | (simp_all [mkRes]; done)
  · intro h4
    have h4 := dcd_f (h4)
    refine Aw_qw 5 rfl (by kernel_rfl) (by kernel_rfl) (by kernel_rfl) rfl rfl rfl rfl rfl rfl (Qt_move rfl) ?_
    refine Aw_qw 6 rfl (by kernel_rfl) (by kernel_rfl) (by kernel_rfl) rfl rfl rfl rfl rfl rfl (Qt_loadA (m := 5) (cs := Access.cells a) rfl rfl rfl rfl ⟨rfl, Rdc.blk (.tail _ (.head _)) rfl⟩) ?_
    refine Aw_qw 7 rfl (by kernel_rfl) (by kernel_rfl) (by kernel_rfl) rfl rfl rfl rfl rfl rfl (Qt_loadA (m := 4) (cs := Answer.cells b) rfl rfl rfl rfl ⟨rfl, Rdc.blk (.head _) rfl⟩) ?_
    refine Aw_qw 9 rfl (by kernel_rfl) (by kernel_rfl) (by kernel_rfl) rfl rfl rfl rfl rfl rfl (Qt_move rfl) ?_
    refine Aw_qw 10 rfl (by kernel_rfl) (by kernel_rfl) (by kernel_rfl) rfl rfl rfl rfl rfl rfl (Qt_loadA (m := 5) (cs := Access.cells a) rfl rfl rfl rfl ⟨rfl, Rdc.blk (.tail _ (.head _)) rfl⟩) ?_
    refine Aw_qw 11 rfl (by kernel_rfl) (by kernel_rfl) (by kernel_rfl) rfl rfl rfl rfl rfl rfl (Qt_loadA (m := 4) (cs := Answer.cells b) rfl rfl rfl rfl ⟨rfl, Rdc.blk (.head _) rfl⟩) ?_
    refine Aw_one 8 (by kernel_rfl) (Ax_mkw rfl rfl rfl rfl rfl (OpW_callP (v0 := (Item.val (Item.mk th a b.value b.ok))) rfl Try.call21 rfl rfl (c_item th a b _ _) ⟨(Inc.cons (.head _) (Inc.cons (.tail _ (.head _)) (Inc.cons (.tail _ (.tail _ (.head _))) Inc.nil))), ?_⟩))
    refine Aw_one 12 (by kernel_rfl) (Ax_mkw rfl rfl rfl rfl rfl (OpW_callP (v0 := (Item.val (Item.mk th a b.value b.ok))) rfl Try.call22 rfl rfl (c_itemR th a b _ _) ⟨(Inc.cons (.head _) (Inc.cons (.tail _ (.head _)) (Inc.cons (.tail _ (.tail _ (.head _))) Inc.nil))), ?_⟩))
    refine Aw_qw 13 rfl (by kernel_rfl) (by kernel_rfl) (by kernel_rfl) rfl rfl rfl rfl rfl rfl (Qt_neS rfl rfl (fun w => Item.eqrun (Item.mk th a b.value b.ok) (Item.mk th a b.value b.ok) w) (by kernel_rfl)) ?_
    refine Aw_q 14 rfl (by kernel_rfl) (by kernel_rfl) (by kernel_rfl) rfl rfl rfl (Qt_pick_f rfl rfl) ?_
    refine Aw_done (by kernel_rfl) ?_
    refine Cw_cond_kf rfl (nt_mf (dcd_pos rfl)) ?_
    refine Cw_skip ?_
    refine Cw_cut (fun env' K' G' => ∃ (A2 : Option Addr) (cp2 : Nat) (L : List Item), [(5, (.pointer (some ((⟨b1, 0, none⟩ : Addr).add 0)))), (11, (.slice A2 L.length cp2))] = env' ∧ K = K' ∧ .row (.slice A2 L.length cp2) 26 8 (((L).map Item.cells).flatten) :: .blk b1 26 [(.int .i64 raw.thread), (.int .i64 raw.access.kind), (.int .i64 raw.access.address), (.int .u64 raw.access.old), (.int .u64 raw.access.new), (.int .i64 raw.access.until_), (.int .u64 raw.value), (.bool raw.ok)] :: G = G' ∧ L.length ≤ 12) ?_ ?_
    · skip
      refine Cw_region_any [.blk b3 40 [(.int .u64 b.value), (.bool b.ok), (.bool b.late), (.slice b.list.A b.list.l.length b.list.cp)], .blk b2 24 [(.int .i64 a.kind), (.int .i64 a.address), (.int .u64 a.old), (.int .u64 a.new), (.int .i64 a.until_)], .blk b1 26 [(.int .i64 raw.thread), (.int .i64 raw.access.kind), (.int .i64 raw.access.address), (.int .u64 raw.access.old), (.int .u64 raw.access.new), (.int .i64 raw.access.until_), (.int .u64 raw.value), (.bool raw.ok)]] rfl (Inc.cons (.head _) (Inc.cons (.tail _ (.head _)) (Inc.cons (.tail _ (.tail _ (.head _))) Inc.nil))) ?_
      refine Aw_q 0 rfl (by kernel_rfl) (by kernel_rfl) (by kernel_rfl) rfl rfl rfl (Qt_move rfl) ?_
      refine Aw_q 3 rfl (by kernel_rfl) (by kernel_rfl) (by kernel_rfl) rfl rfl rfl (Qt_loadA (m := 8) (cs := Item.cells raw) rfl rfl rfl rfl ⟨rfl, Rdc.blk (.tail _ (.tail _ (.head _))) rfl⟩) ?_
      refine Aw_two 1 4 (by kernel_rfl) ?_ ?_
      · skip
        have hs6 := Sl.takeN 80 hcl
        refine id (Ax_mk rfl rfl (OpW_call rfl Try.call14 rfl rfl (c_new A cp cl 80 _ _ hcl) ?_))
        rintro _ _ _ - ⟨b5, rfl, rfl, rfl⟩
        refine ⟨(Inc.cons (.tail _ (.head _)) (Inc.cons (.tail _ (.tail _ (.head _))) (Inc.cons (.tail _ (.tail _ (.tail _ (.head _)))) Inc.nil))), ?_⟩
        refine Aw_two 2 4 (by kernel_rfl) ?_ ?_
        · skip
          refine id (Ax_mk rfl rfl (OpW_call rfl Try.call15 rfl rfl (Fc.move [] (.blk b3 40 [(.int .u64 b.value), (.bool b.ok), (.bool b.late), (.slice b.list.A b.list.l.length b.list.cp)] :: .blk b2 24 [(.int .i64 a.kind), (.int .i64 a.address), (.int .u64 a.old), (.int .u64 a.new), (.int .i64 a.until_)] :: .blk b1 26 [(.int .i64 raw.thread), (.int .i64 raw.access.kind), (.int .i64 raw.access.address), (.int .u64 raw.access.old), (.int .u64 raw.access.new), (.int .i64 raw.access.until_), (.int .u64 raw.value), (.bool raw.ok)] :: G) rfl fun G1 => c_items b5 A cp (Cd.mk (cl.take 80) 0 0) 3 10 (by omega) (by omega) _ G1 hs6) ?_))
          rintro _ _ _ - ⟨_, _, rfl, A7, cp8, L9, at10, rfl, rfl, rfl, rfl, hL11, hok12⟩
          refine ⟨(Inc.cons (.tail _ (.tail _ (.head _))) (Inc.cons (.tail _ (.tail _ (.tail _ (.head _)))) (Inc.cons (.tail _ (.tail _ (.tail _ (.tail _ (.head _))))) Inc.nil))), ?_⟩
          refine Aw_one 4 (by kernel_rfl) (Ax_mk rfl rfl (OpW_buildSliceX (xs := (([raw]).map Item.cells).flatten) rfl rfl rfl rfl rfl rfl rfl rfl rfl rfl rfl (fun a13 => ⟨(Inc.cons (.tail _ (.tail _ (.tail _ (.head _)))) (Inc.cons (.tail _ (.tail _ (.tail _ (.tail _ (.head _))))) (Inc.cons (.tail _ (.tail _ (.tail _ (.tail _ (.tail _ (.head _)))))) Inc.nil))), ?_⟩)))
          refine Aw_one 5 (by kernel_rfl) (Ax_mk rfl rfl (OpW_appendT (bytes := 64) (L := L9) (M := [raw]) Enc.item rfl rfl rfl (.tail _ (.head _)) (Src.row (.head _)) rfl rfl rfl rfl rfl rfl rfl rfl rfl (by first | omega | (simp only [List.length_append, List.length_cons, List.length_nil, List.length_replicate, List.length_set]; omega) | (simp; omega)) (by first | omega | (simp only [List.length_append, List.length_cons, List.length_nil, List.length_replicate, List.length_set]; omega) | (simp; omega)) ?_))
          intro A14 cp15 hA16
          obtain ⟨a17, rfl⟩ := hA16 (by simp)
          refine ⟨_, (.there .here), ?_⟩
          refine ⟨(Inc.cons (.tail _ (.tail _ (.tail _ (.head _)))) (Inc.cons (.tail _ (.tail _ (.tail _ (.tail _ (.head _))))) (Inc.cons (.tail _ (.tail _ (.tail _ (.tail _ (.tail _ (.head _)))))) Inc.nil))), ?_⟩
          refine Aw_q 6 rfl (by kernel_rfl) (by kernel_rfl) (by kernel_rfl) rfl rfl rfl (Qt_assign rfl) ?_
          refine Aw_done (by kernel_rfl) ?_
          refine ⟨[(5, (.pointer (some ((⟨b1, 0, none⟩ : Addr).add 0)))), (11, (.slice (some a17) ((L9 ++ [raw]).length) cp15))], .row (.slice (some a17) ((L9 ++ [raw]).length) cp15) 26 8 ((((L9 ++ [raw])).map Item.cells).flatten) :: .blk b1 26 [(.int .i64 raw.thread), (.int .i64 raw.access.kind), (.int .i64 raw.access.address), (.int .u64 raw.access.old), (.int .u64 raw.access.new), (.int .i64 raw.access.until_), (.int .u64 raw.value), (.bool raw.ok)] :: G, ⟨rfl, rfl, trivial⟩, (.cons _ (.cons_cons _ (.cons _ (.cons _ (.cons _ (.cons_cons _ (.refl _))))))), (some a17), cp15, (L9 ++ [raw]), rfl, rfl, rfl, (by first | omega | (simp only [List.length_append, List.length_cons, List.length_nil, List.length_replicate, List.length_set]; omega) | (simp; omega))⟩
        · skip
          refine id (Ax_mk rfl rfl (OpW_buildSliceX (xs := (([raw]).map Item.cells).flatten) rfl rfl rfl rfl rfl rfl rfl rfl rfl rfl rfl (fun a18 => ⟨(Inc.cons (.tail _ (.tail _ (.head _))) (Inc.cons (.tail _ (.tail _ (.tail _ (.head _)))) (Inc.cons (.tail _ (.tail _ (.tail _ (.tail _ (.head _))))) Inc.nil))), ?_⟩)))
          refine Aw_one 2 (by kernel_rfl) (Ax_mk rfl rfl (OpW_call rfl Try.call15 rfl rfl (Fc.move [.row (.slice (some a18) 1 1) 26 8 ((([raw]).map Item.cells).flatten)] (.blk b3 40 [(.int .u64 b.value), (.bool b.ok), (.bool b.late), (.slice b.list.A b.list.l.length b.list.cp)] :: .blk b2 24 [(.int .i64 a.kind), (.int .i64 a.address), (.int .u64 a.old), (.int .u64 a.new), (.int .i64 a.until_)] :: .blk b1 26 [(.int .i64 raw.thread), (.int .i64 raw.access.kind), (.int .i64 raw.access.address), (.int .u64 raw.access.old), (.int .u64 raw.access.new), (.int .i64 raw.access.until_), (.int .u64 raw.value), (.bool raw.ok)] :: G) rfl fun G1 => c_items b5 A cp (Cd.mk (cl.take 80) 0 0) 3 10 (by omega) (by omega) _ G1 hs6) ?_))
          rintro _ _ _ - ⟨_, _, rfl, A19, cp20, L21, at22, rfl, rfl, rfl, rfl, hL23, hok24⟩
          refine ⟨(Inc.cons (.tail _ (.tail _ (.tail _ (.head _)))) (Inc.cons (.tail _ (.tail _ (.tail _ (.tail _ (.head _))))) (Inc.cons (.tail _ (.tail _ (.tail _ (.tail _ (.tail _ (.head _)))))) Inc.nil))), ?_⟩
          refine Aw_one 5 (by kernel_rfl) (Ax_mk rfl rfl (OpW_appendT (bytes := 64) (L := L21) (M := [raw]) Enc.item rfl rfl rfl (.head _) (Src.row (.tail _ (.head _))) rfl rfl rfl rfl rfl rfl rfl rfl rfl (by first | omega | (simp only [List.length_append, List.length_cons, List.length_nil, List.length_replicate, List.length_set]; omega) | (simp; omega)) (by first | omega | (simp only [List.length_append, List.length_cons, List.length_nil, List.length_replicate, List.length_set]; omega) | (simp; omega)) ?_))
          intro A25 cp26 hA27
          obtain ⟨a28, rfl⟩ := hA27 (by simp)
          refine ⟨_, .here, ?_⟩
          refine ⟨(Inc.cons (.tail _ (.tail _ (.tail _ (.head _)))) (Inc.cons (.tail _ (.tail _ (.tail _ (.tail _ (.head _))))) (Inc.cons (.tail _ (.tail _ (.tail _ (.tail _ (.tail _ (.head _)))))) Inc.nil))), ?_⟩
          refine Aw_q 6 rfl (by kernel_rfl) (by kernel_rfl) (by kernel_rfl) rfl rfl rfl (Qt_assign rfl) ?_
          refine Aw_done (by kernel_rfl) ?_
          refine ⟨[(5, (.pointer (some ((⟨b1, 0, none⟩ : Addr).add 0)))), (11, (.slice (some a28) ((L21 ++ [raw]).length) cp26))], .row (.slice (some a28) ((L21 ++ [raw]).length) cp26) 26 8 ((((L21 ++ [raw])).map Item.cells).flatten) :: .blk b1 26 [(.int .i64 raw.thread), (.int .i64 raw.access.kind), (.int .i64 raw.access.address), (.int .u64 raw.access.old), (.int .u64 raw.access.new), (.int .i64 raw.access.until_), (.int .u64 raw.value), (.bool raw.ok)] :: G, ⟨rfl, rfl, trivial⟩, (.cons_cons _ (.cons _ (.cons _ (.cons _ (.cons _ (.cons_cons _ (.refl _))))))), (some a28), cp26, (L21 ++ [raw]), rfl, rfl, rfl, (by first | omega | (simp only [List.length_append, List.length_cons, List.length_nil, List.length_replicate, List.length_set]; omega) | (simp; omega))⟩
      · skip
        refine id (Ax_mk rfl rfl (OpW_buildSliceX (xs := (([raw]).map Item.cells).flatten) rfl rfl rfl rfl rfl rfl rfl rfl rfl rfl rfl (fun a29 => ⟨(Inc.cons (.tail _ (.head _)) (Inc.cons (.tail _ (.tail _ (.head _))) (Inc.cons (.tail _ (.tail _ (.tail _ (.head _)))) Inc.nil))), ?_⟩)))
        have hs31 := Sl.takeN 80 hcl
        refine Aw_one 1 (by kernel_rfl) (Ax_mk rfl rfl (OpW_call rfl Try.call14 rfl rfl (c_new A cp cl 80 _ _ hcl) ?_))
        rintro _ _ _ - ⟨b30, rfl, rfl, rfl⟩
        refine ⟨(Inc.cons (.tail _ (.tail _ (.head _))) (Inc.cons (.tail _ (.tail _ (.tail _ (.head _)))) (Inc.cons (.tail _ (.tail _ (.tail _ (.tail _ (.head _))))) Inc.nil))), ?_⟩
        refine Aw_one 2 (by kernel_rfl) (Ax_mk rfl rfl (OpW_call rfl Try.call15 rfl rfl (Fc.move [] (.row (.slice (some a29) 1 1) 26 8 ((([raw]).map Item.cells).flatten) :: .blk b3 40 [(.int .u64 b.value), (.bool b.ok), (.bool b.late), (.slice b.list.A b.list.l.length b.list.cp)] :: .blk b2 24 [(.int .i64 a.kind), (.int .i64 a.address), (.int .u64 a.old), (.int .u64 a.new), (.int .i64 a.until_)] :: .blk b1 26 [(.int .i64 raw.thread), (.int .i64 raw.access.kind), (.int .i64 raw.access.address), (.int .u64 raw.access.old), (.int .u64 raw.access.new), (.int .i64 raw.access.until_), (.int .u64 raw.value), (.bool raw.ok)] :: G) rfl fun G1 => c_items b30 A cp (Cd.mk (cl.take 80) 0 0) 3 10 (by omega) (by omega) _ G1 hs31) ?_))
        rintro _ _ _ - ⟨_, _, rfl, A32, cp33, L34, at35, rfl, rfl, rfl, rfl, hL36, hok37⟩
        refine ⟨(Inc.cons (.tail _ (.tail _ (.tail _ (.head _)))) (Inc.cons (.tail _ (.tail _ (.tail _ (.tail _ (.head _))))) (Inc.cons (.tail _ (.tail _ (.tail _ (.tail _ (.tail _ (.head _)))))) Inc.nil))), ?_⟩
        refine Aw_one 5 (by kernel_rfl) (Ax_mk rfl rfl (OpW_appendT (bytes := 64) (L := L34) (M := [raw]) Enc.item rfl rfl rfl (.head _) (Src.row (.tail _ (.tail _ (.head _)))) rfl rfl rfl rfl rfl rfl rfl rfl rfl (by first | omega | (simp only [List.length_append, List.length_cons, List.length_nil, List.length_replicate, List.length_set]; omega) | (simp; omega)) (by first | omega | (simp only [List.length_append, List.length_cons, List.length_nil, List.length_replicate, List.length_set]; omega) | (simp; omega)) ?_))
        intro A38 cp39 hA40
        obtain ⟨a41, rfl⟩ := hA40 (by simp)
        refine ⟨_, .here, ?_⟩
        refine ⟨(Inc.cons (.tail _ (.tail _ (.tail _ (.head _)))) (Inc.cons (.tail _ (.tail _ (.tail _ (.tail _ (.head _))))) (Inc.cons (.tail _ (.tail _ (.tail _ (.tail _ (.tail _ (.head _)))))) Inc.nil))), ?_⟩
        refine Aw_q 6 rfl (by kernel_rfl) (by kernel_rfl) (by kernel_rfl) rfl rfl rfl (Qt_assign rfl) ?_
        refine Aw_done (by kernel_rfl) ?_
        refine ⟨[(5, (.pointer (some ((⟨b1, 0, none⟩ : Addr).add 0)))), (11, (.slice (some a41) ((L34 ++ [raw]).length) cp39))], .row (.slice (some a41) ((L34 ++ [raw]).length) cp39) 26 8 ((((L34 ++ [raw])).map Item.cells).flatten) :: .blk b1 26 [(.int .i64 raw.thread), (.int .i64 raw.access.kind), (.int .i64 raw.access.address), (.int .u64 raw.access.old), (.int .u64 raw.access.new), (.int .i64 raw.access.until_), (.int .u64 raw.value), (.bool raw.ok)] :: G, ⟨rfl, rfl, trivial⟩, (.cons_cons _ (.cons _ (.cons _ (.cons _ (.cons _ (.cons_cons _ (.refl _))))))), (some a41), cp39, (L34 ++ [raw]), rfl, rfl, rfl, (by first | omega | (simp only [List.length_append, List.length_cons, List.length_nil, List.length_replicate, List.length_set]; omega) | (simp; omega))⟩
    rintro _ _ _ - ⟨A2, cp2, L, rfl, rfl, rfl, hL12⟩
    refine Cw_seq ?_
    refine Cw_region ?_
    refine Ow_q rfl rfl rfl (Qt_loadA (m := 8) (cs := Item.cells raw) rfl rfl rfl rfl ⟨rfl, Rdc.blk (.tail _ (.head _)) rfl⟩) ?_
    refine Ow_cons rfl (OpW_alloc (cs := [(.int .i64 0), (.int .i64 0), (.int .i64 0), (.int .u64 0), (.int .u64 0), (.int .i64 0), (.int .u64 0), (.bool false)]) rfl rfl rfl rfl (fun b42 => ?_))
    refine Ow_cons rfl (OpW_store (vs := [(.int .i64 raw.thread), (.int .i64 raw.access.kind), (.int .i64 raw.access.address), (.int .u64 raw.access.old), (.int .u64 raw.access.new), (.int .i64 raw.access.until_), (.int .u64 raw.value), (.bool raw.ok)]) (all' := [(.int .i64 raw.thread), (.int .i64 raw.access.kind), (.int .i64 raw.access.address), (.int .u64 raw.access.old), (.int .u64 raw.access.new), (.int .i64 raw.access.until_), (.int .u64 raw.value), (.bool raw.ok)]) rfl rfl rfl rfl rfl .here rfl rfl rfl ?_)
    refine Ow_nil ?_
    refine Cw_seq ?_
    refine Cw_region ?_
    refine Ow_q rfl rfl rfl (Qt_fieldAddr (m := 1) rfl rfl rfl rfl rfl) ?_
    refine Ow_q rfl rfl rfl (Qt_fieldAddr (m := 1) rfl rfl rfl rfl rfl) ?_
    refine Ow_q rfl rfl rfl (Qt_load1 (v := (.int .i64 raw.access.kind)) rfl rfl rfl (Rdc.blk (.tail _ (.tail _ (.head _))) rfl)) ?_
    have hm43 : (0 : Int) < 12 ∧ (12 : Int) ≤ 9223372036854775807 := (by first | omega | (simp only [List.length_append, List.length_cons, List.length_nil, List.length_replicate, List.length_set]; omega) | (simp; omega))
    have he44 := Int.emod_nonneg raw.access.kind (show (12 : Int) ≠ 0 by omega)
    have he45 := Int.emod_lt_of_pos raw.access.kind (show (0 : Int) < 12 by omega)
    refine Ow_cons rfl (OpW_callP (v0 := (.int .i64 (raw.access.kind % 12))) rfl Try.call23 rfl rfl (c_mod raw.access.kind 12 hm43 _ _ trivial) ?_)
    refine Ow_q rfl rfl rfl (Qt_arith (e := (raw.access.kind % 12) - 1) rfl rfl rfl (IntWalk.i64_in _ (by omega))) ?_
    refine Ow_q rfl rfl rfl (Qt_fieldAddr (m := 1) rfl rfl rfl rfl rfl) ?_
    refine Ow_q rfl rfl rfl (Qt_fieldAddr (m := 1) rfl rfl rfl rfl rfl) ?_
    refine Ow_cons rfl (OpW_store (vs := [(.int .i64 ((raw.access.kind % 12) - 1))]) (all' := [(.int .i64 raw.thread), (.int .i64 ((raw.access.kind % 12) - 1)), (.int .i64 raw.access.address), (.int .u64 raw.access.old), (.int .u64 raw.access.new), (.int .i64 raw.access.until_), (.int .u64 raw.value), (.bool raw.ok)]) rfl rfl rfl rfl rfl .here rfl rfl rfl ?_)
    refine Ow_nil ?_
    refine Cw_seq ?_
    refine Cw_region ?_
    refine Ow_q rfl rfl rfl (Qt_move rfl) ?_
    refine Ow_q rfl rfl rfl (Qt_loadA (m := 8) (cs := Item.cells (Item.mk raw.thread (Access.mk ((raw.access.kind % 12) - 1) raw.access.address raw.access.old raw.access.new raw.access.until_) raw.value raw.ok)) rfl rfl rfl rfl ⟨rfl, Rdc.blk (.head _) rfl⟩) ?_
    refine Ow_cons rfl (OpW_buildSliceX (xs := (([(Item.mk raw.thread (Access.mk ((raw.access.kind % 12) - 1) raw.access.address raw.access.old raw.access.new raw.access.until_) raw.value raw.ok)]).map Item.cells).flatten) rfl rfl rfl rfl rfl rfl rfl rfl rfl rfl rfl (fun a46 => ?_))
    refine Ow_cons rfl (OpW_appendT (bytes := 64) (L := L) (M := [(Item.mk raw.thread (Access.mk ((raw.access.kind % 12) - 1) raw.access.address raw.access.old raw.access.new raw.access.until_) raw.value raw.ok)]) Enc.item rfl rfl rfl (.tail _ (.tail _ (.head _))) (Src.row (.head _)) rfl rfl rfl rfl rfl rfl rfl rfl rfl (by first | omega | (simp only [List.length_append, List.length_cons, List.length_nil, List.length_replicate, List.length_set]; omega) | (simp; omega)) (by first | omega | (simp only [List.length_append, List.length_cons, List.length_nil, List.length_replicate, List.length_set]; omega) | (simp; omega)) ?_)
    intro A47 cp48 hA49
    obtain ⟨a50, rfl⟩ := hA49 (by simp)
    refine ⟨_, (.there (.there .here)), ?_⟩
    refine Ow_q rfl rfl rfl (Qt_assign rfl) ?_
    refine Ow_nil ?_
    refine Cw_seq ?_
    refine Cw_seq ?_
    refine Cw.settleT Enc.item rfl (.there (.there (.here))) ?_
    intro K51 hK52 hs53
    have hs54 := hb.mono hK52
    have hs55 := hcl.mono hK52
    have hl56 := Sl.le hs53
    refine Cw_region ?_
    refine Ow_q rfl rfl rfl (Qt_move rfl) ?_
    refine Ow_q rfl rfl rfl (Qt_len rfl rfl) ?_
    refine Ow_q rfl rfl rfl (Qt_move rfl) ?_
    refine Ow_nil ?_
    refine Cw_block ?_
    refine Cw_loop (S := Nat) (fun s env' K' G' => ∃ (i : Nat), (L ++ [(Item.mk raw.thread (Access.mk ((raw.access.kind % 12) - 1) raw.access.address raw.access.old raw.access.new raw.access.until_) raw.value raw.ok)]).length - i = s ∧ [(54, (.slice (some a50) ((L ++ [(Item.mk raw.thread (Access.mk ((raw.access.kind % 12) - 1) raw.access.address raw.access.old raw.access.new raw.access.until_) raw.value raw.ok)]).length) cp48)), (55, (.int .i64 (((L ++ [(Item.mk raw.thread (Access.mk ((raw.access.kind % 12) - 1) raw.access.address raw.access.old raw.access.new raw.access.until_) raw.value raw.ok)]).length : Nat) : Int))), (56, (.int .i64 ((i : Nat) : Int)))] = env' ∧ K51 = K' ∧ G = G' ∧ i ≤ (L ++ [(Item.mk raw.thread (Access.mk ((raw.access.kind % 12) - 1) raw.access.address raw.access.old raw.access.new raw.access.until_) raw.value raw.ok)]).length) (fun s => s) ((L ++ [(Item.mk raw.thread (Access.mk ((raw.access.kind % 12) - 1) raw.access.address raw.access.old raw.access.new raw.access.until_) raw.value raw.ok)]).length - 0) [(54, (.slice (some a50) ((L ++ [(Item.mk raw.thread (Access.mk ((raw.access.kind % 12) - 1) raw.access.address raw.access.old raw.access.new raw.access.until_) raw.value raw.ok)]).length) cp48)), (55, (.int .i64 (((L ++ [(Item.mk raw.thread (Access.mk ((raw.access.kind % 12) - 1) raw.access.address raw.access.old raw.access.new raw.access.until_) raw.value raw.ok)]).length : Nat) : Int))), (56, (.int .i64 ((0 : Nat) : Int)))] (G)
      ⟨0, rfl, rfl, rfl, rfl, (Nat.zero_le _)⟩ ⟨rfl, rfl, rfl, trivial⟩ (.cons _ (.cons _ (.cons _ (.refl _)))) ?_
    rintro s _ _ _ - ⟨i, rfl, rfl, rfl, rfl, hi⟩
    refine Cw_seq ?_
    refine Cw_region ?_
    refine Ow_q rfl rfl rfl (Qt_cmp rfl rfl rfl) ?_
    refine Ow_nil ?_
    refine Cw_seq ?_
    refine Cw_cond rfl ?_ ?_
    · intro h57
      have h57 := dcd_t (h57)
      refine Cw_skip ?_
      refine Cw_seq ?_
      refine Cw_block ?_
      refine Cw_seq ?_
      refine Cw_region ?_
      obtain ⟨x58, hx59⟩ : ∃ x, (L ++ [(Item.mk raw.thread (Access.mk ((raw.access.kind % 12) - 1) raw.access.address raw.access.old raw.access.new raw.access.until_) raw.value raw.ok)])[i]? = some x := ⟨_, List.getElem?_eq_getElem (by first | omega | (simp only [List.length_append, List.length_cons, List.length_nil, List.length_replicate, List.length_set]; omega) | (simp; omega))⟩
      refine Ow_q rfl rfl rfl (Qt_ixK (q := i) rfl rfl rfl rfl rfl hs53 rfl (map_get hx59)) ?_
      refine Ow_q rfl rfl rfl (Qt_loadA (m := 8) (cs := Item.cells x58) rfl rfl rfl rfl ⟨rfl, Rdc.k (Sl.at hs53 (map_get hx59)) rfl⟩) ?_
      refine Ow_cons rfl (OpW_alloc (cs := [(.int .i64 0), (.int .i64 0), (.int .i64 0), (.int .u64 0), (.int .u64 0), (.int .i64 0), (.int .u64 0), (.bool false)]) rfl rfl rfl rfl (fun b60 => ?_))
      refine Ow_cons rfl (OpW_store (vs := [(.int .i64 x58.thread), (.int .i64 x58.access.kind), (.int .i64 x58.access.address), (.int .u64 x58.access.old), (.int .u64 x58.access.new), (.int .i64 x58.access.until_), (.int .u64 x58.value), (.bool x58.ok)]) (all' := [(.int .i64 x58.thread), (.int .i64 x58.access.kind), (.int .i64 x58.access.address), (.int .u64 x58.access.old), (.int .u64 x58.access.new), (.int .i64 x58.access.until_), (.int .u64 x58.value), (.bool x58.ok)]) rfl rfl rfl rfl rfl .here rfl rfl rfl ?_)
      refine Ow_nil ?_
      refine Cw_seq ?_
      refine Cw_region_any [.blk b60 26 [(.int .i64 x58.thread), (.int .i64 x58.access.kind), (.int .i64 x58.access.address), (.int .u64 x58.access.old), (.int .u64 x58.access.new), (.int .i64 x58.access.until_), (.int .u64 x58.value), (.bool x58.ok)]] rfl (Inc.cons (.head _) Inc.nil) ?_
      refine Aw_q 0 rfl (by kernel_rfl) (by kernel_rfl) (by kernel_rfl) rfl rfl rfl (Qt_loadA (m := 8) (cs := Item.cells x58) rfl rfl rfl rfl ⟨rfl, Rdc.blk (.head _) rfl⟩) ?_
      refine Aw_q 2 rfl (by kernel_rfl) (by kernel_rfl) (by kernel_rfl) rfl rfl rfl (Qt_loadA (m := 8) (cs := Item.cells x58) rfl rfl rfl rfl ⟨rfl, Rdc.blk (.head _) rfl⟩) ?_
      refine Aw_one 1 (by kernel_rfl) (Ax_mk rfl rfl (OpW_callP (v0 := (.int .i64 (place x58))) rfl Try.call24 rfl rfl (c_place x58 _ _) ⟨(Inc.cons (.head _) Inc.nil), ?_⟩))
      refine Aw_one 3 (by kernel_rfl) (Ax_mk rfl rfl (OpW_callP (v0 := (.int .i64 (place x58))) rfl Try.call25 rfl rfl (c_placeR x58 _ _) ⟨(Inc.cons (.head _) Inc.nil), ?_⟩))
      refine Aw_q 4 rfl (by kernel_rfl) (by kernel_rfl) (by kernel_rfl) rfl rfl rfl (Qt_cmp rfl rfl rfl) ?_
      refine Aw_q 5 rfl (by kernel_rfl) (by kernel_rfl) (by kernel_rfl) rfl rfl rfl (Qt_move rfl) ?_
      refine Aw.known (d := 65) rfl (nt_mf (dcd_pos rfl)) ?_
      refine Aw_qw 6 rfl (by kernel_rfl) (by kernel_rfl) (by kernel_rfl) rfl rfl rfl rfl rfl rfl (Qt_loadA (m := 8) (cs := Item.cells x58) rfl rfl rfl rfl ⟨rfl, Rdc.blk (.head _) rfl⟩) ?_
      refine Aw_qw 8 rfl (by kernel_rfl) (by kernel_rfl) (by kernel_rfl) rfl rfl rfl rfl rfl rfl (Qt_loadA (m := 8) (cs := Item.cells x58) rfl rfl rfl rfl ⟨rfl, Rdc.blk (.head _) rfl⟩) ?_
      refine Aw_one 7 (by kernel_rfl) (Ax_mkw rfl rfl rfl rfl rfl (OpW_callP (v0 := (.bool (reads x58))) rfl Try.call26 rfl rfl (c_reads x58 _ _) ⟨(Inc.cons (.head _) Inc.nil), ?_⟩))
      refine Aw_one 9 (by kernel_rfl) (Ax_mkw rfl rfl rfl rfl rfl (OpW_callP (v0 := (.bool (reads x58))) rfl Try.call27 rfl rfl (c_readsR x58 _ _) ⟨(Inc.cons (.head _) Inc.nil), ?_⟩))
      refine Aw_qw 10 rfl (by kernel_rfl) (by kernel_rfl) (by kernel_rfl) rfl rfl rfl rfl rfl rfl (Qt_neB rfl rfl rfl) ?_
      refine Aw_q 11 rfl (by kernel_rfl) (by kernel_rfl) (by kernel_rfl) rfl rfl rfl (Qt_pick_f rfl rfl) ?_
      refine Aw_q 12 rfl (by kernel_rfl) (by kernel_rfl) (by kernel_rfl) rfl rfl rfl (Qt_move rfl) ?_
      refine Aw.known (d := 72) rfl (nt_mf (beq_self_eq_true _)) ?_
      refine Aw_qw 13 rfl (by kernel_rfl) (by kernel_rfl) (by kernel_rfl) rfl rfl rfl rfl rfl rfl (Qt_loadA (m := 8) (cs := Item.cells x58) rfl rfl rfl rfl ⟨rfl, Rdc.blk (.head _) rfl⟩) ?_
      refine Aw_qw 15 rfl (by kernel_rfl) (by kernel_rfl) (by kernel_rfl) rfl rfl rfl rfl rfl rfl (Qt_loadA (m := 8) (cs := Item.cells x58) rfl rfl rfl rfl ⟨rfl, Rdc.blk (.head _) rfl⟩) ?_
      refine Aw_one 14 (by kernel_rfl) (Ax_mkw rfl rfl rfl rfl rfl (OpW_callP (v0 := (.bool (changes x58))) rfl Try.call28 rfl rfl (c_changes x58 _ _) ⟨(Inc.cons (.head _) Inc.nil), ?_⟩))
      refine Aw_one 16 (by kernel_rfl) (Ax_mkw rfl rfl rfl rfl rfl (OpW_callP (v0 := (.bool (changes x58))) rfl Try.call29 rfl rfl (c_changesR x58 _ _) ⟨(Inc.cons (.head _) Inc.nil), ?_⟩))
      refine Aw_qw 17 rfl (by kernel_rfl) (by kernel_rfl) (by kernel_rfl) rfl rfl rfl rfl rfl rfl (Qt_neB rfl rfl rfl) ?_
      refine Aw_q 18 rfl (by kernel_rfl) (by kernel_rfl) (by kernel_rfl) rfl rfl rfl (Qt_pick_f rfl rfl) ?_
      refine Aw_done (by kernel_rfl) ?_
      refine Cw_cond_kf rfl (nt_mf (beq_self_eq_true _)) ?_
      refine Cw_skip ?_
      refine Cw_region ?_
      refine Ow_q rfl rfl rfl (Qt_arith (e := (((i : Nat) : Int) + 1)) rfl rfl rfl (wrap_eq (by omega) (by omega))) ?_
      refine Ow_q rfl rfl rfl (Qt_move rfl) ?_
      refine Ow_nil ?_
      refine ⟨_, [(54, (.slice (some a50) ((L ++ [(Item.mk raw.thread (Access.mk ((raw.access.kind % 12) - 1) raw.access.address raw.access.old raw.access.new raw.access.until_) raw.value raw.ok)]).length) cp48)), (55, (.int .i64 (((L ++ [(Item.mk raw.thread (Access.mk ((raw.access.kind % 12) - 1) raw.access.address raw.access.old raw.access.new raw.access.until_) raw.value raw.ok)]).length : Nat) : Int))), (56, (.int .i64 (((i + 1) : Nat) : Int)))], G, ⟨rfl, rfl, rfl, trivial⟩, (.cons _ (.refl _)), (by first | omega | (simp only [List.length_append, List.length_cons, List.length_nil]; omega)), (i + 1), rfl, rfl, rfl, rfl, (by omega)⟩
    · intro h57
      have h57 := dcd_f (h57)
      refine Cw_exit ?_
      refine Cw_seq ?_
      refine Cw_region ?_
      refine Ow_q rfl rfl rfl (Qt_assign rfl) ?_
      refine Ow_nil ?_
      refine Cw_ret ?_
      refine ⟨(by first | exact .inl rfl | exact .inr rfl), [(.bool true)], G, ⟨(.bool true), _, rfl, rfl, rfl⟩, .refl _, ?_⟩
      first | rfl | (exfalso; omega) | (exfalso; simp_all; done) | (simp_all [mkRes]; done)

end Go.Ghl
