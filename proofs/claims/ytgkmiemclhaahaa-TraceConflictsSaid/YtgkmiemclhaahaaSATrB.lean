/- Contracts of functions, walked: printed by program. -/
import Derived.Test.YtgkmiemclhaahaaProg
import Derived.Test.YtgkmiemclhaahaaGhlTyped
import Derived.Test.YtgkmiemclhaahaaSATrA
namespace Go.Ghl
open Go.Proofs
set_option linter.unusedSimpArgs false
set_option linter.unusedVariables false

set_option maxHeartbeats 1000000 in
theorem c_traceConflicts (x y : Item) (A : Option Addr) (cp : Nat) (cl : List UInt8) (al : Bool) (K : Kp) (G : List Ent) (hcl : Sl K (.slice A cl.length cp) 1 (cl.map u8c)) :
    Fc Try.prog 3 #[(Item.val x), (Item.val y), (.slice A cl.length cp), (.bool al)] K G (fun v K' G' => v = .bool true) := by
  refine Fc_of Try.func3 rfl Try.ntmps3 Try.results3 rfl ?_
  refine Cw_seq ?_
  refine Cw_region ?_
  refine Ow_cons rfl (OpW_box (cs := [(.int .i64 x.thread), (.int .i64 x.access.kind), (.int .i64 x.access.address), (.int .u64 x.access.old), (.int .u64 x.access.new), (.int .i64 x.access.until_), (.int .u64 x.value), (.bool x.ok)]) rfl rfl rfl (fun b1 => ?_))
  refine Ow_cons rfl (OpW_box (cs := [(.int .i64 y.thread), (.int .i64 y.access.kind), (.int .i64 y.access.address), (.int .u64 y.access.old), (.int .u64 y.access.new), (.int .i64 y.access.until_), (.int .u64 y.value), (.bool y.ok)]) rfl rfl rfl (fun b2 => ?_))
  refine Ow_q rfl rfl rfl (Qt_assign rfl) ?_
  refine Ow_nil ?_
  refine Cw_seq ?_
  refine Cw_seq ?_
  refine Cw_region ?_
  refine Ow_cons rfl (OpW_callP (v0 := (.bool true)) rfl Try.call13 rfl rfl (c_awake6  _ _) ?_)
  refine Ow_q rfl rfl rfl (Qt_not rfl) ?_
  refine Ow_nil ?_
  refine Cw_cond_f rfl ?_
  refine Cw_skip ?_
  refine Cw_cut (fun env' K' G' => ∃ (y1 : Item), [(2, (.slice A cl.length cp)), (4, (.pointer (some ((⟨b1, 0, none⟩ : Addr).add 0)))), (5, (.pointer (some ((⟨b2, 0, none⟩ : Addr).add 0))))] = env' ∧ K = K' ∧ .blk b2 26 [(.int .i64 y1.thread), (.int .i64 y1.access.kind), (.int .i64 y1.access.address), (.int .u64 y1.access.old), (.int .u64 y1.access.new), (.int .i64 y1.access.until_), (.int .u64 y1.value), (.bool y1.ok)] :: .blk b1 26 [(.int .i64 x.thread), (.int .i64 x.access.kind), (.int .i64 x.access.address), (.int .u64 x.access.old), (.int .u64 x.access.new), (.int .i64 x.access.until_), (.int .u64 x.value), (.bool x.ok)] :: G = G') ?_ ?_
  · skip
    refine Cw_seq ?_
    refine Cw_region ?_
    refine Ow_q rfl rfl rfl (Qt_move rfl) ?_
    refine Ow_nil ?_
    refine Cw_cond rfl ?_ ?_
    · intro h3
      refine Cw_region ?_
      refine Ow_q rfl rfl rfl (Qt_fieldAddr (m := 1) rfl rfl rfl rfl rfl) ?_
      refine Ow_q rfl rfl rfl (Qt_fieldAddr (m := 2) rfl rfl rfl rfl rfl) ?_
      refine Ow_q rfl rfl rfl (Qt_load1 (v := (.int .i64 x.access.address)) rfl rfl rfl (Rdc.blk (.tail _ (.head _)) rfl)) ?_
      refine Ow_q rfl rfl rfl (Qt_fieldAddr (m := 1) rfl rfl rfl rfl rfl) ?_
      refine Ow_q rfl rfl rfl (Qt_fieldAddr (m := 2) rfl rfl rfl rfl rfl) ?_
      refine Ow_cons rfl (OpW_store (vs := [(.int .i64 x.access.address)]) (all' := [(.int .i64 y.thread), (.int .i64 y.access.kind), (.int .i64 x.access.address), (.int .u64 y.access.old), (.int .u64 y.access.new), (.int .i64 y.access.until_), (.int .u64 y.value), (.bool y.ok)]) rfl rfl rfl rfl rfl .here rfl rfl rfl ?_)
      refine Ow_nil ?_
      refine ⟨[(2, (.slice A cl.length cp)), (4, (.pointer (some ((⟨b1, 0, none⟩ : Addr).add 0)))), (5, (.pointer (some ((⟨b2, 0, none⟩ : Addr).add 0))))], .blk b2 26 [(.int .i64 ((Item.mk y.thread (Access.mk y.access.kind x.access.address y.access.old y.access.new y.access.until_) y.value y.ok).thread)), (.int .i64 ((Item.mk y.thread (Access.mk y.access.kind x.access.address y.access.old y.access.new y.access.until_) y.value y.ok).access.kind)), (.int .i64 ((Item.mk y.thread (Access.mk y.access.kind x.access.address y.access.old y.access.new y.access.until_) y.value y.ok).access.address)), (.int .u64 ((Item.mk y.thread (Access.mk y.access.kind x.access.address y.access.old y.access.new y.access.until_) y.value y.ok).access.old)), (.int .u64 ((Item.mk y.thread (Access.mk y.access.kind x.access.address y.access.old y.access.new y.access.until_) y.value y.ok).access.new)), (.int .i64 ((Item.mk y.thread (Access.mk y.access.kind x.access.address y.access.old y.access.new y.access.until_) y.value y.ok).access.until_)), (.int .u64 ((Item.mk y.thread (Access.mk y.access.kind x.access.address y.access.old y.access.new y.access.until_) y.value y.ok).value)), (.bool ((Item.mk y.thread (Access.mk y.access.kind x.access.address y.access.old y.access.new y.access.until_) y.value y.ok).ok))] :: .blk b1 26 [(.int .i64 x.thread), (.int .i64 x.access.kind), (.int .i64 x.access.address), (.int .u64 x.access.old), (.int .u64 x.access.new), (.int .i64 x.access.until_), (.int .u64 x.value), (.bool x.ok)] :: G, ⟨rfl, rfl, rfl, trivial⟩, (.cons_cons _ (.cons_cons _ (.refl _))), (Item.mk y.thread (Access.mk y.access.kind x.access.address y.access.old y.access.new y.access.until_) y.value y.ok), rfl, rfl, rfl⟩
    · intro h3
      refine Cw_skip ?_
      refine ⟨[(2, (.slice A cl.length cp)), (4, (.pointer (some ((⟨b1, 0, none⟩ : Addr).add 0)))), (5, (.pointer (some ((⟨b2, 0, none⟩ : Addr).add 0))))], .blk b2 26 [(.int .i64 y.thread), (.int .i64 y.access.kind), (.int .i64 y.access.address), (.int .u64 y.access.old), (.int .u64 y.access.new), (.int .i64 y.access.until_), (.int .u64 y.value), (.bool y.ok)] :: .blk b1 26 [(.int .i64 x.thread), (.int .i64 x.access.kind), (.int .i64 x.access.address), (.int .u64 x.access.old), (.int .u64 x.access.new), (.int .i64 x.access.until_), (.int .u64 x.value), (.bool x.ok)] :: G, ⟨rfl, rfl, rfl, trivial⟩, (.cons_cons _ (.cons_cons _ (.refl _))), y, rfl, rfl, rfl⟩
  rintro _ _ _ - ⟨y1, rfl, rfl, rfl⟩
  refine Cw_cut (fun env' K' G' => ∃ (A2 : Option Addr) (cp2 : Nat) (L : List Item), [(9, (.slice A2 L.length cp2))] = env' ∧ K = K' ∧ .row (.slice A2 L.length cp2) 26 8 (((L).map Item.cells).flatten) :: G = G' ∧ L.length ≤ 12) ?_ ?_
  · skip
    refine Cw_region_any [.blk b2 26 [(.int .i64 y1.thread), (.int .i64 y1.access.kind), (.int .i64 y1.access.address), (.int .u64 y1.access.old), (.int .u64 y1.access.new), (.int .i64 y1.access.until_), (.int .u64 y1.value), (.bool y1.ok)], .blk b1 26 [(.int .i64 x.thread), (.int .i64 x.access.kind), (.int .i64 x.access.address), (.int .u64 x.access.old), (.int .u64 x.access.new), (.int .i64 x.access.until_), (.int .u64 x.value), (.bool x.ok)]] rfl (Inc.cons (.head _) (Inc.cons (.tail _ (.head _)) Inc.nil)) ?_
    refine Aw_q 0 rfl (by kernel_rfl) (by kernel_rfl) (by kernel_rfl) rfl rfl rfl (Qt_move rfl) ?_
    refine Aw_q 3 rfl (by kernel_rfl) (by kernel_rfl) (by kernel_rfl) rfl rfl rfl (Qt_loadA (m := 8) (cs := Item.cells x) rfl rfl rfl rfl ⟨rfl, Rdc.blk (.tail _ (.head _)) rfl⟩) ?_
    refine Aw_q 4 rfl (by kernel_rfl) (by kernel_rfl) (by kernel_rfl) rfl rfl rfl (Qt_loadA (m := 8) (cs := Item.cells y1) rfl rfl rfl rfl ⟨rfl, Rdc.blk (.head _) rfl⟩) ?_
    refine Aw_two 1 5 (by kernel_rfl) ?_ ?_
    · skip
      have hs5 := Sl.takeN 80 hcl
      refine id (Ax_mk rfl rfl (OpW_call rfl Try.call14 rfl rfl (c_new A cp cl 80 _ _ hcl) ?_))
      rintro _ _ _ - ⟨b4, rfl, rfl, rfl⟩
      refine ⟨(Inc.cons (.tail _ (.head _)) (Inc.cons (.tail _ (.tail _ (.head _))) Inc.nil)), ?_⟩
      refine Aw_two 2 5 (by kernel_rfl) ?_ ?_
      · skip
        refine id (Ax_mk rfl rfl (OpW_call rfl Try.call15 rfl rfl (Fc.move [] (.blk b2 26 [(.int .i64 y1.thread), (.int .i64 y1.access.kind), (.int .i64 y1.access.address), (.int .u64 y1.access.old), (.int .u64 y1.access.new), (.int .i64 y1.access.until_), (.int .u64 y1.value), (.bool y1.ok)] :: .blk b1 26 [(.int .i64 x.thread), (.int .i64 x.access.kind), (.int .i64 x.access.address), (.int .u64 x.access.old), (.int .u64 x.access.new), (.int .i64 x.access.until_), (.int .u64 x.value), (.bool x.ok)] :: G) rfl fun G1 => c_items b4 A cp (Cd.mk (cl.take 80) 0 0) 3 10 (by omega) (by omega) _ G1 hs5) ?_))
        rintro _ _ _ - ⟨_, _, rfl, A6, cp7, L8, at9, rfl, rfl, rfl, rfl, hL10, hok11⟩
        refine ⟨(Inc.cons (.tail _ (.tail _ (.head _))) (Inc.cons (.tail _ (.tail _ (.tail _ (.head _)))) Inc.nil)), ?_⟩
        refine Aw_one 5 (by kernel_rfl) (Ax_mk rfl rfl (OpW_buildSliceX (xs := (([x, y1]).map Item.cells).flatten) rfl rfl rfl rfl rfl rfl rfl rfl rfl rfl rfl (fun a12 => ⟨(Inc.cons (.tail _ (.tail _ (.tail _ (.head _)))) (Inc.cons (.tail _ (.tail _ (.tail _ (.tail _ (.head _))))) Inc.nil)), ?_⟩)))
        refine Aw_one 6 (by kernel_rfl) (Ax_mk rfl rfl (OpW_appendT (bytes := 64) (L := L8) (M := [x, y1]) Enc.item rfl rfl rfl (.tail _ (.head _)) (Src.row (.head _)) rfl rfl rfl rfl rfl rfl rfl rfl rfl (by first | omega | (simp only [List.length_append, List.length_cons, List.length_nil, List.length_replicate, List.length_set]; omega) | (simp; omega)) (by first | omega | (simp only [List.length_append, List.length_cons, List.length_nil, List.length_replicate, List.length_set]; omega) | (simp; omega)) ?_))
        intro A13 cp14 hA15
        obtain ⟨a16, rfl⟩ := hA15 (by simp)
        refine ⟨_, (.there .here), ?_⟩
        refine ⟨(Inc.cons (.tail _ (.tail _ (.tail _ (.head _)))) (Inc.cons (.tail _ (.tail _ (.tail _ (.tail _ (.head _))))) Inc.nil)), ?_⟩
        refine Aw_q 7 rfl (by kernel_rfl) (by kernel_rfl) (by kernel_rfl) rfl rfl rfl (Qt_assign rfl) ?_
        refine Aw_done (by kernel_rfl) ?_
        refine ⟨[(9, (.slice (some a16) ((L8 ++ [x, y1]).length) cp14))], .row (.slice (some a16) ((L8 ++ [x, y1]).length) cp14) 26 8 ((((L8 ++ [x, y1])).map Item.cells).flatten) :: G, ⟨rfl, trivial⟩, (.cons _ (.cons_cons _ (.cons _ (.cons _ (.cons _ (.refl _)))))), (some a16), cp14, (L8 ++ [x, y1]), rfl, rfl, rfl, (by first | omega | (simp only [List.length_append, List.length_cons, List.length_nil, List.length_replicate, List.length_set]; omega) | (simp; omega))⟩
      · skip
        refine id (Ax_mk rfl rfl (OpW_buildSliceX (xs := (([x, y1]).map Item.cells).flatten) rfl rfl rfl rfl rfl rfl rfl rfl rfl rfl rfl (fun a17 => ⟨(Inc.cons (.tail _ (.tail _ (.head _))) (Inc.cons (.tail _ (.tail _ (.tail _ (.head _)))) Inc.nil)), ?_⟩)))
        refine Aw_one 2 (by kernel_rfl) (Ax_mk rfl rfl (OpW_call rfl Try.call15 rfl rfl (Fc.move [.row (.slice (some a17) 2 2) 26 8 ((([x, y1]).map Item.cells).flatten)] (.blk b2 26 [(.int .i64 y1.thread), (.int .i64 y1.access.kind), (.int .i64 y1.access.address), (.int .u64 y1.access.old), (.int .u64 y1.access.new), (.int .i64 y1.access.until_), (.int .u64 y1.value), (.bool y1.ok)] :: .blk b1 26 [(.int .i64 x.thread), (.int .i64 x.access.kind), (.int .i64 x.access.address), (.int .u64 x.access.old), (.int .u64 x.access.new), (.int .i64 x.access.until_), (.int .u64 x.value), (.bool x.ok)] :: G) rfl fun G1 => c_items b4 A cp (Cd.mk (cl.take 80) 0 0) 3 10 (by omega) (by omega) _ G1 hs5) ?_))
        rintro _ _ _ - ⟨_, _, rfl, A18, cp19, L20, at21, rfl, rfl, rfl, rfl, hL22, hok23⟩
        refine ⟨(Inc.cons (.tail _ (.tail _ (.tail _ (.head _)))) (Inc.cons (.tail _ (.tail _ (.tail _ (.tail _ (.head _))))) Inc.nil)), ?_⟩
        refine Aw_one 6 (by kernel_rfl) (Ax_mk rfl rfl (OpW_appendT (bytes := 64) (L := L20) (M := [x, y1]) Enc.item rfl rfl rfl (.head _) (Src.row (.tail _ (.head _))) rfl rfl rfl rfl rfl rfl rfl rfl rfl (by first | omega | (simp only [List.length_append, List.length_cons, List.length_nil, List.length_replicate, List.length_set]; omega) | (simp; omega)) (by first | omega | (simp only [List.length_append, List.length_cons, List.length_nil, List.length_replicate, List.length_set]; omega) | (simp; omega)) ?_))
        intro A24 cp25 hA26
        obtain ⟨a27, rfl⟩ := hA26 (by simp)
        refine ⟨_, .here, ?_⟩
        refine ⟨(Inc.cons (.tail _ (.tail _ (.tail _ (.head _)))) (Inc.cons (.tail _ (.tail _ (.tail _ (.tail _ (.head _))))) Inc.nil)), ?_⟩
        refine Aw_q 7 rfl (by kernel_rfl) (by kernel_rfl) (by kernel_rfl) rfl rfl rfl (Qt_assign rfl) ?_
        refine Aw_done (by kernel_rfl) ?_
        refine ⟨[(9, (.slice (some a27) ((L20 ++ [x, y1]).length) cp25))], .row (.slice (some a27) ((L20 ++ [x, y1]).length) cp25) 26 8 ((((L20 ++ [x, y1])).map Item.cells).flatten) :: G, ⟨rfl, trivial⟩, (.cons_cons _ (.cons _ (.cons _ (.cons _ (.cons _ (.refl _)))))), (some a27), cp25, (L20 ++ [x, y1]), rfl, rfl, rfl, (by first | omega | (simp only [List.length_append, List.length_cons, List.length_nil, List.length_replicate, List.length_set]; omega) | (simp; omega))⟩
    · skip
      refine id (Ax_mk rfl rfl (OpW_buildSliceX (xs := (([x, y1]).map Item.cells).flatten) rfl rfl rfl rfl rfl rfl rfl rfl rfl rfl rfl (fun a28 => ⟨(Inc.cons (.tail _ (.head _)) (Inc.cons (.tail _ (.tail _ (.head _))) Inc.nil)), ?_⟩)))
      have hs30 := Sl.takeN 80 hcl
      refine Aw_one 1 (by kernel_rfl) (Ax_mk rfl rfl (OpW_call rfl Try.call14 rfl rfl (c_new A cp cl 80 _ _ hcl) ?_))
      rintro _ _ _ - ⟨b29, rfl, rfl, rfl⟩
      refine ⟨(Inc.cons (.tail _ (.tail _ (.head _))) (Inc.cons (.tail _ (.tail _ (.tail _ (.head _)))) Inc.nil)), ?_⟩
      refine Aw_one 2 (by kernel_rfl) (Ax_mk rfl rfl (OpW_call rfl Try.call15 rfl rfl (Fc.move [] (.row (.slice (some a28) 2 2) 26 8 ((([x, y1]).map Item.cells).flatten) :: .blk b2 26 [(.int .i64 y1.thread), (.int .i64 y1.access.kind), (.int .i64 y1.access.address), (.int .u64 y1.access.old), (.int .u64 y1.access.new), (.int .i64 y1.access.until_), (.int .u64 y1.value), (.bool y1.ok)] :: .blk b1 26 [(.int .i64 x.thread), (.int .i64 x.access.kind), (.int .i64 x.access.address), (.int .u64 x.access.old), (.int .u64 x.access.new), (.int .i64 x.access.until_), (.int .u64 x.value), (.bool x.ok)] :: G) rfl fun G1 => c_items b29 A cp (Cd.mk (cl.take 80) 0 0) 3 10 (by omega) (by omega) _ G1 hs30) ?_))
      rintro _ _ _ - ⟨_, _, rfl, A31, cp32, L33, at34, rfl, rfl, rfl, rfl, hL35, hok36⟩
      refine ⟨(Inc.cons (.tail _ (.tail _ (.tail _ (.head _)))) (Inc.cons (.tail _ (.tail _ (.tail _ (.tail _ (.head _))))) Inc.nil)), ?_⟩
      refine Aw_one 6 (by kernel_rfl) (Ax_mk rfl rfl (OpW_appendT (bytes := 64) (L := L33) (M := [x, y1]) Enc.item rfl rfl rfl (.head _) (Src.row (.tail _ (.tail _ (.head _)))) rfl rfl rfl rfl rfl rfl rfl rfl rfl (by first | omega | (simp only [List.length_append, List.length_cons, List.length_nil, List.length_replicate, List.length_set]; omega) | (simp; omega)) (by first | omega | (simp only [List.length_append, List.length_cons, List.length_nil, List.length_replicate, List.length_set]; omega) | (simp; omega)) ?_))
      intro A37 cp38 hA39
      obtain ⟨a40, rfl⟩ := hA39 (by simp)
      refine ⟨_, .here, ?_⟩
      refine ⟨(Inc.cons (.tail _ (.tail _ (.tail _ (.head _)))) (Inc.cons (.tail _ (.tail _ (.tail _ (.tail _ (.head _))))) Inc.nil)), ?_⟩
      refine Aw_q 7 rfl (by kernel_rfl) (by kernel_rfl) (by kernel_rfl) rfl rfl rfl (Qt_assign rfl) ?_
      refine Aw_done (by kernel_rfl) ?_
      refine ⟨[(9, (.slice (some a40) ((L33 ++ [x, y1]).length) cp38))], .row (.slice (some a40) ((L33 ++ [x, y1]).length) cp38) 26 8 ((((L33 ++ [x, y1])).map Item.cells).flatten) :: G, ⟨rfl, trivial⟩, (.cons_cons _ (.cons _ (.cons _ (.cons _ (.cons _ (.refl _)))))), (some a40), cp38, (L33 ++ [x, y1]), rfl, rfl, rfl, (by first | omega | (simp only [List.length_append, List.length_cons, List.length_nil, List.length_replicate, List.length_set]; omega) | (simp; omega))⟩
  rintro _ _ _ - ⟨A2, cp2, L, rfl, rfl, rfl, hL12⟩
  refine Cw_seq ?_
  refine Cw_seq ?_
  refine Cw.settleT Enc.item rfl (.here) ?_
  intro K41 hK42 hs43
  have hs44 := hcl.mono hK42
  refine Cw_region ?_
  refine Ow_q rfl rfl rfl (Qt_move rfl) ?_
  refine Ow_q rfl rfl rfl (Qt_len rfl rfl) ?_
  refine Ow_q rfl rfl rfl (Qt_move rfl) ?_
  refine Ow_nil ?_
  refine Cw_block ?_
  refine Cw_loop (S := Nat) (fun s env' K' G' => ∃ (i : Nat), L.length - i = s ∧ [(9, (.slice A2 L.length cp2)), (28, (.int .i64 ((L.length : Nat) : Int))), (29, (.int .i64 ((i : Nat) : Int)))] = env' ∧ K41 = K' ∧ G = G' ∧ i ≤ L.length) (fun s => s) (L.length - 0) [(9, (.slice A2 L.length cp2)), (28, (.int .i64 ((L.length : Nat) : Int))), (29, (.int .i64 ((0 : Nat) : Int)))] (G)
    ⟨0, rfl, rfl, rfl, rfl, (Nat.zero_le _)⟩ ⟨rfl, rfl, rfl, trivial⟩ (.refl _) ?_
  rintro s _ _ _ - ⟨i, rfl, rfl, rfl, rfl, hi⟩
  refine Cw_seq ?_
  refine Cw_region ?_
  refine Ow_q rfl rfl rfl (Qt_cmp rfl rfl rfl) ?_
  refine Ow_nil ?_
  refine Cw_seq ?_
  refine Cw_cond rfl ?_ ?_
  · intro h45
    have h45 := dcd_t (h45)
    refine Cw_skip ?_
    refine Cw_seq ?_
    refine Cw_block ?_
    refine Cw_seq ?_
    refine Cw_region ?_
    refine Ow_q rfl rfl rfl (Qt_move rfl) ?_
    refine Ow_q rfl rfl rfl (Qt_assign rfl) ?_
    refine Ow_nil ?_
    refine Cw_seq ?_
    refine Cw_region ?_
    refine Ow_q rfl rfl rfl (Qt_move rfl) ?_
    refine Ow_q rfl rfl rfl (Qt_len rfl rfl) ?_
    refine Ow_q rfl rfl rfl (Qt_move rfl) ?_
    refine Ow_nil ?_
    refine Cw_block ?_
    refine Cw_loop (S := Nat) (fun s env' K' G' => ∃ (k : Nat), L.length - k = s ∧ [(9, (.slice A2 L.length cp2)), (10, (.int .i64 ((i : Nat) : Int))), (28, (.int .i64 ((L.length : Nat) : Int))), (29, (.int .i64 ((i : Nat) : Int))), (33, (.int .i64 ((L.length : Nat) : Int))), (34, (.int .i64 ((k : Nat) : Int)))] = env' ∧ K41 = K' ∧ G = G' ∧ k ≤ L.length) (fun s => s) (L.length - 0) [(9, (.slice A2 L.length cp2)), (10, (.int .i64 ((i : Nat) : Int))), (28, (.int .i64 ((L.length : Nat) : Int))), (29, (.int .i64 ((i : Nat) : Int))), (33, (.int .i64 ((L.length : Nat) : Int))), (34, (.int .i64 ((0 : Nat) : Int)))] (G)
      ⟨0, rfl, rfl, rfl, rfl, (Nat.zero_le _)⟩ ⟨rfl, rfl, rfl, rfl, rfl, rfl, trivial⟩ (.refl _) ?_
    rintro s _ _ _ - ⟨k, rfl, rfl, rfl, rfl, hk⟩
    refine Cw_seq ?_
    refine Cw_region ?_
    refine Ow_q rfl rfl rfl (Qt_cmp rfl rfl rfl) ?_
    refine Ow_nil ?_
    refine Cw_seq ?_
    refine Cw_cond rfl ?_ ?_
    · intro h46
      have h46 := dcd_t (h46)
      refine Cw_skip ?_
      refine Cw_seq ?_
      refine Cw_block ?_
      refine Cw_seq ?_
      refine Cw_region ?_
      refine Ow_q rfl rfl rfl (Qt_move rfl) ?_
      refine Ow_q rfl rfl rfl (Qt_assign rfl) ?_
      refine Ow_nil ?_
      refine Cw_seq ?_
      refine Cw_region_any [] rfl Inc.nil ?_
      refine Aw_q 0 rfl (by kernel_rfl) (by kernel_rfl) (by kernel_rfl) rfl rfl rfl (Qt_move rfl) ?_
      refine Aw_q 1 rfl (by kernel_rfl) (by kernel_rfl) (by kernel_rfl) rfl rfl rfl (Qt_move rfl) ?_
      obtain ⟨x47, hx48⟩ : ∃ x, L[i]? = some x := ⟨_, List.getElem?_eq_getElem (by first | omega | (simp only [List.length_append, List.length_cons, List.length_nil, List.length_replicate, List.length_set]; omega) | (simp; omega))⟩
      refine Aw_q 2 rfl (by kernel_rfl) (by kernel_rfl) (by kernel_rfl) rfl rfl rfl (Qt_ixK (q := i) rfl rfl rfl rfl rfl hs43 rfl (map_get hx48)) ?_
      refine Aw_q 3 rfl (by kernel_rfl) (by kernel_rfl) (by kernel_rfl) rfl rfl rfl (Qt_loadA (m := 8) (cs := Item.cells x47) rfl rfl rfl rfl ⟨rfl, Rdc.k (Sl.at hs43 (map_get hx48)) rfl⟩) ?_
      refine Aw_q 4 rfl (by kernel_rfl) (by kernel_rfl) (by kernel_rfl) rfl rfl rfl (Qt_move rfl) ?_
      refine Aw_q 5 rfl (by kernel_rfl) (by kernel_rfl) (by kernel_rfl) rfl rfl rfl (Qt_move rfl) ?_
      obtain ⟨x49, hx50⟩ : ∃ x, L[k]? = some x := ⟨_, List.getElem?_eq_getElem (by first | omega | (simp only [List.length_append, List.length_cons, List.length_nil, List.length_replicate, List.length_set]; omega) | (simp; omega))⟩
      refine Aw_q 6 rfl (by kernel_rfl) (by kernel_rfl) (by kernel_rfl) rfl rfl rfl (Qt_ixK (q := k) rfl rfl rfl rfl rfl hs43 rfl (map_get hx50)) ?_
      refine Aw_q 7 rfl (by kernel_rfl) (by kernel_rfl) (by kernel_rfl) rfl rfl rfl (Qt_loadA (m := 8) (cs := Item.cells x49) rfl rfl rfl rfl ⟨rfl, Rdc.k (Sl.at hs43 (map_get hx50)) rfl⟩) ?_
      refine Aw_q 9 rfl (by kernel_rfl) (by kernel_rfl) (by kernel_rfl) rfl rfl rfl (Qt_move rfl) ?_
      refine Aw_q 10 rfl (by kernel_rfl) (by kernel_rfl) (by kernel_rfl) rfl rfl rfl (Qt_move rfl) ?_
      refine Aw_q 11 rfl (by kernel_rfl) (by kernel_rfl) (by kernel_rfl) rfl rfl rfl (Qt_ixK (q := i) rfl rfl rfl rfl rfl hs43 rfl (map_get hx48)) ?_
      refine Aw_q 12 rfl (by kernel_rfl) (by kernel_rfl) (by kernel_rfl) rfl rfl rfl (Qt_loadA (m := 8) (cs := Item.cells x47) rfl rfl rfl rfl ⟨rfl, Rdc.k (Sl.at hs43 (map_get hx48)) rfl⟩) ?_
      refine Aw_q 13 rfl (by kernel_rfl) (by kernel_rfl) (by kernel_rfl) rfl rfl rfl (Qt_move rfl) ?_
      refine Aw_q 14 rfl (by kernel_rfl) (by kernel_rfl) (by kernel_rfl) rfl rfl rfl (Qt_move rfl) ?_
      refine Aw_q 15 rfl (by kernel_rfl) (by kernel_rfl) (by kernel_rfl) rfl rfl rfl (Qt_ixK (q := k) rfl rfl rfl rfl rfl hs43 rfl (map_get hx50)) ?_
      refine Aw_q 16 rfl (by kernel_rfl) (by kernel_rfl) (by kernel_rfl) rfl rfl rfl (Qt_loadA (m := 8) (cs := Item.cells x49) rfl rfl rfl rfl ⟨rfl, Rdc.k (Sl.at hs43 (map_get hx50)) rfl⟩) ?_
      refine Aw_one 8 (by kernel_rfl) (Ax_mk rfl rfl (OpW_callP (v0 := (.bool (conflict x47 x49))) rfl Try.call16 rfl rfl (c_conflict x47 x49 _ _) ⟨Inc.nil, ?_⟩))
      refine Aw_one 17 (by kernel_rfl) (Ax_mk rfl rfl (OpW_callP (v0 := (.bool (conflict x47 x49))) rfl Try.call17 rfl rfl (c_conflictR x47 x49 _ _) ⟨Inc.nil, ?_⟩))
      refine Aw_q 18 rfl (by kernel_rfl) (by kernel_rfl) (by kernel_rfl) rfl rfl rfl (Qt_neB rfl rfl rfl) ?_
      refine Aw_q 19 rfl (by kernel_rfl) (by kernel_rfl) (by kernel_rfl) rfl rfl rfl (Qt_move rfl) ?_
      refine Aw.known (d := 56) rfl (nt_mf (beq_self_eq_true _)) ?_
      refine Aw_qw 20 rfl (by kernel_rfl) (by kernel_rfl) (by kernel_rfl) rfl rfl rfl rfl rfl rfl (Qt_move rfl) ?_
      refine Aw_qw 21 rfl (by kernel_rfl) (by kernel_rfl) (by kernel_rfl) rfl rfl rfl rfl rfl rfl (Qt_move rfl) ?_
      refine Aw_qw 22 rfl (by kernel_rfl) (by kernel_rfl) (by kernel_rfl) rfl rfl rfl rfl rfl rfl (Qt_ixK (q := i) rfl rfl rfl rfl rfl hs43 rfl (map_get hx48)) ?_
      refine Aw_qw 23 rfl (by kernel_rfl) (by kernel_rfl) (by kernel_rfl) rfl rfl rfl rfl rfl rfl (Qt_loadA (m := 8) (cs := Item.cells x47) rfl rfl rfl rfl ⟨rfl, Rdc.k (Sl.at hs43 (map_get hx48)) rfl⟩) ?_
      refine Aw_qw 24 rfl (by kernel_rfl) (by kernel_rfl) (by kernel_rfl) rfl rfl rfl rfl rfl rfl (Qt_move rfl) ?_
      refine Aw_qw 25 rfl (by kernel_rfl) (by kernel_rfl) (by kernel_rfl) rfl rfl rfl rfl rfl rfl (Qt_move rfl) ?_
      refine Aw_qw 26 rfl (by kernel_rfl) (by kernel_rfl) (by kernel_rfl) rfl rfl rfl rfl rfl rfl (Qt_ixK (q := k) rfl rfl rfl rfl rfl hs43 rfl (map_get hx50)) ?_
      refine Aw_qw 27 rfl (by kernel_rfl) (by kernel_rfl) (by kernel_rfl) rfl rfl rfl rfl rfl rfl (Qt_loadA (m := 8) (cs := Item.cells x49) rfl rfl rfl rfl ⟨rfl, Rdc.k (Sl.at hs43 (map_get hx50)) rfl⟩) ?_
      refine Aw_qw 29 rfl (by kernel_rfl) (by kernel_rfl) (by kernel_rfl) rfl rfl rfl rfl rfl rfl (Qt_move rfl) ?_
      refine Aw_qw 30 rfl (by kernel_rfl) (by kernel_rfl) (by kernel_rfl) rfl rfl rfl rfl rfl rfl (Qt_move rfl) ?_
      refine Aw_qw 31 rfl (by kernel_rfl) (by kernel_rfl) (by kernel_rfl) rfl rfl rfl rfl rfl rfl (Qt_ixK (q := k) rfl rfl rfl rfl rfl hs43 rfl (map_get hx50)) ?_
      refine Aw_qw 32 rfl (by kernel_rfl) (by kernel_rfl) (by kernel_rfl) rfl rfl rfl rfl rfl rfl (Qt_loadA (m := 8) (cs := Item.cells x49) rfl rfl rfl rfl ⟨rfl, Rdc.k (Sl.at hs43 (map_get hx50)) rfl⟩) ?_
      refine Aw_qw 33 rfl (by kernel_rfl) (by kernel_rfl) (by kernel_rfl) rfl rfl rfl rfl rfl rfl (Qt_move rfl) ?_
      refine Aw_qw 34 rfl (by kernel_rfl) (by kernel_rfl) (by kernel_rfl) rfl rfl rfl rfl rfl rfl (Qt_move rfl) ?_
      refine Aw_qw 35 rfl (by kernel_rfl) (by kernel_rfl) (by kernel_rfl) rfl rfl rfl rfl rfl rfl (Qt_ixK (q := i) rfl rfl rfl rfl rfl hs43 rfl (map_get hx48)) ?_
      refine Aw_qw 36 rfl (by kernel_rfl) (by kernel_rfl) (by kernel_rfl) rfl rfl rfl rfl rfl rfl (Qt_loadA (m := 8) (cs := Item.cells x47) rfl rfl rfl rfl ⟨rfl, Rdc.k (Sl.at hs43 (map_get hx48)) rfl⟩) ?_
      refine Aw_one 28 (by kernel_rfl) (Ax_mkw rfl rfl rfl rfl rfl (OpW_callP (v0 := (.bool (conflict x47 x49))) rfl Try.call16 rfl rfl (c_conflict x47 x49 _ _) ⟨Inc.nil, ?_⟩))
      refine Aw_one 37 (by kernel_rfl) (Ax_mkw rfl rfl rfl rfl rfl (OpW_callP (v0 := (.bool (conflict x49 x47))) rfl Try.call16 rfl rfl (c_conflict x49 x47 _ _) ⟨Inc.nil, ?_⟩))
      refine Aw_qw 38 rfl (by kernel_rfl) (by kernel_rfl) (by kernel_rfl) rfl rfl rfl rfl rfl rfl (Qt_neB rfl rfl rfl) ?_
      refine Aw_q 39 rfl (by kernel_rfl) (by kernel_rfl) (by kernel_rfl) rfl rfl rfl (Qt_pick_f rfl rfl) ?_
      refine Aw_done (by kernel_rfl) ?_
      refine Cw_cond_kf rfl (nt_mf ((by rw [conflict_comm x47 x49]; exact beq_self_eq_true _))) ?_
      refine Cw_skip ?_
      refine Cw_region ?_
      refine Ow_q rfl rfl rfl (Qt_arith (e := (((k : Nat) : Int) + 1)) rfl rfl rfl (wrap_eq (by omega) (by omega))) ?_
      refine Ow_q rfl rfl rfl (Qt_move rfl) ?_
      refine Ow_nil ?_
      refine ⟨_, [(9, (.slice A2 L.length cp2)), (10, (.int .i64 ((i : Nat) : Int))), (28, (.int .i64 ((L.length : Nat) : Int))), (29, (.int .i64 ((i : Nat) : Int))), (33, (.int .i64 ((L.length : Nat) : Int))), (34, (.int .i64 (((k + 1) : Nat) : Int)))], G, ⟨rfl, rfl, rfl, rfl, rfl, rfl, trivial⟩, (.refl _), (by first | omega | (simp only [List.length_append, List.length_cons, List.length_nil]; omega)), (k + 1), rfl, rfl, rfl, rfl, (by omega)⟩
    · intro h46
      have h46 := dcd_f (h46)
      refine Cw_exit ?_
      refine Cw_region ?_
      refine Ow_q rfl rfl rfl (Qt_arith (e := (((i : Nat) : Int) + 1)) rfl rfl rfl (wrap_eq (by omega) (by omega))) ?_
      refine Ow_q rfl rfl rfl (Qt_move rfl) ?_
      refine Ow_nil ?_
      refine ⟨_, [(9, (.slice A2 L.length cp2)), (28, (.int .i64 ((L.length : Nat) : Int))), (29, (.int .i64 (((i + 1) : Nat) : Int)))], G, ⟨rfl, rfl, rfl, trivial⟩, (.refl _), (by first | omega | (simp only [List.length_append, List.length_cons, List.length_nil]; omega)), (i + 1), rfl, rfl, rfl, rfl, (by omega)⟩
  · intro h45
    have h45 := dcd_f (h45)
    refine Cw_exit ?_
    refine Cw_seq ?_
    refine Cw_region ?_
    refine Ow_q rfl rfl rfl (Qt_assign rfl) ?_
    refine Ow_nil ?_
    refine Cw_ret ?_
    refine ⟨(by first | exact .inl rfl | exact .inr rfl), [(.bool true)], G, ⟨(.bool true), _, rfl, rfl, rfl⟩, .refl _, ?_⟩
    first | rfl | (exfalso; omega) | (exfalso; simp_all; done) | (simp_all [mkRes]; done)

end Go.Ghl
