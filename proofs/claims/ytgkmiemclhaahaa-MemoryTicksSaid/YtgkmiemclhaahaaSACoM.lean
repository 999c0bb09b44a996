/- Contracts of functions, walked: printed by program. -/
import Derived.Test.YtgkmiemclhaahaaProg
import Derived.Test.YtgkmiemclhaahaaGhlMore
import Derived.Test.YtgkmiemclhaahaaSAAw4
namespace Go.Ghl
open Go.Proofs
set_option linter.unusedSimpArgs false
set_option linter.unusedVariables false

set_option maxHeartbeats 1000000 in
theorem c_memory (b : Nat) (A : Option Addr) (cp : Nat) (c : Cd) (K : Kp) (G : List Ent) (hcd : Sl K (.slice A c.list.length cp) 1 (c.list.map u8c)) :
    Fc Try.prog 32 #[(.pointer (some ((⟨b, 0, none⟩ : Addr).add 0)))] K (.blk b 70 (c.cells A cp) :: G) (fun v K' G' => ∃ new e', G' = new ++ e' :: G ∧ ∃ m at', v = Mem.val m ∧ new = [] ∧ e' = .blk b 70 (Cd.cells A cp ⟨c.list, at', c.value⟩) ∧ MemOk K' m ∧ m.words.l.length ≤ 6 ∧ m.lists.l.length ≤ 2 ∧ 0 ≤ m.tick ∧ m.tick ≤ 4) := by
  refine Fc_of Try.func32 rfl Try.ntmps32 Try.results32 rfl ?_
  have hcl := Sl.le hcd
  refine Cw_seq ?_
  refine Cw_region ?_
  refine Ow_cons rfl (OpW_alloc (cs := [(.slice none 0 0), (.slice none 0 0), (.int .i64 0)]) rfl rfl rfl rfl (fun b1 => ?_))
  refine Ow_nil ?_
  refine Cw_seq ?_
  refine Cw_region ?_
  refine Ow_q rfl rfl rfl (Qt_move rfl) ?_
  have hn2 : 0 < 5 := (by first | omega | (simp only [List.length_append, List.length_cons, List.length_nil, List.length_replicate, List.length_set]; omega) | (simp; omega))
  refine Ow_cons rfl (OpW_callG (v0 := (.int .i64 (((c.next 5).1 : Nat) : Int))) rfl Try.call40 rfl rfl (Fc.at (.there .here) (fun G1 => c_next b A cp c 5 hn2 _ G1 hcd)) ?_)
  have hlt3 := Cd.next_lt c 5 hn2
  refine Ow_q rfl rfl rfl (Qt_build (cs := Mem.cells (Mem.mk (SI.mk none 0 []) (SS.mk none 0 []) (((c.next 5).1 : Nat) : Int))) rfl rfl rfl rfl rfl rfl) ?_
  refine Ow_cons rfl (OpW_alloc (cs := [(.slice none 0 0), (.slice none 0 0), (.int .i64 0)]) rfl rfl rfl rfl (fun b4 => ?_))
  refine Ow_cons rfl (OpW_store (vs := [(.slice none 0 0), (.slice none 0 0), (.int .i64 (((c.next 5).1 : Nat) : Int))]) (all' := [(.slice none 0 0), (.slice none 0 0), (.int .i64 (((c.next 5).1 : Nat) : Int))]) rfl rfl rfl rfl rfl .here rfl rfl rfl ?_)
  refine Ow_nil ?_
  refine Cw_seq ?_
  refine Cw_seq ?_
  refine Cw.nilRow 22 1 ?_
  refine Cw_region ?_
  refine Ow_q rfl rfl rfl (Qt_assign rfl) ?_
  refine Ow_nil ?_
  refine Cw_block ?_
  refine Cw_loop (S := Nat) (fun s env' K' G' => ∃ (k : Nat) (A1 : Option Addr) (cp1 : Nat) (W : List Int) (at1 : Nat), 6 - k = s ∧ [(0, (.pointer (some ((⟨b, 0, none⟩ : Addr).add 0)))), (2, (.pointer (some ((⟨b1, 0, none⟩ : Addr).add 0)))), (3, (.pointer (some ((⟨b4, 0, none⟩ : Addr).add 0)))), (4, (.int .i64 ((k : Nat) : Int)))] = env' ∧ K = K' ∧ .row (.slice A1 W.length cp1) 22 1 (((W).map u64c).flatten) :: .blk b4 49 [(.slice A1 W.length cp1), (.slice none 0 0), (.int .i64 (((c.next 5).1 : Nat) : Int))] :: .blk b1 49 [(.slice none 0 0), (.slice none 0 0), (.int .i64 0)] :: .blk b 70 [(.slice A ((Cd.mk c.list at1 c.value).list.length) cp), (.int .i64 (((Cd.mk c.list at1 c.value).at_ : Nat) : Int)), (.int .u64 ((Cd.mk c.list at1 c.value).value))] :: G = G' ∧ k ≤ 6 ∧ W.length ≤ k) (fun s => s) (6 - 0) [(0, (.pointer (some ((⟨b, 0, none⟩ : Addr).add 0)))), (2, (.pointer (some ((⟨b1, 0, none⟩ : Addr).add 0)))), (3, (.pointer (some ((⟨b4, 0, none⟩ : Addr).add 0)))), (4, (.int .i64 ((0 : Nat) : Int)))] (.row (.slice none 0 0) 22 1 (((([] : List Int)).map u64c).flatten) :: .blk b4 49 [(.slice none 0 0), (.slice none 0 0), (.int .i64 (((c.next 5).1 : Nat) : Int))] :: .blk b1 49 [(.slice none 0 0), (.slice none 0 0), (.int .i64 0)] :: .blk b 70 [(.slice A ((Cd.mk c.list (((c.next 5).2).at_) c.value).list.length) cp), (.int .i64 (((Cd.mk c.list (((c.next 5).2).at_) c.value).at_ : Nat) : Int)), (.int .u64 ((Cd.mk c.list (((c.next 5).2).at_) c.value).value))] :: G)
    ⟨0, none, 0, ([] : List Int), ((c.next 5).2).at_, rfl, rfl, rfl, rfl, (Nat.zero_le _), (Nat.le_refl _)⟩ ⟨rfl, rfl, rfl, rfl, trivial⟩ (.cons_cons _ (.cons_cons _ (.cons_cons _ (.cons_cons _ (.refl _))))) ?_
  rintro s _ _ _ - ⟨k, A1, cp1, W, at1, rfl, rfl, rfl, rfl, hk, hW⟩
  refine Cw_seq ?_
  refine Cw_seq ?_
  refine Cw_region ?_
  refine Ow_q rfl rfl rfl (Qt_move rfl) ?_
  refine Ow_q rfl rfl rfl (Qt_move rfl) ?_
  have hn5 : 0 < 6 := (by first | omega | (simp only [List.length_append, List.length_cons, List.length_nil, List.length_replicate, List.length_set]; omega) | (simp; omega))
  refine Ow_cons rfl (OpW_callG (v0 := (.int .i64 ((((Cd.mk c.list at1 c.value).next 6).1 : Nat) : Int))) rfl Try.call40 rfl rfl (Fc.at (.there (.there (.there .here))) (fun G1 => c_next b A cp (Cd.mk c.list at1 c.value) 6 hn5 _ G1 hcd)) ?_)
  have hlt6 := Cd.next_lt (Cd.mk c.list at1 c.value) 6 hn5
  refine Ow_q rfl rfl rfl (Qt_arith (e := (((((Cd.mk c.list at1 c.value).next 6).1 : Nat) : Int) + 1)) rfl rfl rfl (wrap_eq (by omega) (by omega))) ?_
  refine Ow_q rfl rfl rfl (Qt_cmp rfl rfl rfl) ?_
  refine Ow_nil ?_
  refine Cw_cond rfl ?_ ?_
  · intro h7
    have h7 := dcd_t (h7)
    refine Cw_skip ?_
    refine Cw_seq ?_
    refine Cw_block ?_
    refine Cw_region_any [.blk b1 49 [(.slice none 0 0), (.slice none 0 0), (.int .i64 0)]] rfl (Inc.cons (.tail _ (.tail _ (.head _))) Inc.nil) ?_
    refine Aw_q 0 rfl (by kernel_rfl) (by kernel_rfl) (by kernel_rfl) rfl rfl rfl (Qt_fieldAddr (m := 0) rfl rfl rfl rfl rfl) ?_
    refine Aw_q 2 rfl (by kernel_rfl) (by kernel_rfl) (by kernel_rfl) rfl rfl rfl (Qt_move rfl) ?_
    refine Aw_two 1 3 (by kernel_rfl) ?_ ?_
    · skip
      refine id (Ax_mk rfl rfl (OpW_of_Qt rfl rfl (Qt_load1 (v := (.slice A1 W.length cp1)) rfl rfl rfl (Rdc.blk (.tail _ (.head _)) rfl)) ⟨(Inc.cons (.tail _ (.tail _ (.head _))) Inc.nil), ?_⟩))
      have hn8 : 0 < 4 := (by first | omega | (simp only [List.length_append, List.length_cons, List.length_nil, List.length_replicate, List.length_set]; omega) | (simp; omega))
      refine Aw_one 3 (by kernel_rfl) (Ax_mk rfl rfl (OpW_callG (v0 := (.int .i64 ((((((Cd.mk c.list at1 c.value).next 6).2).next 4).1 : Nat) : Int))) rfl Try.call40 rfl rfl (Fc.at (.there (.there (.there .here))) (fun G1 => c_next b A cp (((Cd.mk c.list at1 c.value).next 6).2) 4 hn8 _ G1 hcd)) ⟨(Inc.cons (.tail _ (.tail _ (.head _))) Inc.nil), ?_⟩))
      have hlt9 := Cd.next_lt (((Cd.mk c.list at1 c.value).next 6).2) 4 hn8
      refine Aw_q 4 rfl (by kernel_rfl) (by kernel_rfl) (by kernel_rfl) rfl rfl rfl (Qt_conv (c := ((((((Cd.mk c.list at1 c.value).next 6).2).next 4).1 : Nat) : Int)) rfl rfl rfl (IntWalk.u64_in _ (by omega))) ?_
      refine Aw_one 5 (by kernel_rfl) (Ax_mk rfl rfl (OpW_buildSliceX (xs := (([((((((Cd.mk c.list at1 c.value).next 6).2).next 4).1 : Nat) : Int)]).map u64c).flatten) rfl rfl rfl rfl rfl rfl rfl rfl rfl rfl rfl (fun a10 => ⟨(Inc.cons (.tail _ (.tail _ (.tail _ (.head _)))) Inc.nil), ?_⟩)))
      refine Aw_one 6 (by kernel_rfl) (Ax_mk rfl rfl (OpW_appendT (bytes := 8) (L := W) (M := [((((((Cd.mk c.list at1 c.value).next 6).2).next 4).1 : Nat) : Int)]) Enc.u64 rfl rfl rfl (.tail _ (.head _)) (Src.row (.head _)) (by first | rfl | (simp; done) | (simp; omega)) rfl rfl rfl rfl rfl rfl rfl rfl (by first | omega | (simp only [List.length_append, List.length_cons, List.length_nil, List.length_replicate, List.length_set]; omega) | (simp; omega)) (by first | omega | (simp only [List.length_append, List.length_cons, List.length_nil, List.length_replicate, List.length_set]; omega) | (simp; omega)) ?_))
      intro A11 cp12 hA13
      obtain ⟨a14, rfl⟩ := hA13 (by first | (simp; done) | (simp; omega))
      refine ⟨_, (.there .here), ?_⟩
      refine ⟨(Inc.cons (.tail _ (.tail _ (.tail _ (.head _)))) Inc.nil), ?_⟩
      refine Aw_q 7 rfl (by kernel_rfl) (by kernel_rfl) (by kernel_rfl) rfl rfl rfl (Qt_fieldAddr (m := 0) rfl rfl rfl rfl rfl) ?_
      refine Aw_one 8 (by kernel_rfl) (Ax_mk rfl rfl (OpW_store (vs := [(.slice (some a14) ((W ++ [((((((Cd.mk c.list at1 c.value).next 6).2).next 4).1 : Nat) : Int)]).length) cp12)]) (all' := [(.slice (some a14) ((W ++ [((((((Cd.mk c.list at1 c.value).next 6).2).next 4).1 : Nat) : Int)]).length) cp12), (.slice none 0 0), (.int .i64 (((c.next 5).1 : Nat) : Int))]) rfl rfl rfl rfl rfl (.there (.there .here)) rfl rfl rfl ⟨(Inc.cons (.tail _ (.tail _ (.tail _ (.head _)))) Inc.nil), ?_⟩))
      refine Aw_done (by kernel_rfl) ?_
      refine Cw_region ?_
      refine Ow_q rfl rfl rfl (Qt_move rfl) ?_
      refine Ow_q rfl rfl rfl (Qt_arith (e := (((k : Nat) : Int) + 1)) rfl rfl rfl (wrap_eq (by omega) (by omega))) ?_
      refine Ow_q rfl rfl rfl (Qt_assign rfl) ?_
      refine Ow_nil ?_
      refine ⟨_, [(0, (.pointer (some ((⟨b, 0, none⟩ : Addr).add 0)))), (2, (.pointer (some ((⟨b1, 0, none⟩ : Addr).add 0)))), (3, (.pointer (some ((⟨b4, 0, none⟩ : Addr).add 0)))), (4, (.int .i64 (((k + 1) : Nat) : Int)))], .row (.slice (some a14) ((W ++ [((((((Cd.mk c.list at1 c.value).next 6).2).next 4).1 : Nat) : Int)]).length) cp12) 22 1 ((((W ++ [((((((Cd.mk c.list at1 c.value).next 6).2).next 4).1 : Nat) : Int)])).map u64c).flatten) :: .blk b4 49 [(.slice (some a14) ((W ++ [((((((Cd.mk c.list at1 c.value).next 6).2).next 4).1 : Nat) : Int)]).length) cp12), (.slice none 0 0), (.int .i64 (((c.next 5).1 : Nat) : Int))] :: .blk b1 49 [(.slice none 0 0), (.slice none 0 0), (.int .i64 0)] :: .blk b 70 [(.slice A ((Cd.mk c.list ((((((Cd.mk c.list at1 c.value).next 6).2).next 4).2).at_) c.value).list.length) cp), (.int .i64 (((Cd.mk c.list ((((((Cd.mk c.list at1 c.value).next 6).2).next 4).2).at_) c.value).at_ : Nat) : Int)), (.int .u64 ((Cd.mk c.list ((((((Cd.mk c.list at1 c.value).next 6).2).next 4).2).at_) c.value).value))] :: G, ⟨rfl, rfl, rfl, rfl, trivial⟩, (.cons _ (.cons_cons _ (.cons_cons _ (.cons_cons _ (.cons_cons _ (.refl _)))))), (by first | omega | (simp only [List.length_append, List.length_cons, List.length_nil]; omega)), (k + 1), (some a14), cp12, (W ++ [((((((Cd.mk c.list at1 c.value).next 6).2).next 4).1 : Nat) : Int)]), (((((Cd.mk c.list at1 c.value).next 6).2).next 4).2).at_, rfl, rfl, rfl, rfl, (by omega), (by first | omega | (simp only [List.length_append, List.length_cons, List.length_nil, List.length_replicate, List.length_set]; omega) | (simp; omega))⟩
    · skip
      have hn15 : 0 < 4 := (by first | omega | (simp only [List.length_append, List.length_cons, List.length_nil, List.length_replicate, List.length_set]; omega) | (simp; omega))
      refine id (Ax_mk rfl rfl (OpW_callG (v0 := (.int .i64 ((((((Cd.mk c.list at1 c.value).next 6).2).next 4).1 : Nat) : Int))) rfl Try.call40 rfl rfl (Fc.at (.there (.there (.there .here))) (fun G1 => c_next b A cp (((Cd.mk c.list at1 c.value).next 6).2) 4 hn15 _ G1 hcd)) ⟨(Inc.cons (.tail _ (.tail _ (.head _))) Inc.nil), ?_⟩))
      have hlt16 := Cd.next_lt (((Cd.mk c.list at1 c.value).next 6).2) 4 hn15
      refine Aw_q 4 rfl (by kernel_rfl) (by kernel_rfl) (by kernel_rfl) rfl rfl rfl (Qt_conv (c := ((((((Cd.mk c.list at1 c.value).next 6).2).next 4).1 : Nat) : Int)) rfl rfl rfl (IntWalk.u64_in _ (by omega))) ?_
      refine Aw_two 1 5 (by kernel_rfl) ?_ ?_
      · skip
        refine id (Ax_mk rfl rfl (OpW_of_Qt rfl rfl (Qt_load1 (v := (.slice A1 W.length cp1)) rfl rfl rfl (Rdc.blk (.tail _ (.head _)) rfl)) ⟨(Inc.cons (.tail _ (.tail _ (.head _))) Inc.nil), ?_⟩))
        refine Aw_one 5 (by kernel_rfl) (Ax_mk rfl rfl (OpW_buildSliceX (xs := (([((((((Cd.mk c.list at1 c.value).next 6).2).next 4).1 : Nat) : Int)]).map u64c).flatten) rfl rfl rfl rfl rfl rfl rfl rfl rfl rfl rfl (fun a17 => ⟨(Inc.cons (.tail _ (.tail _ (.tail _ (.head _)))) Inc.nil), ?_⟩)))
        refine Aw_one 6 (by kernel_rfl) (Ax_mk rfl rfl (OpW_appendT (bytes := 8) (L := W) (M := [((((((Cd.mk c.list at1 c.value).next 6).2).next 4).1 : Nat) : Int)]) Enc.u64 rfl rfl rfl (.tail _ (.head _)) (Src.row (.head _)) (by first | rfl | (simp; done) | (simp; omega)) rfl rfl rfl rfl rfl rfl rfl rfl (by first | omega | (simp only [List.length_append, List.length_cons, List.length_nil, List.length_replicate, List.length_set]; omega) | (simp; omega)) (by first | omega | (simp only [List.length_append, List.length_cons, List.length_nil, List.length_replicate, List.length_set]; omega) | (simp; omega)) ?_))
        intro A18 cp19 hA20
        obtain ⟨a21, rfl⟩ := hA20 (by first | (simp; done) | (simp; omega))
        refine ⟨_, (.there .here), ?_⟩
        refine ⟨(Inc.cons (.tail _ (.tail _ (.tail _ (.head _)))) Inc.nil), ?_⟩
        refine Aw_q 7 rfl (by kernel_rfl) (by kernel_rfl) (by kernel_rfl) rfl rfl rfl (Qt_fieldAddr (m := 0) rfl rfl rfl rfl rfl) ?_
        refine Aw_one 8 (by kernel_rfl) (Ax_mk rfl rfl (OpW_store (vs := [(.slice (some a21) ((W ++ [((((((Cd.mk c.list at1 c.value).next 6).2).next 4).1 : Nat) : Int)]).length) cp19)]) (all' := [(.slice (some a21) ((W ++ [((((((Cd.mk c.list at1 c.value).next 6).2).next 4).1 : Nat) : Int)]).length) cp19), (.slice none 0 0), (.int .i64 (((c.next 5).1 : Nat) : Int))]) rfl rfl rfl rfl rfl (.there (.there .here)) rfl rfl rfl ⟨(Inc.cons (.tail _ (.tail _ (.tail _ (.head _)))) Inc.nil), ?_⟩))
        refine Aw_done (by kernel_rfl) ?_
        refine Cw_region ?_
        refine Ow_q rfl rfl rfl (Qt_move rfl) ?_
        refine Ow_q rfl rfl rfl (Qt_arith (e := (((k : Nat) : Int) + 1)) rfl rfl rfl (wrap_eq (by omega) (by omega))) ?_
        refine Ow_q rfl rfl rfl (Qt_assign rfl) ?_
        refine Ow_nil ?_
        refine ⟨_, [(0, (.pointer (some ((⟨b, 0, none⟩ : Addr).add 0)))), (2, (.pointer (some ((⟨b1, 0, none⟩ : Addr).add 0)))), (3, (.pointer (some ((⟨b4, 0, none⟩ : Addr).add 0)))), (4, (.int .i64 (((k + 1) : Nat) : Int)))], .row (.slice (some a21) ((W ++ [((((((Cd.mk c.list at1 c.value).next 6).2).next 4).1 : Nat) : Int)]).length) cp19) 22 1 ((((W ++ [((((((Cd.mk c.list at1 c.value).next 6).2).next 4).1 : Nat) : Int)])).map u64c).flatten) :: .blk b4 49 [(.slice (some a21) ((W ++ [((((((Cd.mk c.list at1 c.value).next 6).2).next 4).1 : Nat) : Int)]).length) cp19), (.slice none 0 0), (.int .i64 (((c.next 5).1 : Nat) : Int))] :: .blk b1 49 [(.slice none 0 0), (.slice none 0 0), (.int .i64 0)] :: .blk b 70 [(.slice A ((Cd.mk c.list ((((((Cd.mk c.list at1 c.value).next 6).2).next 4).2).at_) c.value).list.length) cp), (.int .i64 (((Cd.mk c.list ((((((Cd.mk c.list at1 c.value).next 6).2).next 4).2).at_) c.value).at_ : Nat) : Int)), (.int .u64 ((Cd.mk c.list ((((((Cd.mk c.list at1 c.value).next 6).2).next 4).2).at_) c.value).value))] :: G, ⟨rfl, rfl, rfl, rfl, trivial⟩, (.cons _ (.cons_cons _ (.cons_cons _ (.cons_cons _ (.cons_cons _ (.refl _)))))), (by first | omega | (simp only [List.length_append, List.length_cons, List.length_nil]; omega)), (k + 1), (some a21), cp19, (W ++ [((((((Cd.mk c.list at1 c.value).next 6).2).next 4).1 : Nat) : Int)]), (((((Cd.mk c.list at1 c.value).next 6).2).next 4).2).at_, rfl, rfl, rfl, rfl, (by omega), (by first | omega | (simp only [List.length_append, List.length_cons, List.length_nil, List.length_replicate, List.length_set]; omega) | (simp; omega))⟩
      · skip
        refine id (Ax_mk rfl rfl (OpW_buildSliceX (xs := (([((((((Cd.mk c.list at1 c.value).next 6).2).next 4).1 : Nat) : Int)]).map u64c).flatten) rfl rfl rfl rfl rfl rfl rfl rfl rfl rfl rfl (fun a22 => ⟨(Inc.cons (.tail _ (.tail _ (.tail _ (.head _)))) Inc.nil), ?_⟩)))
        refine Aw_one 1 (by kernel_rfl) (Ax_mk rfl rfl (OpW_of_Qt rfl rfl (Qt_load1 (v := (.slice A1 W.length cp1)) rfl rfl rfl (Rdc.blk (.tail _ (.tail _ (.head _))) rfl)) ⟨(Inc.cons (.tail _ (.tail _ (.tail _ (.head _)))) Inc.nil), ?_⟩))
        refine Aw_one 6 (by kernel_rfl) (Ax_mk rfl rfl (OpW_appendT (bytes := 8) (L := W) (M := [((((((Cd.mk c.list at1 c.value).next 6).2).next 4).1 : Nat) : Int)]) Enc.u64 rfl rfl rfl (.tail _ (.head _)) (Src.row (.head _)) (by first | rfl | (simp; done) | (simp; omega)) rfl rfl rfl rfl rfl rfl rfl rfl (by first | omega | (simp only [List.length_append, List.length_cons, List.length_nil, List.length_replicate, List.length_set]; omega) | (simp; omega)) (by first | omega | (simp only [List.length_append, List.length_cons, List.length_nil, List.length_replicate, List.length_set]; omega) | (simp; omega)) ?_))
        intro A23 cp24 hA25
        obtain ⟨a26, rfl⟩ := hA25 (by first | (simp; done) | (simp; omega))
        refine ⟨_, (.there .here), ?_⟩
        refine ⟨(Inc.cons (.tail _ (.tail _ (.tail _ (.head _)))) Inc.nil), ?_⟩
        refine Aw_q 7 rfl (by kernel_rfl) (by kernel_rfl) (by kernel_rfl) rfl rfl rfl (Qt_fieldAddr (m := 0) rfl rfl rfl rfl rfl) ?_
        refine Aw_one 8 (by kernel_rfl) (Ax_mk rfl rfl (OpW_store (vs := [(.slice (some a26) ((W ++ [((((((Cd.mk c.list at1 c.value).next 6).2).next 4).1 : Nat) : Int)]).length) cp24)]) (all' := [(.slice (some a26) ((W ++ [((((((Cd.mk c.list at1 c.value).next 6).2).next 4).1 : Nat) : Int)]).length) cp24), (.slice none 0 0), (.int .i64 (((c.next 5).1 : Nat) : Int))]) rfl rfl rfl rfl rfl (.there (.there .here)) rfl rfl rfl ⟨(Inc.cons (.tail _ (.tail _ (.tail _ (.head _)))) Inc.nil), ?_⟩))
        refine Aw_done (by kernel_rfl) ?_
        refine Cw_region ?_
        refine Ow_q rfl rfl rfl (Qt_move rfl) ?_
        refine Ow_q rfl rfl rfl (Qt_arith (e := (((k : Nat) : Int) + 1)) rfl rfl rfl (wrap_eq (by omega) (by omega))) ?_
        refine Ow_q rfl rfl rfl (Qt_assign rfl) ?_
        refine Ow_nil ?_
        refine ⟨_, [(0, (.pointer (some ((⟨b, 0, none⟩ : Addr).add 0)))), (2, (.pointer (some ((⟨b1, 0, none⟩ : Addr).add 0)))), (3, (.pointer (some ((⟨b4, 0, none⟩ : Addr).add 0)))), (4, (.int .i64 (((k + 1) : Nat) : Int)))], .row (.slice (some a26) ((W ++ [((((((Cd.mk c.list at1 c.value).next 6).2).next 4).1 : Nat) : Int)]).length) cp24) 22 1 ((((W ++ [((((((Cd.mk c.list at1 c.value).next 6).2).next 4).1 : Nat) : Int)])).map u64c).flatten) :: .blk b4 49 [(.slice (some a26) ((W ++ [((((((Cd.mk c.list at1 c.value).next 6).2).next 4).1 : Nat) : Int)]).length) cp24), (.slice none 0 0), (.int .i64 (((c.next 5).1 : Nat) : Int))] :: .blk b1 49 [(.slice none 0 0), (.slice none 0 0), (.int .i64 0)] :: .blk b 70 [(.slice A ((Cd.mk c.list ((((((Cd.mk c.list at1 c.value).next 6).2).next 4).2).at_) c.value).list.length) cp), (.int .i64 (((Cd.mk c.list ((((((Cd.mk c.list at1 c.value).next 6).2).next 4).2).at_) c.value).at_ : Nat) : Int)), (.int .u64 ((Cd.mk c.list ((((((Cd.mk c.list at1 c.value).next 6).2).next 4).2).at_) c.value).value))] :: G, ⟨rfl, rfl, rfl, rfl, trivial⟩, (.cons _ (.cons_cons _ (.cons_cons _ (.cons_cons _ (.cons_cons _ (.refl _)))))), (by first | omega | (simp only [List.length_append, List.length_cons, List.length_nil]; omega)), (k + 1), (some a26), cp24, (W ++ [((((((Cd.mk c.list at1 c.value).next 6).2).next 4).1 : Nat) : Int)]), (((((Cd.mk c.list at1 c.value).next 6).2).next 4).2).at_, rfl, rfl, rfl, rfl, (by omega), (by first | omega | (simp only [List.length_append, List.length_cons, List.length_nil, List.length_replicate, List.length_set]; omega) | (simp; omega))⟩
  · intro h7
    have h7 := dcd_f (h7)
    refine Cw_exit ?_
    refine Cw_seq ?_
    refine Cw_seq ?_
    refine Cw.settleT Enc.u64 rfl (.here) ?_
    intro K27 hK28 hs29
    have hs30 := hcd.mono hK28
    have hl31 := Sl.le hs29
    refine Cw.nilRow 38 1 ?_
    refine Cw_region ?_
    refine Ow_q rfl rfl rfl (Qt_assign rfl) ?_
    refine Ow_nil ?_
    refine Cw_block ?_
    refine Cw_loop (S := Nat) (fun s env' K' G' => ∃ (j : Nat) (A2 : Option Addr) (cp2 : Nat) (L : List SI) (at2 : Nat), 2 - j = s ∧ [(0, (.pointer (some ((⟨b, 0, none⟩ : Addr).add 0)))), (2, (.pointer (some ((⟨b1, 0, none⟩ : Addr).add 0)))), (3, (.pointer (some ((⟨b4, 0, none⟩ : Addr).add 0)))), (5, (.int .i64 ((j : Nat) : Int)))] = env' ∧ .row (.slice A2 L.length cp2) 38 1 (((L).map SI.cells).flatten) :: .blk b4 49 [(.slice A1 W.length cp1), (.slice A2 L.length cp2), (.int .i64 (((c.next 5).1 : Nat) : Int))] :: .blk b1 49 [(.slice none 0 0), (.slice none 0 0), (.int .i64 0)] :: .blk b 70 [(.slice A ((Cd.mk c.list at2 c.value).list.length) cp), (.int .i64 (((Cd.mk c.list at2 c.value).at_ : Nat) : Int)), (.int .u64 ((Cd.mk c.list at2 c.value).value))] :: G = G' ∧ j ≤ 2 ∧ L.length ≤ j ∧ SlAll K' i64c L) (fun s => s) (2 - 0) [(0, (.pointer (some ((⟨b, 0, none⟩ : Addr).add 0)))), (2, (.pointer (some ((⟨b1, 0, none⟩ : Addr).add 0)))), (3, (.pointer (some ((⟨b4, 0, none⟩ : Addr).add 0)))), (5, (.int .i64 ((0 : Nat) : Int)))] (.row (.slice none 0 0) 38 1 (((([] : List SI)).map SI.cells).flatten) :: .blk b4 49 [(.slice A1 W.length cp1), (.slice none 0 0), (.int .i64 (((c.next 5).1 : Nat) : Int))] :: .blk b1 49 [(.slice none 0 0), (.slice none 0 0), (.int .i64 0)] :: .blk b 70 [(.slice A ((Cd.mk c.list ((((Cd.mk c.list at1 c.value).next 6).2).at_) c.value).list.length) cp), (.int .i64 (((Cd.mk c.list ((((Cd.mk c.list at1 c.value).next 6).2).at_) c.value).at_ : Nat) : Int)), (.int .u64 ((Cd.mk c.list ((((Cd.mk c.list at1 c.value).next 6).2).at_) c.value).value))] :: G)
      ⟨0, none, 0, ([] : List SI), (((Cd.mk c.list at1 c.value).next 6).2).at_, rfl, rfl, rfl, (Nat.zero_le _), (Nat.le_refl _), SlAll.nil⟩ ⟨rfl, rfl, rfl, rfl, trivial⟩ (.cons_cons _ (.cons_cons _ (.cons_cons _ (.cons_cons _ (.refl _))))) ?_
    rintro s _ K32 _ hK33 ⟨j, A2, cp2, L, at2, rfl, rfl, rfl, hj, hL, hX⟩
    have hs34 := hs30.mono hK33
    have hs35 := hs29.mono hK33
    refine Cw_seq ?_
    refine Cw_seq ?_
    refine Cw_region ?_
    refine Ow_q rfl rfl rfl (Qt_move rfl) ?_
    refine Ow_q rfl rfl rfl (Qt_move rfl) ?_
    have hn36 : 0 < 3 := (by first | omega | (simp only [List.length_append, List.length_cons, List.length_nil, List.length_replicate, List.length_set]; omega) | (simp; omega))
    refine Ow_cons rfl (OpW_callG (v0 := (.int .i64 ((((Cd.mk c.list at2 c.value).next 3).1 : Nat) : Int))) rfl Try.call40 rfl rfl (Fc.at (.there (.there (.there .here))) (fun G1 => c_next b A cp (Cd.mk c.list at2 c.value) 3 hn36 _ G1 hs34)) ?_)
    have hlt37 := Cd.next_lt (Cd.mk c.list at2 c.value) 3 hn36
    refine Ow_q rfl rfl rfl (Qt_cmp rfl rfl rfl) ?_
    refine Ow_nil ?_
    refine Cw_cond rfl ?_ ?_
    · intro h38
      have h38 := dcd_t (h38)
      refine Cw_skip ?_
      refine Cw_seq ?_
      refine Cw_block ?_
      refine Cw_seq ?_
      refine Cw_region ?_
      refine Ow_q rfl rfl rfl (Qt_assign rfl) ?_
      refine Ow_nil ?_
      refine Cw_seq ?_
      refine Cw_seq ?_
      refine Cw.nilRow 3 1 ?_
      refine Cw_region ?_
      refine Ow_q rfl rfl rfl (Qt_assign rfl) ?_
      refine Ow_nil ?_
      refine Cw_block ?_
      refine Cw_loop (S := Nat) (fun s env' K' G' => ∃ (q : Nat) (A3 : Option Addr) (cp3 : Nat) (L3 : List Int) (at3 : Nat), 3 - q = s ∧ [(0, (.pointer (some ((⟨b, 0, none⟩ : Addr).add 0)))), (2, (.pointer (some ((⟨b1, 0, none⟩ : Addr).add 0)))), (3, (.pointer (some ((⟨b4, 0, none⟩ : Addr).add 0)))), (5, (.int .i64 ((j : Nat) : Int))), (7, (.int .i64 ((q : Nat) : Int))), (6, (.slice A3 L3.length cp3))] = env' ∧ K32 = K' ∧ .row (.slice A3 L3.length cp3) 3 1 (((L3).map i64c).flatten) :: .row (.slice A2 L.length cp2) 38 1 (((L).map SI.cells).flatten) :: .blk b4 49 [(.slice A1 W.length cp1), (.slice A2 L.length cp2), (.int .i64 (((c.next 5).1 : Nat) : Int))] :: .blk b1 49 [(.slice none 0 0), (.slice none 0 0), (.int .i64 0)] :: .blk b 70 [(.slice A ((Cd.mk c.list at3 c.value).list.length) cp), (.int .i64 (((Cd.mk c.list at3 c.value).at_ : Nat) : Int)), (.int .u64 ((Cd.mk c.list at3 c.value).value))] :: G = G' ∧ q ≤ 3 ∧ L3.length ≤ q) (fun s => s) (3 - 0) [(0, (.pointer (some ((⟨b, 0, none⟩ : Addr).add 0)))), (2, (.pointer (some ((⟨b1, 0, none⟩ : Addr).add 0)))), (3, (.pointer (some ((⟨b4, 0, none⟩ : Addr).add 0)))), (5, (.int .i64 ((j : Nat) : Int))), (7, (.int .i64 ((0 : Nat) : Int))), (6, (.slice none 0 0))] (.row (.slice none 0 0) 3 1 (((([] : List Int)).map i64c).flatten) :: .row (.slice A2 L.length cp2) 38 1 (((L).map SI.cells).flatten) :: .blk b4 49 [(.slice A1 W.length cp1), (.slice A2 L.length cp2), (.int .i64 (((c.next 5).1 : Nat) : Int))] :: .blk b1 49 [(.slice none 0 0), (.slice none 0 0), (.int .i64 0)] :: .blk b 70 [(.slice A ((Cd.mk c.list ((((Cd.mk c.list at2 c.value).next 3).2).at_) c.value).list.length) cp), (.int .i64 (((Cd.mk c.list ((((Cd.mk c.list at2 c.value).next 3).2).at_) c.value).at_ : Nat) : Int)), (.int .u64 ((Cd.mk c.list ((((Cd.mk c.list at2 c.value).next 3).2).at_) c.value).value))] :: G)
        ⟨0, none, 0, ([] : List Int), (((Cd.mk c.list at2 c.value).next 3).2).at_, rfl, rfl, rfl, rfl, (Nat.zero_le _), (Nat.le_refl _)⟩ ⟨rfl, rfl, rfl, rfl, rfl, rfl, trivial⟩ (.cons_cons _ (.cons_cons _ (.cons_cons _ (.cons_cons _ (.cons_cons _ (.refl _)))))) ?_
      rintro s _ _ _ - ⟨q, A3, cp3, L3, at3, rfl, rfl, rfl, rfl, hq, hL3⟩
      refine Cw_seq ?_
      refine Cw_seq ?_
      refine Cw_region ?_
      refine Ow_q rfl rfl rfl (Qt_move rfl) ?_
      refine Ow_q rfl rfl rfl (Qt_move rfl) ?_
      have hn39 : 0 < 4 := (by first | omega | (simp only [List.length_append, List.length_cons, List.length_nil, List.length_replicate, List.length_set]; omega) | (simp; omega))
      refine Ow_cons rfl (OpW_callG (v0 := (.int .i64 ((((Cd.mk c.list at3 c.value).next 4).1 : Nat) : Int))) rfl Try.call40 rfl rfl (Fc.at (.there (.there (.there (.there .here)))) (fun G1 => c_next b A cp (Cd.mk c.list at3 c.value) 4 hn39 _ G1 hs34)) ?_)
      have hlt40 := Cd.next_lt (Cd.mk c.list at3 c.value) 4 hn39
      refine Ow_q rfl rfl rfl (Qt_cmp rfl rfl rfl) ?_
      refine Ow_nil ?_
      refine Cw_cond rfl ?_ ?_
      · intro h41
        have h41 := dcd_t (h41)
        refine Cw_skip ?_
        refine Cw_seq ?_
        refine Cw_block ?_
        refine Cw_region ?_
        refine Ow_q rfl rfl rfl (Qt_move rfl) ?_
        refine Ow_q rfl rfl rfl (Qt_move rfl) ?_
        have hn42 : 0 < 4 := (by first | omega | (simp only [List.length_append, List.length_cons, List.length_nil, List.length_replicate, List.length_set]; omega) | (simp; omega))
        refine Ow_cons rfl (OpW_callG (v0 := (.int .i64 ((((((Cd.mk c.list at3 c.value).next 4).2).next 4).1 : Nat) : Int))) rfl Try.call40 rfl rfl (Fc.at (.there (.there (.there (.there .here)))) (fun G1 => c_next b A cp (((Cd.mk c.list at3 c.value).next 4).2) 4 hn42 _ G1 hs34)) ?_)
        have hlt43 := Cd.next_lt (((Cd.mk c.list at3 c.value).next 4).2) 4 hn42
        refine Ow_cons rfl (OpW_buildSliceX (xs := (([((((((Cd.mk c.list at3 c.value).next 4).2).next 4).1 : Nat) : Int)]).map i64c).flatten) rfl rfl rfl rfl rfl rfl rfl rfl rfl rfl rfl (fun a44 => ?_))
        refine Ow_cons rfl (OpW_appendT (bytes := 8) (L := L3) (M := [((((((Cd.mk c.list at3 c.value).next 4).2).next 4).1 : Nat) : Int)]) Enc.i64 rfl rfl rfl (.tail _ (.head _)) (Src.row (.head _)) (by first | rfl | (simp; done) | (simp; omega)) rfl rfl rfl rfl rfl rfl rfl rfl (by first | omega | (simp only [List.length_append, List.length_cons, List.length_nil, List.length_replicate, List.length_set]; omega) | (simp; omega)) (by first | omega | (simp only [List.length_append, List.length_cons, List.length_nil, List.length_replicate, List.length_set]; omega) | (simp; omega)) ?_)
        intro A45 cp46 hA47
        obtain ⟨a48, rfl⟩ := hA47 (by first | (simp; done) | (simp; omega))
        refine ⟨_, (.there .here), ?_⟩
        refine Ow_q rfl rfl rfl (Qt_assign rfl) ?_
        refine Ow_nil ?_
        refine Cw_region ?_
        refine Ow_q rfl rfl rfl (Qt_move rfl) ?_
        refine Ow_q rfl rfl rfl (Qt_arith (e := (((q : Nat) : Int) + 1)) rfl rfl rfl (wrap_eq (by omega) (by omega))) ?_
        refine Ow_q rfl rfl rfl (Qt_assign rfl) ?_
        refine Ow_nil ?_
        refine ⟨_, [(0, (.pointer (some ((⟨b, 0, none⟩ : Addr).add 0)))), (2, (.pointer (some ((⟨b1, 0, none⟩ : Addr).add 0)))), (3, (.pointer (some ((⟨b4, 0, none⟩ : Addr).add 0)))), (5, (.int .i64 ((j : Nat) : Int))), (7, (.int .i64 (((q + 1) : Nat) : Int))), (6, (.slice (some a48) ((L3 ++ [((((((Cd.mk c.list at3 c.value).next 4).2).next 4).1 : Nat) : Int)]).length) cp46))], .row (.slice (some a48) ((L3 ++ [((((((Cd.mk c.list at3 c.value).next 4).2).next 4).1 : Nat) : Int)]).length) cp46) 3 1 ((((L3 ++ [((((((Cd.mk c.list at3 c.value).next 4).2).next 4).1 : Nat) : Int)])).map i64c).flatten) :: .row (.slice A2 L.length cp2) 38 1 (((L).map SI.cells).flatten) :: .blk b4 49 [(.slice A1 W.length cp1), (.slice A2 L.length cp2), (.int .i64 (((c.next 5).1 : Nat) : Int))] :: .blk b1 49 [(.slice none 0 0), (.slice none 0 0), (.int .i64 0)] :: .blk b 70 [(.slice A ((Cd.mk c.list ((((((Cd.mk c.list at3 c.value).next 4).2).next 4).2).at_) c.value).list.length) cp), (.int .i64 (((Cd.mk c.list ((((((Cd.mk c.list at3 c.value).next 4).2).next 4).2).at_) c.value).at_ : Nat) : Int)), (.int .u64 ((Cd.mk c.list ((((((Cd.mk c.list at3 c.value).next 4).2).next 4).2).at_) c.value).value))] :: G, ⟨rfl, rfl, rfl, rfl, rfl, rfl, trivial⟩, (.cons _ (.cons_cons _ (.cons_cons _ (.cons_cons _ (.cons_cons _ (.cons_cons _ (.refl _))))))), (by first | omega | (simp only [List.length_append, List.length_cons, List.length_nil]; omega)), (q + 1), (some a48), cp46, (L3 ++ [((((((Cd.mk c.list at3 c.value).next 4).2).next 4).1 : Nat) : Int)]), (((((Cd.mk c.list at3 c.value).next 4).2).next 4).2).at_, rfl, rfl, rfl, rfl, (by omega), (by first | omega | (simp only [List.length_append, List.length_cons, List.length_nil, List.length_replicate, List.length_set]; omega) | (simp; omega))⟩
      · intro h41
        have h41 := dcd_f (h41)
        refine Cw_exit ?_
        refine Cw.settleT Enc.i64 rfl (.here) ?_
        intro K49 hK50 hs51
        have hs52 := hs34.mono hK50
        have hs53 := hs35.mono hK50
        have hs54 := hX.mono hK50
        have hl55 := Sl.le hs51
        refine Cw_region ?_
        refine Ow_q rfl rfl rfl (Qt_fieldAddr (m := 1) rfl rfl rfl rfl rfl) ?_
        refine Ow_q rfl rfl rfl (Qt_load1 (v := (.slice A2 L.length cp2)) rfl rfl rfl (Rdc.blk (.tail _ (.head _)) rfl)) ?_
        refine Ow_q rfl rfl rfl (Qt_move rfl) ?_
        have hX56 : SlAll K49 i64c [(SI.mk A3 cp3 L3)] := (SlAll.cons (y := (SI.mk A3 cp3 L3)) hs51 (by first | omega | (simp only [List.length_append, List.length_cons, List.length_nil, List.length_replicate, List.length_set]; omega) | (simp; omega)) SlAll.nil)
        refine Ow_cons rfl (OpW_buildSliceX (xs := (([(SI.mk A3 cp3 L3)]).map SI.cells).flatten) rfl rfl rfl rfl rfl rfl rfl rfl rfl rfl rfl (fun a57 => ?_))
        have hX61 := SlAll.append hs54 hX56
        refine Ow_cons rfl (OpW_appendT (bytes := 24) (L := L) (M := [(SI.mk A3 cp3 L3)]) Enc.si rfl rfl rfl (.tail _ (.head _)) (Src.row (.head _)) (by first | rfl | (simp; done) | (simp; omega)) rfl rfl rfl rfl rfl rfl rfl rfl (by first | omega | (simp only [List.length_append, List.length_cons, List.length_nil, List.length_replicate, List.length_set]; omega) | (simp; omega)) (by first | omega | (simp only [List.length_append, List.length_cons, List.length_nil, List.length_replicate, List.length_set]; omega) | (simp; omega)) ?_)
        intro A58 cp59 hA60
        obtain ⟨a62, rfl⟩ := hA60 (by first | (simp; done) | (simp; omega))
        refine ⟨_, (.there .here), ?_⟩
        refine Ow_q rfl rfl rfl (Qt_fieldAddr (m := 1) rfl rfl rfl rfl rfl) ?_
        refine Ow_cons rfl (OpW_store (vs := [(.slice (some a62) ((L ++ [(SI.mk A3 cp3 L3)]).length) cp59)]) (all' := [(.slice A1 W.length cp1), (.slice (some a62) ((L ++ [(SI.mk A3 cp3 L3)]).length) cp59), (.int .i64 (((c.next 5).1 : Nat) : Int))]) rfl rfl rfl rfl rfl (.there (.there .here)) rfl rfl rfl ?_)
        refine Ow_nil ?_
        refine Cw_region ?_
        refine Ow_q rfl rfl rfl (Qt_move rfl) ?_
        refine Ow_q rfl rfl rfl (Qt_arith (e := (((j : Nat) : Int) + 1)) rfl rfl rfl (wrap_eq (by omega) (by omega))) ?_
        refine Ow_q rfl rfl rfl (Qt_assign rfl) ?_
        refine Ow_nil ?_
        refine ⟨_, [(0, (.pointer (some ((⟨b, 0, none⟩ : Addr).add 0)))), (2, (.pointer (some ((⟨b1, 0, none⟩ : Addr).add 0)))), (3, (.pointer (some ((⟨b4, 0, none⟩ : Addr).add 0)))), (5, (.int .i64 (((j + 1) : Nat) : Int)))], .row (.slice (some a62) ((L ++ [(SI.mk A3 cp3 L3)]).length) cp59) 38 1 ((((L ++ [(SI.mk A3 cp3 L3)])).map SI.cells).flatten) :: .blk b4 49 [(.slice A1 W.length cp1), (.slice (some a62) ((L ++ [(SI.mk A3 cp3 L3)]).length) cp59), (.int .i64 (((c.next 5).1 : Nat) : Int))] :: .blk b1 49 [(.slice none 0 0), (.slice none 0 0), (.int .i64 0)] :: .blk b 70 [(.slice A ((Cd.mk c.list ((((Cd.mk c.list at3 c.value).next 4).2).at_) c.value).list.length) cp), (.int .i64 (((Cd.mk c.list ((((Cd.mk c.list at3 c.value).next 4).2).at_) c.value).at_ : Nat) : Int)), (.int .u64 ((Cd.mk c.list ((((Cd.mk c.list at3 c.value).next 4).2).at_) c.value).value))] :: G, ⟨rfl, rfl, rfl, rfl, trivial⟩, (.cons _ (.cons_cons _ (.cons_cons _ (.cons_cons _ (.cons_cons _ (.refl _)))))), (by first | omega | (simp only [List.length_append, List.length_cons, List.length_nil]; omega)), (j + 1), (some a62), cp59, (L ++ [(SI.mk A3 cp3 L3)]), (((Cd.mk c.list at3 c.value).next 4).2).at_, rfl, rfl, rfl, (by omega), (by first | omega | (simp only [List.length_append, List.length_cons, List.length_nil, List.length_replicate, List.length_set]; omega) | (simp; omega)), hX61⟩
    · intro h38
      have h38 := dcd_f (h38)
      refine Cw_exit ?_
      refine Cw_seq ?_
      refine Cw.settleT Enc.si rfl (.here) ?_
      intro K63 hK64 hs65
      have hs66 := hs34.mono hK64
      have hs67 := hs35.mono hK64
      have hs68 := hX.mono hK64
      have hl69 := Sl.le hs65
      refine Cw_region ?_
      refine Ow_q rfl rfl rfl (Qt_loadA (m := 3) (cs := Mem.cells (Mem.mk (SI.mk A1 cp1 W) (SS.mk A2 cp2 L) (((c.next 5).1 : Nat) : Int))) rfl rfl rfl rfl ⟨rfl, Rdc.blk (.head _) rfl⟩) ?_
      refine Ow_cons rfl (OpW_store (vs := [(.slice A1 W.length cp1), (.slice A2 L.length cp2), (.int .i64 (((c.next 5).1 : Nat) : Int))]) (all' := [(.slice A1 W.length cp1), (.slice A2 L.length cp2), (.int .i64 (((c.next 5).1 : Nat) : Int))]) rfl rfl rfl rfl rfl (.there .here) rfl rfl rfl ?_)
      refine Ow_nil ?_
      refine Cw_ret ?_
      refine ⟨(by first | exact .inl rfl | exact .inr rfl), [(Mem.val (Mem.mk (SI.mk A1 cp1 W) (SS.mk A2 cp2 L) (((c.next 5).1 : Nat) : Int)))], .blk b 70 [(.slice A (((Cd.mk c.list at2 c.value).next 3).2.list.length) cp), (.int .i64 ((((Cd.mk c.list at2 c.value).next 3).2.at_ : Nat) : Int)), (.int .u64 (((Cd.mk c.list at2 c.value).next 3).2.value))] :: G, ⟨(Mem.val (Mem.mk (SI.mk A1 cp1 W) (SS.mk A2 cp2 L) (((c.next 5).1 : Nat) : Int))), _, rfl, ⟨_, 3, Mem.cells (Mem.mk (SI.mk A1 cp1 W) (SS.mk A2 cp2 L) (((c.next 5).1 : Nat) : Int)), rfl, rfl, rfl, rfl, ⟨rfl, Rdc.blk (.tail _ (.head _)) rfl⟩, rfl⟩, rfl⟩, .cons _ (.cons _ (.cons_cons _ (.refl _))), ?_⟩
      exact ⟨[], _, rfl, (Mem.mk (SI.mk A1 cp1 W) (SS.mk A2 cp2 L) (((c.next 5).1 : Nat) : Int)), _, rfl, rfl, rfl, ⟨hs67, hs65, hs68, (by first | omega | (simp only [List.length_append, List.length_cons, List.length_nil, List.length_replicate, List.length_set]; omega) | (simp; omega)), (by first | omega | (simp only [List.length_append, List.length_cons, List.length_nil, List.length_replicate, List.length_set]; omega) | (simp; omega))⟩, by dsimp only; omega, by dsimp only; omega, by dsimp only; omega, by dsimp only; omega⟩

set_option maxHeartbeats 1000000 in
theorem c_access (b : Nat) (A : Option Addr) (cp : Nat) (c : Cd) (m : Mem) (K : Kp) (G : List Ent) (hcd : Sl K (.slice A c.list.length cp) 1 (c.list.map u8c)) (hm : MemOk K m) :
    Fc Try.prog 33 #[(.pointer (some ((⟨b, 0, none⟩ : Addr).add 0))), (Mem.val m)] K (.blk b 70 (c.cells A cp) :: G) (fun v K' G' => ∃ new e', G' = new ++ e' :: G ∧ ∃ a at', v = Access.val a ∧ K = K' ∧ new = [] ∧ e' = .blk b 70 (Cd.cells A cp ⟨c.list, at', c.value⟩)) := by
  refine Fc_of Try.func33 rfl Try.ntmps33 Try.results33 rfl ?_
  have hcl := Sl.le hcd
  have hmw := Sl.le hm.w
  have hml := Sl.le hm.l
  have hmzw := hm.zw
  have hmzl := hm.zl
  refine Cw_seq ?_
  refine Cw_region ?_
  refine Ow_cons rfl (OpW_box (cs := [(.slice m.words.A m.words.l.length m.words.cp), (.slice m.lists.A m.lists.l.length m.lists.cp), (.int .i64 m.tick)]) rfl rfl rfl (fun b1 => ?_))
  refine Ow_cons rfl (OpW_alloc (cs := [(.int .i64 0), (.int .i64 0), (.int .u64 0), (.int .u64 0), (.int .i64 0)]) rfl rfl rfl rfl (fun b2 => ?_))
  refine Ow_nil ?_
  refine Cw_seq ?_
  refine Cw_region_any [.blk b2 24 [(.int .i64 0), (.int .i64 0), (.int .u64 0), (.int .u64 0), (.int .i64 0)], .blk b1 49 [(.slice m.words.A m.words.l.length m.words.cp), (.slice m.lists.A m.lists.l.length m.lists.cp), (.int .i64 m.tick)]] rfl (Inc.cons (.head _) (Inc.cons (.tail _ (.head _)) Inc.nil)) ?_
  refine Aw_q 0 rfl (by kernel_rfl) (by kernel_rfl) (by kernel_rfl) rfl rfl rfl (Qt_move rfl) ?_
  refine Aw_q 2 rfl (by kernel_rfl) (by kernel_rfl) (by kernel_rfl) rfl rfl rfl (Qt_move rfl) ?_
  refine Aw_q 3 rfl (by kernel_rfl) (by kernel_rfl) (by kernel_rfl) rfl rfl rfl (Qt_fieldAddr (m := 0) rfl rfl rfl rfl rfl) ?_
  refine Aw_q 4 rfl (by kernel_rfl) (by kernel_rfl) (by kernel_rfl) rfl rfl rfl (Qt_load1 (v := (.slice m.words.A m.words.l.length m.words.cp)) rfl rfl rfl (Rdc.blk (.tail _ (.head _)) rfl)) ?_
  refine Aw_q 5 rfl (by kernel_rfl) (by kernel_rfl) (by kernel_rfl) rfl rfl rfl (Qt_len rfl rfl) ?_
  refine Aw_q 6 rfl (by kernel_rfl) (by kernel_rfl) (by kernel_rfl) rfl rfl rfl (Qt_arith (e := (((m.words.l.length : Nat) : Int) + 2)) rfl rfl rfl (wrap_eq (by omega) (by omega))) ?_
  refine Aw_q 9 rfl (by kernel_rfl) (by kernel_rfl) (by kernel_rfl) rfl rfl rfl (Qt_move rfl) ?_
  refine Aw_q 12 rfl (by kernel_rfl) (by kernel_rfl) (by kernel_rfl) rfl rfl rfl (Qt_move rfl) ?_
  refine Aw_two 1 16 (by kernel_rfl) ?_ ?_
  · skip
    have hn3 : 0 < 11 := (by first | omega | (simp only [List.length_append, List.length_cons, List.length_nil, List.length_replicate, List.length_set]; omega) | (simp; omega))
    refine id (Ax_mk rfl rfl (OpW_callG (v0 := (.int .i64 (((c.next 11).1 : Nat) : Int))) rfl Try.call40 rfl rfl (Fc.at (.there (.there .here)) (fun G1 => c_next b A cp c 11 hn3 _ G1 hcd)) ⟨(Inc.cons (.head _) (Inc.cons (.tail _ (.head _)) Inc.nil)), ?_⟩))
    have hlt4 := Cd.next_lt c 11 hn3
    refine Aw_two 7 16 (by kernel_rfl) ?_ ?_
    · skip
      have hn5 : 0 < (m.words.l.length + 2) := (by first | omega | (simp only [List.length_append, List.length_cons, List.length_nil, List.length_replicate, List.length_set]; omega) | (simp; omega))
      refine id (Ax_mk rfl rfl (OpW_callG (v0 := (.int .i64 (((((c.next 11).2).next (m.words.l.length + 2)).1 : Nat) : Int))) rfl Try.call40 rfl rfl (Fc.at (.there (.there .here)) (fun G1 => c_next b A cp ((c.next 11).2) (m.words.l.length + 2) hn5 _ G1 hcd)) ⟨(Inc.cons (.head _) (Inc.cons (.tail _ (.head _)) Inc.nil)), ?_⟩))
      have hlt6 := Cd.next_lt ((c.next 11).2) (m.words.l.length + 2) hn5
      refine Aw_q 8 rfl (by kernel_rfl) (by kernel_rfl) (by kernel_rfl) rfl rfl rfl (Qt_arith (e := ((((((c.next 11).2).next (m.words.l.length + 2)).1 : Nat) : Int) - 1)) rfl rfl rfl (wrap_eq (by omega) (by omega))) ?_
      refine Aw_two 10 16 (by kernel_rfl) ?_ ?_
      · skip
        have hn7 : 0 < 4 := (by first | omega | (simp only [List.length_append, List.length_cons, List.length_nil, List.length_replicate, List.length_set]; omega) | (simp; omega))
        refine id (Ax_mk rfl rfl (OpW_callG (v0 := (.int .i64 (((((((c.next 11).2).next (m.words.l.length + 2)).2).next 4).1 : Nat) : Int))) rfl Try.call40 rfl rfl (Fc.at (.there (.there .here)) (fun G1 => c_next b A cp ((((c.next 11).2).next (m.words.l.length + 2)).2) 4 hn7 _ G1 hcd)) ⟨(Inc.cons (.head _) (Inc.cons (.tail _ (.head _)) Inc.nil)), ?_⟩))
        have hlt8 := Cd.next_lt ((((c.next 11).2).next (m.words.l.length + 2)).2) 4 hn7
        refine Aw_q 11 rfl (by kernel_rfl) (by kernel_rfl) (by kernel_rfl) rfl rfl rfl (Qt_conv (c := (((((((c.next 11).2).next (m.words.l.length + 2)).2).next 4).1 : Nat) : Int)) rfl rfl rfl (IntWalk.u64_in _ (by omega))) ?_
        refine Aw_two 13 16 (by kernel_rfl) ?_ ?_
        · skip
          have hn9 : 0 < 4 := (by first | omega | (simp only [List.length_append, List.length_cons, List.length_nil, List.length_replicate, List.length_set]; omega) | (simp; omega))
          refine id (Ax_mk rfl rfl (OpW_callG (v0 := (.int .i64 (((((((((c.next 11).2).next (m.words.l.length + 2)).2).next 4).2).next 4).1 : Nat) : Int))) rfl Try.call40 rfl rfl (Fc.at (.there (.there .here)) (fun G1 => c_next b A cp ((((((c.next 11).2).next (m.words.l.length + 2)).2).next 4).2) 4 hn9 _ G1 hcd)) ⟨(Inc.cons (.head _) (Inc.cons (.tail _ (.head _)) Inc.nil)), ?_⟩))
          have hlt10 := Cd.next_lt ((((((c.next 11).2).next (m.words.l.length + 2)).2).next 4).2) 4 hn9
          refine Aw_q 14 rfl (by kernel_rfl) (by kernel_rfl) (by kernel_rfl) rfl rfl rfl (Qt_conv (c := (((((((((c.next 11).2).next (m.words.l.length + 2)).2).next 4).2).next 4).1 : Nat) : Int)) rfl rfl rfl (IntWalk.u64_in _ (by omega))) ?_
          refine Aw_q 15 rfl (by kernel_rfl) (by kernel_rfl) (by kernel_rfl) rfl rfl rfl (Qt_build (cs := Access.cells (Access.mk (((c.next 11).1 : Nat) : Int) ((((((c.next 11).2).next (m.words.l.length + 2)).1 : Nat) : Int) - 1) (((((((c.next 11).2).next (m.words.l.length + 2)).2).next 4).1 : Nat) : Int) (((((((((c.next 11).2).next (m.words.l.length + 2)).2).next 4).2).next 4).1 : Nat) : Int) 0)) rfl rfl rfl rfl rfl rfl) ?_
          refine Aw_one 16 (by kernel_rfl) (Ax_mk rfl rfl (OpW_alloc (cs := [(.int .i64 0), (.int .i64 0), (.int .u64 0), (.int .u64 0), (.int .i64 0)]) rfl rfl rfl rfl (fun b11 => ⟨(Inc.cons (.tail _ (.head _)) (Inc.cons (.tail _ (.tail _ (.head _))) Inc.nil)), ?_⟩)))
          refine Aw_one 17 (by kernel_rfl) (Ax_mk rfl rfl (OpW_store (vs := [(.int .i64 (((c.next 11).1 : Nat) : Int)), (.int .i64 ((((((c.next 11).2).next (m.words.l.length + 2)).1 : Nat) : Int) - 1)), (.int .u64 (((((((c.next 11).2).next (m.words.l.length + 2)).2).next 4).1 : Nat) : Int)), (.int .u64 (((((((((c.next 11).2).next (m.words.l.length + 2)).2).next 4).2).next 4).1 : Nat) : Int)), (.int .i64 0)]) (all' := [(.int .i64 (((c.next 11).1 : Nat) : Int)), (.int .i64 ((((((c.next 11).2).next (m.words.l.length + 2)).1 : Nat) : Int) - 1)), (.int .u64 (((((((c.next 11).2).next (m.words.l.length + 2)).2).next 4).1 : Nat) : Int)), (.int .u64 (((((((((c.next 11).2).next (m.words.l.length + 2)).2).next 4).2).next 4).1 : Nat) : Int)), (.int .i64 0)]) rfl rfl rfl rfl rfl .here rfl rfl rfl ⟨(Inc.cons (.tail _ (.head _)) (Inc.cons (.tail _ (.tail _ (.head _))) Inc.nil)), ?_⟩))
          refine Aw_done (by kernel_rfl) ?_
          refine Cw_seq ?_
          refine Cw_seq ?_
          refine Cw_region ?_
          refine Ow_q rfl rfl rfl (Qt_fieldAddr (m := 0) rfl rfl rfl rfl rfl) ?_
          refine Ow_q rfl rfl rfl (Qt_load1 (v := (.int .i64 (((c.next 11).1 : Nat) : Int))) rfl rfl rfl (Rdc.blk (.head _) rfl)) ?_
          refine Ow_q rfl rfl rfl (Qt_cmp rfl rfl rfl) ?_
          refine Ow_nil ?_
          refine Cw_cond rfl ?_ ?_
          · intro h12
            have h12 := dcd_t (h12)
            refine Cw_region ?_
            refine Ow_q rfl rfl rfl (Qt_move rfl) ?_
            refine Ow_q rfl rfl rfl (Qt_fieldAddr (m := 1) rfl rfl rfl rfl rfl) ?_
            refine Ow_q rfl rfl rfl (Qt_load1 (v := (.slice m.lists.A m.lists.l.length m.lists.cp)) rfl rfl rfl (Rdc.blk (.tail _ (.tail _ (.head _))) rfl)) ?_
            refine Ow_q rfl rfl rfl (Qt_len rfl rfl) ?_
            refine Ow_q rfl rfl rfl (Qt_arith (e := (((m.lists.l.length : Nat) : Int) + 2)) rfl rfl rfl (wrap_eq (by omega) (by omega))) ?_
            have hn13 : 0 < (m.lists.l.length + 2) := (by first | omega | (simp only [List.length_append, List.length_cons, List.length_nil, List.length_replicate, List.length_set]; omega) | (simp; omega))
            refine Ow_cons rfl (OpW_callG (v0 := (.int .i64 (((((((((((c.next 11).2).next (m.words.l.length + 2)).2).next 4).2).next 4).2).next (m.lists.l.length + 2)).1 : Nat) : Int))) rfl Try.call40 rfl rfl (Fc.at (.there (.there (.there .here))) (fun G1 => c_next b A cp ((((((((c.next 11).2).next (m.words.l.length + 2)).2).next 4).2).next 4).2) (m.lists.l.length + 2) hn13 _ G1 hcd)) ?_)
            have hlt14 := Cd.next_lt ((((((((c.next 11).2).next (m.words.l.length + 2)).2).next 4).2).next 4).2) (m.lists.l.length + 2) hn13
            refine Ow_q rfl rfl rfl (Qt_arith (e := ((((((((((((c.next 11).2).next (m.words.l.length + 2)).2).next 4).2).next 4).2).next (m.lists.l.length + 2)).1 : Nat) : Int) - 1)) rfl rfl rfl (wrap_eq (by omega) (by omega))) ?_
            refine Ow_q rfl rfl rfl (Qt_fieldAddr (m := 1) rfl rfl rfl rfl rfl) ?_
            refine Ow_cons rfl (OpW_store (vs := [(.int .i64 ((((((((((((c.next 11).2).next (m.words.l.length + 2)).2).next 4).2).next 4).2).next (m.lists.l.length + 2)).1 : Nat) : Int) - 1))]) (all' := [(.int .i64 (((c.next 11).1 : Nat) : Int)), (.int .i64 ((((((((((((c.next 11).2).next (m.words.l.length + 2)).2).next 4).2).next 4).2).next (m.lists.l.length + 2)).1 : Nat) : Int) - 1)), (.int .u64 (((((((c.next 11).2).next (m.words.l.length + 2)).2).next 4).1 : Nat) : Int)), (.int .u64 (((((((((c.next 11).2).next (m.words.l.length + 2)).2).next 4).2).next 4).1 : Nat) : Int)), (.int .i64 0)]) rfl rfl rfl rfl rfl .here rfl rfl rfl ?_)
            refine Ow_nil ?_
            refine Cw_seq ?_
            refine Cw_seq ?_
            refine Cw_region ?_
            refine Ow_q rfl rfl rfl (Qt_fieldAddr (m := 0) rfl rfl rfl rfl rfl) ?_
            refine Ow_q rfl rfl rfl (Qt_load1 (v := (.int .i64 (((c.next 11).1 : Nat) : Int))) rfl rfl rfl (Rdc.blk (.head _) rfl)) ?_
            refine Ow_q rfl rfl rfl (Qt_cmp rfl rfl rfl) ?_
            refine Ow_nil ?_
            refine Cw_cond rfl ?_ ?_
            · intro h15
              have h15 := dcd_t (h15)
              refine Cw_region ?_
              refine Ow_q rfl rfl rfl (Qt_move rfl) ?_
              have hn16 : 0 < 6 := (by first | omega | (simp only [List.length_append, List.length_cons, List.length_nil, List.length_replicate, List.length_set]; omega) | (simp; omega))
              refine Ow_cons rfl (OpW_callG (v0 := (.int .i64 (((((((((((((c.next 11).2).next (m.words.l.length + 2)).2).next 4).2).next 4).2).next (m.lists.l.length + 2)).2).next 6).1 : Nat) : Int))) rfl Try.call40 rfl rfl (Fc.at (.there (.there (.there .here))) (fun G1 => c_next b A cp ((((((((((c.next 11).2).next (m.words.l.length + 2)).2).next 4).2).next 4).2).next (m.lists.l.length + 2)).2) 6 hn16 _ G1 hcd)) ?_)
              have hlt17 := Cd.next_lt ((((((((((c.next 11).2).next (m.words.l.length + 2)).2).next 4).2).next 4).2).next (m.lists.l.length + 2)).2) 6 hn16
              refine Ow_q rfl rfl rfl (Qt_fieldAddr (m := 4) rfl rfl rfl rfl rfl) ?_
              refine Ow_cons rfl (OpW_store (vs := [(.int .i64 (((((((((((((c.next 11).2).next (m.words.l.length + 2)).2).next 4).2).next 4).2).next (m.lists.l.length + 2)).2).next 6).1 : Nat) : Int))]) (all' := [(.int .i64 (((c.next 11).1 : Nat) : Int)), (.int .i64 ((((((((((((c.next 11).2).next (m.words.l.length + 2)).2).next 4).2).next 4).2).next (m.lists.l.length + 2)).1 : Nat) : Int) - 1)), (.int .u64 (((((((c.next 11).2).next (m.words.l.length + 2)).2).next 4).1 : Nat) : Int)), (.int .u64 (((((((((c.next 11).2).next (m.words.l.length + 2)).2).next 4).2).next 4).1 : Nat) : Int)), (.int .i64 (((((((((((((c.next 11).2).next (m.words.l.length + 2)).2).next 4).2).next 4).2).next (m.lists.l.length + 2)).2).next 6).1 : Nat) : Int))]) rfl rfl rfl rfl rfl .here rfl rfl rfl ?_)
              refine Ow_nil ?_
              refine Cw_seq ?_
              refine Cw_region ?_
              refine Ow_q rfl rfl rfl (Qt_loadA (m := 5) (cs := Access.cells (Access.mk (((c.next 11).1 : Nat) : Int) ((((((((((((c.next 11).2).next (m.words.l.length + 2)).2).next 4).2).next 4).2).next (m.lists.l.length + 2)).1 : Nat) : Int) - 1) (((((((c.next 11).2).next (m.words.l.length + 2)).2).next 4).1 : Nat) : Int) (((((((((c.next 11).2).next (m.words.l.length + 2)).2).next 4).2).next 4).1 : Nat) : Int) (((((((((((((c.next 11).2).next (m.words.l.length + 2)).2).next 4).2).next 4).2).next (m.lists.l.length + 2)).2).next 6).1 : Nat) : Int))) rfl rfl rfl rfl ⟨rfl, Rdc.blk (.head _) rfl⟩) ?_
              refine Ow_cons rfl (OpW_store (vs := [(.int .i64 (((c.next 11).1 : Nat) : Int)), (.int .i64 ((((((((((((c.next 11).2).next (m.words.l.length + 2)).2).next 4).2).next 4).2).next (m.lists.l.length + 2)).1 : Nat) : Int) - 1)), (.int .u64 (((((((c.next 11).2).next (m.words.l.length + 2)).2).next 4).1 : Nat) : Int)), (.int .u64 (((((((((c.next 11).2).next (m.words.l.length + 2)).2).next 4).2).next 4).1 : Nat) : Int)), (.int .i64 (((((((((((((c.next 11).2).next (m.words.l.length + 2)).2).next 4).2).next 4).2).next (m.lists.l.length + 2)).2).next 6).1 : Nat) : Int))]) (all' := [(.int .i64 (((c.next 11).1 : Nat) : Int)), (.int .i64 ((((((((((((c.next 11).2).next (m.words.l.length + 2)).2).next 4).2).next 4).2).next (m.lists.l.length + 2)).1 : Nat) : Int) - 1)), (.int .u64 (((((((c.next 11).2).next (m.words.l.length + 2)).2).next 4).1 : Nat) : Int)), (.int .u64 (((((((((c.next 11).2).next (m.words.l.length + 2)).2).next 4).2).next 4).1 : Nat) : Int)), (.int .i64 (((((((((((((c.next 11).2).next (m.words.l.length + 2)).2).next 4).2).next 4).2).next (m.lists.l.length + 2)).2).next 6).1 : Nat) : Int))]) rfl rfl rfl rfl rfl (.there .here) rfl rfl rfl ?_)
              refine Ow_nil ?_
              refine Cw_ret ?_
              refine ⟨(by first | exact .inl rfl | exact .inr rfl), [(Access.val (Access.mk (((c.next 11).1 : Nat) : Int) ((((((((((((c.next 11).2).next (m.words.l.length + 2)).2).next 4).2).next 4).2).next (m.lists.l.length + 2)).1 : Nat) : Int) - 1) (((((((c.next 11).2).next (m.words.l.length + 2)).2).next 4).1 : Nat) : Int) (((((((((c.next 11).2).next (m.words.l.length + 2)).2).next 4).2).next 4).1 : Nat) : Int) (((((((((((((c.next 11).2).next (m.words.l.length + 2)).2).next 4).2).next 4).2).next (m.lists.l.length + 2)).2).next 6).1 : Nat) : Int)))], .blk b 70 [(.slice A ((((((((((((c.next 11).2).next (m.words.l.length + 2)).2).next 4).2).next 4).2).next (m.lists.l.length + 2)).2).next 6).2.list.length) cp), (.int .i64 (((((((((((((c.next 11).2).next (m.words.l.length + 2)).2).next 4).2).next 4).2).next (m.lists.l.length + 2)).2).next 6).2.at_ : Nat) : Int)), (.int .u64 ((((((((((((c.next 11).2).next (m.words.l.length + 2)).2).next 4).2).next 4).2).next (m.lists.l.length + 2)).2).next 6).2.value))] :: G, ⟨(Access.val (Access.mk (((c.next 11).1 : Nat) : Int) ((((((((((((c.next 11).2).next (m.words.l.length + 2)).2).next 4).2).next 4).2).next (m.lists.l.length + 2)).1 : Nat) : Int) - 1) (((((((c.next 11).2).next (m.words.l.length + 2)).2).next 4).1 : Nat) : Int) (((((((((c.next 11).2).next (m.words.l.length + 2)).2).next 4).2).next 4).1 : Nat) : Int) (((((((((((((c.next 11).2).next (m.words.l.length + 2)).2).next 4).2).next 4).2).next (m.lists.l.length + 2)).2).next 6).1 : Nat) : Int))), _, rfl, ⟨_, 5, Access.cells (Access.mk (((c.next 11).1 : Nat) : Int) ((((((((((((c.next 11).2).next (m.words.l.length + 2)).2).next 4).2).next 4).2).next (m.lists.l.length + 2)).1 : Nat) : Int) - 1) (((((((c.next 11).2).next (m.words.l.length + 2)).2).next 4).1 : Nat) : Int) (((((((((c.next 11).2).next (m.words.l.length + 2)).2).next 4).2).next 4).1 : Nat) : Int) (((((((((((((c.next 11).2).next (m.words.l.length + 2)).2).next 4).2).next 4).2).next (m.lists.l.length + 2)).2).next 6).1 : Nat) : Int)), rfl, rfl, rfl, rfl, ⟨rfl, Rdc.blk (.tail _ (.head _)) rfl⟩, rfl⟩, rfl⟩, .cons _ (.cons _ (.cons _ (.cons_cons _ (.refl _)))), ?_⟩
              exact ⟨[], _, rfl, (Access.mk (((c.next 11).1 : Nat) : Int) ((((((((((((c.next 11).2).next (m.words.l.length + 2)).2).next 4).2).next 4).2).next (m.lists.l.length + 2)).1 : Nat) : Int) - 1) (((((((c.next 11).2).next (m.words.l.length + 2)).2).next 4).1 : Nat) : Int) (((((((((c.next 11).2).next (m.words.l.length + 2)).2).next 4).2).next 4).1 : Nat) : Int) (((((((((((((c.next 11).2).next (m.words.l.length + 2)).2).next 4).2).next 4).2).next (m.lists.l.length + 2)).2).next 6).1 : Nat) : Int)), _, rfl, rfl, rfl, rfl⟩
            · intro h15
              have h15 := dcd_f (h15)
              refine Cw_skip ?_
              refine Cw_seq ?_
              refine Cw_region ?_
              refine Ow_q rfl rfl rfl (Qt_loadA (m := 5) (cs := Access.cells (Access.mk (((c.next 11).1 : Nat) : Int) ((((((((((((c.next 11).2).next (m.words.l.length + 2)).2).next 4).2).next 4).2).next (m.lists.l.length + 2)).1 : Nat) : Int) - 1) (((((((c.next 11).2).next (m.words.l.length + 2)).2).next 4).1 : Nat) : Int) (((((((((c.next 11).2).next (m.words.l.length + 2)).2).next 4).2).next 4).1 : Nat) : Int) 0)) rfl rfl rfl rfl ⟨rfl, Rdc.blk (.head _) rfl⟩) ?_
              refine Ow_cons rfl (OpW_store (vs := [(.int .i64 (((c.next 11).1 : Nat) : Int)), (.int .i64 ((((((((((((c.next 11).2).next (m.words.l.length + 2)).2).next 4).2).next 4).2).next (m.lists.l.length + 2)).1 : Nat) : Int) - 1)), (.int .u64 (((((((c.next 11).2).next (m.words.l.length + 2)).2).next 4).1 : Nat) : Int)), (.int .u64 (((((((((c.next 11).2).next (m.words.l.length + 2)).2).next 4).2).next 4).1 : Nat) : Int)), (.int .i64 0)]) (all' := [(.int .i64 (((c.next 11).1 : Nat) : Int)), (.int .i64 ((((((((((((c.next 11).2).next (m.words.l.length + 2)).2).next 4).2).next 4).2).next (m.lists.l.length + 2)).1 : Nat) : Int) - 1)), (.int .u64 (((((((c.next 11).2).next (m.words.l.length + 2)).2).next 4).1 : Nat) : Int)), (.int .u64 (((((((((c.next 11).2).next (m.words.l.length + 2)).2).next 4).2).next 4).1 : Nat) : Int)), (.int .i64 0)]) rfl rfl rfl rfl rfl (.there .here) rfl rfl rfl ?_)
              refine Ow_nil ?_
              refine Cw_ret ?_
              refine ⟨(by first | exact .inl rfl | exact .inr rfl), [(Access.val (Access.mk (((c.next 11).1 : Nat) : Int) ((((((((((((c.next 11).2).next (m.words.l.length + 2)).2).next 4).2).next 4).2).next (m.lists.l.length + 2)).1 : Nat) : Int) - 1) (((((((c.next 11).2).next (m.words.l.length + 2)).2).next 4).1 : Nat) : Int) (((((((((c.next 11).2).next (m.words.l.length + 2)).2).next 4).2).next 4).1 : Nat) : Int) 0))], .blk b 70 [(.slice A ((((((((((c.next 11).2).next (m.words.l.length + 2)).2).next 4).2).next 4).2).next (m.lists.l.length + 2)).2.list.length) cp), (.int .i64 (((((((((((c.next 11).2).next (m.words.l.length + 2)).2).next 4).2).next 4).2).next (m.lists.l.length + 2)).2.at_ : Nat) : Int)), (.int .u64 ((((((((((c.next 11).2).next (m.words.l.length + 2)).2).next 4).2).next 4).2).next (m.lists.l.length + 2)).2.value))] :: G, ⟨(Access.val (Access.mk (((c.next 11).1 : Nat) : Int) ((((((((((((c.next 11).2).next (m.words.l.length + 2)).2).next 4).2).next 4).2).next (m.lists.l.length + 2)).1 : Nat) : Int) - 1) (((((((c.next 11).2).next (m.words.l.length + 2)).2).next 4).1 : Nat) : Int) (((((((((c.next 11).2).next (m.words.l.length + 2)).2).next 4).2).next 4).1 : Nat) : Int) 0)), _, rfl, ⟨_, 5, Access.cells (Access.mk (((c.next 11).1 : Nat) : Int) ((((((((((((c.next 11).2).next (m.words.l.length + 2)).2).next 4).2).next 4).2).next (m.lists.l.length + 2)).1 : Nat) : Int) - 1) (((((((c.next 11).2).next (m.words.l.length + 2)).2).next 4).1 : Nat) : Int) (((((((((c.next 11).2).next (m.words.l.length + 2)).2).next 4).2).next 4).1 : Nat) : Int) 0), rfl, rfl, rfl, rfl, ⟨rfl, Rdc.blk (.tail _ (.head _)) rfl⟩, rfl⟩, rfl⟩, .cons _ (.cons _ (.cons _ (.cons_cons _ (.refl _)))), ?_⟩
              exact ⟨[], _, rfl, (Access.mk (((c.next 11).1 : Nat) : Int) ((((((((((((c.next 11).2).next (m.words.l.length + 2)).2).next 4).2).next 4).2).next (m.lists.l.length + 2)).1 : Nat) : Int) - 1) (((((((c.next 11).2).next (m.words.l.length + 2)).2).next 4).1 : Nat) : Int) (((((((((c.next 11).2).next (m.words.l.length + 2)).2).next 4).2).next 4).1 : Nat) : Int) 0), _, rfl, rfl, rfl, rfl⟩
          · intro h12
            have h12 := dcd_f (h12)
            refine Cw_skip ?_
            refine Cw_seq ?_
            refine Cw_seq ?_
            refine Cw_region ?_
            refine Ow_q rfl rfl rfl (Qt_fieldAddr (m := 0) rfl rfl rfl rfl rfl) ?_
            refine Ow_q rfl rfl rfl (Qt_load1 (v := (.int .i64 (((c.next 11).1 : Nat) : Int))) rfl rfl rfl (Rdc.blk (.head _) rfl)) ?_
            refine Ow_q rfl rfl rfl (Qt_cmp rfl rfl rfl) ?_
            refine Ow_nil ?_
            refine Cw_cond rfl ?_ ?_
            · intro h18
              have h18 := dcd_t (h18)
              refine Cw_region ?_
              refine Ow_q rfl rfl rfl (Qt_move rfl) ?_
              have hn19 : 0 < 6 := (by first | omega | (simp only [List.length_append, List.length_cons, List.length_nil, List.length_replicate, List.length_set]; omega) | (simp; omega))
              refine Ow_cons rfl (OpW_callG (v0 := (.int .i64 (((((((((((c.next 11).2).next (m.words.l.length + 2)).2).next 4).2).next 4).2).next 6).1 : Nat) : Int))) rfl Try.call40 rfl rfl (Fc.at (.there (.there (.there .here))) (fun G1 => c_next b A cp ((((((((c.next 11).2).next (m.words.l.length + 2)).2).next 4).2).next 4).2) 6 hn19 _ G1 hcd)) ?_)
              have hlt20 := Cd.next_lt ((((((((c.next 11).2).next (m.words.l.length + 2)).2).next 4).2).next 4).2) 6 hn19
              refine Ow_q rfl rfl rfl (Qt_fieldAddr (m := 4) rfl rfl rfl rfl rfl) ?_
              refine Ow_cons rfl (OpW_store (vs := [(.int .i64 (((((((((((c.next 11).2).next (m.words.l.length + 2)).2).next 4).2).next 4).2).next 6).1 : Nat) : Int))]) (all' := [(.int .i64 (((c.next 11).1 : Nat) : Int)), (.int .i64 ((((((c.next 11).2).next (m.words.l.length + 2)).1 : Nat) : Int) - 1)), (.int .u64 (((((((c.next 11).2).next (m.words.l.length + 2)).2).next 4).1 : Nat) : Int)), (.int .u64 (((((((((c.next 11).2).next (m.words.l.length + 2)).2).next 4).2).next 4).1 : Nat) : Int)), (.int .i64 (((((((((((c.next 11).2).next (m.words.l.length + 2)).2).next 4).2).next 4).2).next 6).1 : Nat) : Int))]) rfl rfl rfl rfl rfl .here rfl rfl rfl ?_)
              refine Ow_nil ?_
              refine Cw_seq ?_
              refine Cw_region ?_
              refine Ow_q rfl rfl rfl (Qt_loadA (m := 5) (cs := Access.cells (Access.mk (((c.next 11).1 : Nat) : Int) ((((((c.next 11).2).next (m.words.l.length + 2)).1 : Nat) : Int) - 1) (((((((c.next 11).2).next (m.words.l.length + 2)).2).next 4).1 : Nat) : Int) (((((((((c.next 11).2).next (m.words.l.length + 2)).2).next 4).2).next 4).1 : Nat) : Int) (((((((((((c.next 11).2).next (m.words.l.length + 2)).2).next 4).2).next 4).2).next 6).1 : Nat) : Int))) rfl rfl rfl rfl ⟨rfl, Rdc.blk (.head _) rfl⟩) ?_
              refine Ow_cons rfl (OpW_store (vs := [(.int .i64 (((c.next 11).1 : Nat) : Int)), (.int .i64 ((((((c.next 11).2).next (m.words.l.length + 2)).1 : Nat) : Int) - 1)), (.int .u64 (((((((c.next 11).2).next (m.words.l.length + 2)).2).next 4).1 : Nat) : Int)), (.int .u64 (((((((((c.next 11).2).next (m.words.l.length + 2)).2).next 4).2).next 4).1 : Nat) : Int)), (.int .i64 (((((((((((c.next 11).2).next (m.words.l.length + 2)).2).next 4).2).next 4).2).next 6).1 : Nat) : Int))]) (all' := [(.int .i64 (((c.next 11).1 : Nat) : Int)), (.int .i64 ((((((c.next 11).2).next (m.words.l.length + 2)).1 : Nat) : Int) - 1)), (.int .u64 (((((((c.next 11).2).next (m.words.l.length + 2)).2).next 4).1 : Nat) : Int)), (.int .u64 (((((((((c.next 11).2).next (m.words.l.length + 2)).2).next 4).2).next 4).1 : Nat) : Int)), (.int .i64 (((((((((((c.next 11).2).next (m.words.l.length + 2)).2).next 4).2).next 4).2).next 6).1 : Nat) : Int))]) rfl rfl rfl rfl rfl (.there .here) rfl rfl rfl ?_)
              refine Ow_nil ?_
              refine Cw_ret ?_
              refine ⟨(by first | exact .inl rfl | exact .inr rfl), [(Access.val (Access.mk (((c.next 11).1 : Nat) : Int) ((((((c.next 11).2).next (m.words.l.length + 2)).1 : Nat) : Int) - 1) (((((((c.next 11).2).next (m.words.l.length + 2)).2).next 4).1 : Nat) : Int) (((((((((c.next 11).2).next (m.words.l.length + 2)).2).next 4).2).next 4).1 : Nat) : Int) (((((((((((c.next 11).2).next (m.words.l.length + 2)).2).next 4).2).next 4).2).next 6).1 : Nat) : Int)))], .blk b 70 [(.slice A ((((((((((c.next 11).2).next (m.words.l.length + 2)).2).next 4).2).next 4).2).next 6).2.list.length) cp), (.int .i64 (((((((((((c.next 11).2).next (m.words.l.length + 2)).2).next 4).2).next 4).2).next 6).2.at_ : Nat) : Int)), (.int .u64 ((((((((((c.next 11).2).next (m.words.l.length + 2)).2).next 4).2).next 4).2).next 6).2.value))] :: G, ⟨(Access.val (Access.mk (((c.next 11).1 : Nat) : Int) ((((((c.next 11).2).next (m.words.l.length + 2)).1 : Nat) : Int) - 1) (((((((c.next 11).2).next (m.words.l.length + 2)).2).next 4).1 : Nat) : Int) (((((((((c.next 11).2).next (m.words.l.length + 2)).2).next 4).2).next 4).1 : Nat) : Int) (((((((((((c.next 11).2).next (m.words.l.length + 2)).2).next 4).2).next 4).2).next 6).1 : Nat) : Int))), _, rfl, ⟨_, 5, Access.cells (Access.mk (((c.next 11).1 : Nat) : Int) ((((((c.next 11).2).next (m.words.l.length + 2)).1 : Nat) : Int) - 1) (((((((c.next 11).2).next (m.words.l.length + 2)).2).next 4).1 : Nat) : Int) (((((((((c.next 11).2).next (m.words.l.length + 2)).2).next 4).2).next 4).1 : Nat) : Int) (((((((((((c.next 11).2).next (m.words.l.length + 2)).2).next 4).2).next 4).2).next 6).1 : Nat) : Int)), rfl, rfl, rfl, rfl, ⟨rfl, Rdc.blk (.tail _ (.head _)) rfl⟩, rfl⟩, rfl⟩, .cons _ (.cons _ (.cons _ (.cons_cons _ (.refl _)))), ?_⟩
              exact ⟨[], _, rfl, (Access.mk (((c.next 11).1 : Nat) : Int) ((((((c.next 11).2).next (m.words.l.length + 2)).1 : Nat) : Int) - 1) (((((((c.next 11).2).next (m.words.l.length + 2)).2).next 4).1 : Nat) : Int) (((((((((c.next 11).2).next (m.words.l.length + 2)).2).next 4).2).next 4).1 : Nat) : Int) (((((((((((c.next 11).2).next (m.words.l.length + 2)).2).next 4).2).next 4).2).next 6).1 : Nat) : Int)), _, rfl, rfl, rfl, rfl⟩
            · intro h18
              have h18 := dcd_f (h18)
              refine Cw_skip ?_
              refine Cw_seq ?_
              refine Cw_region ?_
              refine Ow_q rfl rfl rfl (Qt_loadA (m := 5) (cs := Access.cells (Access.mk (((c.next 11).1 : Nat) : Int) ((((((c.next 11).2).next (m.words.l.length + 2)).1 : Nat) : Int) - 1) (((((((c.next 11).2).next (m.words.l.length + 2)).2).next 4).1 : Nat) : Int) (((((((((c.next 11).2).next (m.words.l.length + 2)).2).next 4).2).next 4).1 : Nat) : Int) 0)) rfl rfl rfl rfl ⟨rfl, Rdc.blk (.head _) rfl⟩) ?_
              refine Ow_cons rfl (OpW_store (vs := [(.int .i64 (((c.next 11).1 : Nat) : Int)), (.int .i64 ((((((c.next 11).2).next (m.words.l.length + 2)).1 : Nat) : Int) - 1)), (.int .u64 (((((((c.next 11).2).next (m.words.l.length + 2)).2).next 4).1 : Nat) : Int)), (.int .u64 (((((((((c.next 11).2).next (m.words.l.length + 2)).2).next 4).2).next 4).1 : Nat) : Int)), (.int .i64 0)]) (all' := [(.int .i64 (((c.next 11).1 : Nat) : Int)), (.int .i64 ((((((c.next 11).2).next (m.words.l.length + 2)).1 : Nat) : Int) - 1)), (.int .u64 (((((((c.next 11).2).next (m.words.l.length + 2)).2).next 4).1 : Nat) : Int)), (.int .u64 (((((((((c.next 11).2).next (m.words.l.length + 2)).2).next 4).2).next 4).1 : Nat) : Int)), (.int .i64 0)]) rfl rfl rfl rfl rfl (.there .here) rfl rfl rfl ?_)
              refine Ow_nil ?_
              refine Cw_ret ?_
              refine ⟨(by first | exact .inl rfl | exact .inr rfl), [(Access.val (Access.mk (((c.next 11).1 : Nat) : Int) ((((((c.next 11).2).next (m.words.l.length + 2)).1 : Nat) : Int) - 1) (((((((c.next 11).2).next (m.words.l.length + 2)).2).next 4).1 : Nat) : Int) (((((((((c.next 11).2).next (m.words.l.length + 2)).2).next 4).2).next 4).1 : Nat) : Int) 0))], .blk b 70 [(.slice A ((((((((c.next 11).2).next (m.words.l.length + 2)).2).next 4).2).next 4).2.list.length) cp), (.int .i64 (((((((((c.next 11).2).next (m.words.l.length + 2)).2).next 4).2).next 4).2.at_ : Nat) : Int)), (.int .u64 ((((((((c.next 11).2).next (m.words.l.length + 2)).2).next 4).2).next 4).2.value))] :: G, ⟨(Access.val (Access.mk (((c.next 11).1 : Nat) : Int) ((((((c.next 11).2).next (m.words.l.length + 2)).1 : Nat) : Int) - 1) (((((((c.next 11).2).next (m.words.l.length + 2)).2).next 4).1 : Nat) : Int) (((((((((c.next 11).2).next (m.words.l.length + 2)).2).next 4).2).next 4).1 : Nat) : Int) 0)), _, rfl, ⟨_, 5, Access.cells (Access.mk (((c.next 11).1 : Nat) : Int) ((((((c.next 11).2).next (m.words.l.length + 2)).1 : Nat) : Int) - 1) (((((((c.next 11).2).next (m.words.l.length + 2)).2).next 4).1 : Nat) : Int) (((((((((c.next 11).2).next (m.words.l.length + 2)).2).next 4).2).next 4).1 : Nat) : Int) 0), rfl, rfl, rfl, rfl, ⟨rfl, Rdc.blk (.tail _ (.head _)) rfl⟩, rfl⟩, rfl⟩, .cons _ (.cons _ (.cons _ (.cons_cons _ (.refl _)))), ?_⟩
              exact ⟨[], _, rfl, (Access.mk (((c.next 11).1 : Nat) : Int) ((((((c.next 11).2).next (m.words.l.length + 2)).1 : Nat) : Int) - 1) (((((((c.next 11).2).next (m.words.l.length + 2)).2).next 4).1 : Nat) : Int) (((((((((c.next 11).2).next (m.words.l.length + 2)).2).next 4).2).next 4).1 : Nat) : Int) 0), _, rfl, rfl, rfl, rfl⟩
        · skip
          refine id (Ax_mk rfl rfl (OpW_alloc (cs := [(.int .i64 0), (.int .i64 0), (.int .u64 0), (.int .u64 0), (.int .i64 0)]) rfl rfl rfl rfl (fun b21 => ⟨(Inc.cons (.tail _ (.head _)) (Inc.cons (.tail _ (.tail _ (.head _))) Inc.nil)), ?_⟩)))
          have hn22 : 0 < 4 := (by first | omega | (simp only [List.length_append, List.length_cons, List.length_nil, List.length_replicate, List.length_set]; omega) | (simp; omega))
          refine Aw_one 13 (by kernel_rfl) (Ax_mk rfl rfl (OpW_callG (v0 := (.int .i64 (((((((((c.next 11).2).next (m.words.l.length + 2)).2).next 4).2).next 4).1 : Nat) : Int))) rfl Try.call40 rfl rfl (Fc.at (.there (.there (.there .here))) (fun G1 => c_next b A cp ((((((c.next 11).2).next (m.words.l.length + 2)).2).next 4).2) 4 hn22 _ G1 hcd)) ⟨(Inc.cons (.tail _ (.head _)) (Inc.cons (.tail _ (.tail _ (.head _))) Inc.nil)), ?_⟩))
          have hlt23 := Cd.next_lt ((((((c.next 11).2).next (m.words.l.length + 2)).2).next 4).2) 4 hn22
          refine Aw_q 14 rfl (by kernel_rfl) (by kernel_rfl) (by kernel_rfl) rfl rfl rfl (Qt_conv (c := (((((((((c.next 11).2).next (m.words.l.length + 2)).2).next 4).2).next 4).1 : Nat) : Int)) rfl rfl rfl (IntWalk.u64_in _ (by omega))) ?_
          refine Aw_q 15 rfl (by kernel_rfl) (by kernel_rfl) (by kernel_rfl) rfl rfl rfl (Qt_build (cs := Access.cells (Access.mk (((c.next 11).1 : Nat) : Int) ((((((c.next 11).2).next (m.words.l.length + 2)).1 : Nat) : Int) - 1) (((((((c.next 11).2).next (m.words.l.length + 2)).2).next 4).1 : Nat) : Int) (((((((((c.next 11).2).next (m.words.l.length + 2)).2).next 4).2).next 4).1 : Nat) : Int) 0)) rfl rfl rfl rfl rfl rfl) ?_
          refine Aw_one 17 (by kernel_rfl) (Ax_mk rfl rfl (OpW_store (vs := [(.int .i64 (((c.next 11).1 : Nat) : Int)), (.int .i64 ((((((c.next 11).2).next (m.words.l.length + 2)).1 : Nat) : Int) - 1)), (.int .u64 (((((((c.next 11).2).next (m.words.l.length + 2)).2).next 4).1 : Nat) : Int)), (.int .u64 (((((((((c.next 11).2).next (m.words.l.length + 2)).2).next 4).2).next 4).1 : Nat) : Int)), (.int .i64 0)]) (all' := [(.int .i64 (((c.next 11).1 : Nat) : Int)), (.int .i64 ((((((c.next 11).2).next (m.words.l.length + 2)).1 : Nat) : Int) - 1)), (.int .u64 (((((((c.next 11).2).next (m.words.l.length + 2)).2).next 4).1 : Nat) : Int)), (.int .u64 (((((((((c.next 11).2).next (m.words.l.length + 2)).2).next 4).2).next 4).1 : Nat) : Int)), (.int .i64 0)]) rfl rfl rfl rfl rfl .here rfl rfl rfl ⟨(Inc.cons (.tail _ (.head _)) (Inc.cons (.tail _ (.tail _ (.head _))) Inc.nil)), ?_⟩))
          refine Aw_done (by kernel_rfl) ?_
          refine Cw_seq ?_
          refine Cw_seq ?_
          refine Cw_region ?_
          refine Ow_q rfl rfl rfl (Qt_fieldAddr (m := 0) rfl rfl rfl rfl rfl) ?_
          refine Ow_q rfl rfl rfl (Qt_load1 (v := (.int .i64 (((c.next 11).1 : Nat) : Int))) rfl rfl rfl (Rdc.blk (.head _) rfl)) ?_
          refine Ow_q rfl rfl rfl (Qt_cmp rfl rfl rfl) ?_
          refine Ow_nil ?_
          refine Cw_cond rfl ?_ ?_
          · intro h24
            have h24 := dcd_t (h24)
            refine Cw_region ?_
            refine Ow_q rfl rfl rfl (Qt_move rfl) ?_
            refine Ow_q rfl rfl rfl (Qt_fieldAddr (m := 1) rfl rfl rfl rfl rfl) ?_
            refine Ow_q rfl rfl rfl (Qt_load1 (v := (.slice m.lists.A m.lists.l.length m.lists.cp)) rfl rfl rfl (Rdc.blk (.tail _ (.tail _ (.head _))) rfl)) ?_
            refine Ow_q rfl rfl rfl (Qt_len rfl rfl) ?_
            refine Ow_q rfl rfl rfl (Qt_arith (e := (((m.lists.l.length : Nat) : Int) + 2)) rfl rfl rfl (wrap_eq (by omega) (by omega))) ?_
            have hn25 : 0 < (m.lists.l.length + 2) := (by first | omega | (simp only [List.length_append, List.length_cons, List.length_nil, List.length_replicate, List.length_set]; omega) | (simp; omega))
            refine Ow_cons rfl (OpW_callG (v0 := (.int .i64 (((((((((((c.next 11).2).next (m.words.l.length + 2)).2).next 4).2).next 4).2).next (m.lists.l.length + 2)).1 : Nat) : Int))) rfl Try.call40 rfl rfl (Fc.at (.there (.there (.there .here))) (fun G1 => c_next b A cp ((((((((c.next 11).2).next (m.words.l.length + 2)).2).next 4).2).next 4).2) (m.lists.l.length + 2) hn25 _ G1 hcd)) ?_)
            have hlt26 := Cd.next_lt ((((((((c.next 11).2).next (m.words.l.length + 2)).2).next 4).2).next 4).2) (m.lists.l.length + 2) hn25
            refine Ow_q rfl rfl rfl (Qt_arith (e := ((((((((((((c.next 11).2).next (m.words.l.length + 2)).2).next 4).2).next 4).2).next (m.lists.l.length + 2)).1 : Nat) : Int) - 1)) rfl rfl rfl (wrap_eq (by omega) (by omega))) ?_
            refine Ow_q rfl rfl rfl (Qt_fieldAddr (m := 1) rfl rfl rfl rfl rfl) ?_
            refine Ow_cons rfl (OpW_store (vs := [(.int .i64 ((((((((((((c.next 11).2).next (m.words.l.length + 2)).2).next 4).2).next 4).2).next (m.lists.l.length + 2)).1 : Nat) : Int) - 1))]) (all' := [(.int .i64 (((c.next 11).1 : Nat) : Int)), (.int .i64 ((((((((((((c.next 11).2).next (m.words.l.length + 2)).2).next 4).2).next 4).2).next (m.lists.l.length + 2)).1 : Nat) : Int) - 1)), (.int .u64 (((((((c.next 11).2).next (m.words.l.length + 2)).2).next 4).1 : Nat) : Int)), (.int .u64 (((((((((c.next 11).2).next (m.words.l.length + 2)).2).next 4).2).next 4).1 : Nat) : Int)), (.int .i64 0)]) rfl rfl rfl rfl rfl .here rfl rfl rfl ?_)
            refine Ow_nil ?_
            refine Cw_seq ?_
            refine Cw_seq ?_
            refine Cw_region ?_
            refine Ow_q rfl rfl rfl (Qt_fieldAddr (m := 0) rfl rfl rfl rfl rfl) ?_
            refine Ow_q rfl rfl rfl (Qt_load1 (v := (.int .i64 (((c.next 11).1 : Nat) : Int))) rfl rfl rfl (Rdc.blk (.head _) rfl)) ?_
            refine Ow_q rfl rfl rfl (Qt_cmp rfl rfl rfl) ?_
            refine Ow_nil ?_
            refine Cw_cond rfl ?_ ?_
            · intro h27
              have h27 := dcd_t (h27)
              refine Cw_region ?_
              refine Ow_q rfl rfl rfl (Qt_move rfl) ?_
              have hn28 : 0 < 6 := (by first | omega | (simp only [List.length_append, List.length_cons, List.length_nil, List.length_replicate, List.length_set]; omega) | (simp; omega))
              refine Ow_cons rfl (OpW_callG (v0 := (.int .i64 (((((((((((((c.next 11).2).next (m.words.l.length + 2)).2).next 4).2).next 4).2).next (m.lists.l.length + 2)).2).next 6).1 : Nat) : Int))) rfl Try.call40 rfl rfl (Fc.at (.there (.there (.there .here))) (fun G1 => c_next b A cp ((((((((((c.next 11).2).next (m.words.l.length + 2)).2).next 4).2).next 4).2).next (m.lists.l.length + 2)).2) 6 hn28 _ G1 hcd)) ?_)
              have hlt29 := Cd.next_lt ((((((((((c.next 11).2).next (m.words.l.length + 2)).2).next 4).2).next 4).2).next (m.lists.l.length + 2)).2) 6 hn28
              refine Ow_q rfl rfl rfl (Qt_fieldAddr (m := 4) rfl rfl rfl rfl rfl) ?_
              refine Ow_cons rfl (OpW_store (vs := [(.int .i64 (((((((((((((c.next 11).2).next (m.words.l.length + 2)).2).next 4).2).next 4).2).next (m.lists.l.length + 2)).2).next 6).1 : Nat) : Int))]) (all' := [(.int .i64 (((c.next 11).1 : Nat) : Int)), (.int .i64 ((((((((((((c.next 11).2).next (m.words.l.length + 2)).2).next 4).2).next 4).2).next (m.lists.l.length + 2)).1 : Nat) : Int) - 1)), (.int .u64 (((((((c.next 11).2).next (m.words.l.length + 2)).2).next 4).1 : Nat) : Int)), (.int .u64 (((((((((c.next 11).2).next (m.words.l.length + 2)).2).next 4).2).next 4).1 : Nat) : Int)), (.int .i64 (((((((((((((c.next 11).2).next (m.words.l.length + 2)).2).next 4).2).next 4).2).next (m.lists.l.length + 2)).2).next 6).1 : Nat) : Int))]) rfl rfl rfl rfl rfl .here rfl rfl rfl ?_)
              refine Ow_nil ?_
              refine Cw_seq ?_
              refine Cw_region ?_
              refine Ow_q rfl rfl rfl (Qt_loadA (m := 5) (cs := Access.cells (Access.mk (((c.next 11).1 : Nat) : Int) ((((((((((((c.next 11).2).next (m.words.l.length + 2)).2).next 4).2).next 4).2).next (m.lists.l.length + 2)).1 : Nat) : Int) - 1) (((((((c.next 11).2).next (m.words.l.length + 2)).2).next 4).1 : Nat) : Int) (((((((((c.next 11).2).next (m.words.l.length + 2)).2).next 4).2).next 4).1 : Nat) : Int) (((((((((((((c.next 11).2).next (m.words.l.length + 2)).2).next 4).2).next 4).2).next (m.lists.l.length + 2)).2).next 6).1 : Nat) : Int))) rfl rfl rfl rfl ⟨rfl, Rdc.blk (.head _) rfl⟩) ?_
              refine Ow_cons rfl (OpW_store (vs := [(.int .i64 (((c.next 11).1 : Nat) : Int)), (.int .i64 ((((((((((((c.next 11).2).next (m.words.l.length + 2)).2).next 4).2).next 4).2).next (m.lists.l.length + 2)).1 : Nat) : Int) - 1)), (.int .u64 (((((((c.next 11).2).next (m.words.l.length + 2)).2).next 4).1 : Nat) : Int)), (.int .u64 (((((((((c.next 11).2).next (m.words.l.length + 2)).2).next 4).2).next 4).1 : Nat) : Int)), (.int .i64 (((((((((((((c.next 11).2).next (m.words.l.length + 2)).2).next 4).2).next 4).2).next (m.lists.l.length + 2)).2).next 6).1 : Nat) : Int))]) (all' := [(.int .i64 (((c.next 11).1 : Nat) : Int)), (.int .i64 ((((((((((((c.next 11).2).next (m.words.l.length + 2)).2).next 4).2).next 4).2).next (m.lists.l.length + 2)).1 : Nat) : Int) - 1)), (.int .u64 (((((((c.next 11).2).next (m.words.l.length + 2)).2).next 4).1 : Nat) : Int)), (.int .u64 (((((((((c.next 11).2).next (m.words.l.length + 2)).2).next 4).2).next 4).1 : Nat) : Int)), (.int .i64 (((((((((((((c.next 11).2).next (m.words.l.length + 2)).2).next 4).2).next 4).2).next (m.lists.l.length + 2)).2).next 6).1 : Nat) : Int))]) rfl rfl rfl rfl rfl (.there .here) rfl rfl rfl ?_)
              refine Ow_nil ?_
              refine Cw_ret ?_
              refine ⟨(by first | exact .inl rfl | exact .inr rfl), [(Access.val (Access.mk (((c.next 11).1 : Nat) : Int) ((((((((((((c.next 11).2).next (m.words.l.length + 2)).2).next 4).2).next 4).2).next (m.lists.l.length + 2)).1 : Nat) : Int) - 1) (((((((c.next 11).2).next (m.words.l.length + 2)).2).next 4).1 : Nat) : Int) (((((((((c.next 11).2).next (m.words.l.length + 2)).2).next 4).2).next 4).1 : Nat) : Int) (((((((((((((c.next 11).2).next (m.words.l.length + 2)).2).next 4).2).next 4).2).next (m.lists.l.length + 2)).2).next 6).1 : Nat) : Int)))], .blk b 70 [(.slice A ((((((((((((c.next 11).2).next (m.words.l.length + 2)).2).next 4).2).next 4).2).next (m.lists.l.length + 2)).2).next 6).2.list.length) cp), (.int .i64 (((((((((((((c.next 11).2).next (m.words.l.length + 2)).2).next 4).2).next 4).2).next (m.lists.l.length + 2)).2).next 6).2.at_ : Nat) : Int)), (.int .u64 ((((((((((((c.next 11).2).next (m.words.l.length + 2)).2).next 4).2).next 4).2).next (m.lists.l.length + 2)).2).next 6).2.value))] :: G, ⟨(Access.val (Access.mk (((c.next 11).1 : Nat) : Int) ((((((((((((c.next 11).2).next (m.words.l.length + 2)).2).next 4).2).next 4).2).next (m.lists.l.length + 2)).1 : Nat) : Int) - 1) (((((((c.next 11).2).next (m.words.l.length + 2)).2).next 4).1 : Nat) : Int) (((((((((c.next 11).2).next (m.words.l.length + 2)).2).next 4).2).next 4).1 : Nat) : Int) (((((((((((((c.next 11).2).next (m.words.l.length + 2)).2).next 4).2).next 4).2).next (m.lists.l.length + 2)).2).next 6).1 : Nat) : Int))), _, rfl, ⟨_, 5, Access.cells (Access.mk (((c.next 11).1 : Nat) : Int) ((((((((((((c.next 11).2).next (m.words.l.length + 2)).2).next 4).2).next 4).2).next (m.lists.l.length + 2)).1 : Nat) : Int) - 1) (((((((c.next 11).2).next (m.words.l.length + 2)).2).next 4).1 : Nat) : Int) (((((((((c.next 11).2).next (m.words.l.length + 2)).2).next 4).2).next 4).1 : Nat) : Int) (((((((((((((c.next 11).2).next (m.words.l.length + 2)).2).next 4).2).next 4).2).next (m.lists.l.length + 2)).2).next 6).1 : Nat) : Int)), rfl, rfl, rfl, rfl, ⟨rfl, Rdc.blk (.tail _ (.head _)) rfl⟩, rfl⟩, rfl⟩, .cons _ (.cons _ (.cons _ (.cons_cons _ (.refl _)))), ?_⟩
              exact ⟨[], _, rfl, (Access.mk (((c.next 11).1 : Nat) : Int) ((((((((((((c.next 11).2).next (m.words.l.length + 2)).2).next 4).2).next 4).2).next (m.lists.l.length + 2)).1 : Nat) : Int) - 1) (((((((c.next 11).2).next (m.words.l.length + 2)).2).next 4).1 : Nat) : Int) (((((((((c.next 11).2).next (m.words.l.length + 2)).2).next 4).2).next 4).1 : Nat) : Int) (((((((((((((c.next 11).2).next (m.words.l.length + 2)).2).next 4).2).next 4).2).next (m.lists.l.length + 2)).2).next 6).1 : Nat) : Int)), _, rfl, rfl, rfl, rfl⟩
            · intro h27
              have h27 := dcd_f (h27)
              refine Cw_skip ?_
              refine Cw_seq ?_
              refine Cw_region ?_
              refine Ow_q rfl rfl rfl (Qt_loadA (m := 5) (cs := Access.cells (Access.mk (((c.next 11).1 : Nat) : Int) ((((((((((((c.next 11).2).next (m.words.l.length + 2)).2).next 4).2).next 4).2).next (m.lists.l.length + 2)).1 : Nat) : Int) - 1) (((((((c.next 11).2).next (m.words.l.length + 2)).2).next 4).1 : Nat) : Int) (((((((((c.next 11).2).next (m.words.l.length + 2)).2).next 4).2).next 4).1 : Nat) : Int) 0)) rfl rfl rfl rfl ⟨rfl, Rdc.blk (.head _) rfl⟩) ?_
              refine Ow_cons rfl (OpW_store (vs := [(.int .i64 (((c.next 11).1 : Nat) : Int)), (.int .i64 ((((((((((((c.next 11).2).next (m.words.l.length + 2)).2).next 4).2).next 4).2).next (m.lists.l.length + 2)).1 : Nat) : Int) - 1)), (.int .u64 (((((((c.next 11).2).next (m.words.l.length + 2)).2).next 4).1 : Nat) : Int)), (.int .u64 (((((((((c.next 11).2).next (m.words.l.length + 2)).2).next 4).2).next 4).1 : Nat) : Int)), (.int .i64 0)]) (all' := [(.int .i64 (((c.next 11).1 : Nat) : Int)), (.int .i64 ((((((((((((c.next 11).2).next (m.words.l.length + 2)).2).next 4).2).next 4).2).next (m.lists.l.length + 2)).1 : Nat) : Int) - 1)), (.int .u64 (((((((c.next 11).2).next (m.words.l.length + 2)).2).next 4).1 : Nat) : Int)), (.int .u64 (((((((((c.next 11).2).next (m.words.l.length + 2)).2).next 4).2).next 4).1 : Nat) : Int)), (.int .i64 0)]) rfl rfl rfl rfl rfl (.there .here) rfl rfl rfl ?_)
              refine Ow_nil ?_
              refine Cw_ret ?_
              refine ⟨(by first | exact .inl rfl | exact .inr rfl), [(Access.val (Access.mk (((c.next 11).1 : Nat) : Int) ((((((((((((c.next 11).2).next (m.words.l.length + 2)).2).next 4).2).next 4).2).next (m.lists.l.length + 2)).1 : Nat) : Int) - 1) (((((((c.next 11).2).next (m.words.l.length + 2)).2).next 4).1 : Nat) : Int) (((((((((c.next 11).2).next (m.words.l.length + 2)).2).next 4).2).next 4).1 : Nat) : Int) 0))], .blk b 70 [(.slice A ((((((((((c.next 11).2).next (m.words.l.length + 2)).2).next 4).2).next 4).2).next (m.lists.l.length + 2)).2.list.length) cp), (.int .i64 (((((((((((c.next 11).2).next (m.words.l.length + 2)).2).next 4).2).next 4).2).next (m.lists.l.length + 2)).2.at_ : Nat) : Int)), (.int .u64 ((((((((((c.next 11).2).next (m.words.l.length + 2)).2).next 4).2).next 4).2).next (m.lists.l.length + 2)).2.value))] :: G, ⟨(Access.val (Access.mk (((c.next 11).1 : Nat) : Int) ((((((((((((c.next 11).2).next (m.words.l.length + 2)).2).next 4).2).next 4).2).next (m.lists.l.length + 2)).1 : Nat) : Int) - 1) (((((((c.next 11).2).next (m.words.l.length + 2)).2).next 4).1 : Nat) : Int) (((((((((c.next 11).2).next (m.words.l.length + 2)).2).next 4).2).next 4).1 : Nat) : Int) 0)), _, rfl, ⟨_, 5, Access.cells (Access.mk (((c.next 11).1 : Nat) : Int) ((((((((((((c.next 11).2).next (m.words.l.length + 2)).2).next 4).2).next 4).2).next (m.lists.l.length + 2)).1 : Nat) : Int) - 1) (((((((c.next 11).2).next (m.words.l.length + 2)).2).next 4).1 : Nat) : Int) (((((((((c.next 11).2).next (m.words.l.length + 2)).2).next 4).2).next 4).1 : Nat) : Int) 0), rfl, rfl, rfl, rfl, ⟨rfl, Rdc.blk (.tail _ (.head _)) rfl⟩, rfl⟩, rfl⟩, .cons _ (.cons _ (.cons _ (.cons_cons _ (.refl _)))), ?_⟩
              exact ⟨[], _, rfl, (Access.mk (((c.next 11).1 : Nat) : Int) ((((((((((((c.next 11).2).next (m.words.l.length + 2)).2).next 4).2).next 4).2).next (m.lists.l.length + 2)).1 : Nat) : Int) - 1) (((((((c.next 11).2).next (m.words.l.length + 2)).2).next 4).1 : Nat) : Int) (((((((((c.next 11).2).next (m.words.l.length + 2)).2).next 4).2).next 4).1 : Nat) : Int) 0), _, rfl, rfl, rfl, rfl⟩
          · intro h24
            have h24 := dcd_f (h24)
            refine Cw_skip ?_
            refine Cw_seq ?_
            refine Cw_seq ?_
            refine Cw_region ?_
            refine Ow_q rfl rfl rfl (Qt_fieldAddr (m := 0) rfl rfl rfl rfl rfl) ?_
            refine Ow_q rfl rfl rfl (Qt_load1 (v := (.int .i64 (((c.next 11).1 : Nat) : Int))) rfl rfl rfl (Rdc.blk (.head _) rfl)) ?_
            refine Ow_q rfl rfl rfl (Qt_cmp rfl rfl rfl) ?_
            refine Ow_nil ?_
            refine Cw_cond rfl ?_ ?_
            · intro h30
              have h30 := dcd_t (h30)
              refine Cw_region ?_
              refine Ow_q rfl rfl rfl (Qt_move rfl) ?_
              have hn31 : 0 < 6 := (by first | omega | (simp only [List.length_append, List.length_cons, List.length_nil, List.length_replicate, List.length_set]; omega) | (simp; omega))
              refine Ow_cons rfl (OpW_callG (v0 := (.int .i64 (((((((((((c.next 11).2).next (m.words.l.length + 2)).2).next 4).2).next 4).2).next 6).1 : Nat) : Int))) rfl Try.call40 rfl rfl (Fc.at (.there (.there (.there .here))) (fun G1 => c_next b A cp ((((((((c.next 11).2).next (m.words.l.length + 2)).2).next 4).2).next 4).2) 6 hn31 _ G1 hcd)) ?_)
              have hlt32 := Cd.next_lt ((((((((c.next 11).2).next (m.words.l.length + 2)).2).next 4).2).next 4).2) 6 hn31
              refine Ow_q rfl rfl rfl (Qt_fieldAddr (m := 4) rfl rfl rfl rfl rfl) ?_
              refine Ow_cons rfl (OpW_store (vs := [(.int .i64 (((((((((((c.next 11).2).next (m.words.l.length + 2)).2).next 4).2).next 4).2).next 6).1 : Nat) : Int))]) (all' := [(.int .i64 (((c.next 11).1 : Nat) : Int)), (.int .i64 ((((((c.next 11).2).next (m.words.l.length + 2)).1 : Nat) : Int) - 1)), (.int .u64 (((((((c.next 11).2).next (m.words.l.length + 2)).2).next 4).1 : Nat) : Int)), (.int .u64 (((((((((c.next 11).2).next (m.words.l.length + 2)).2).next 4).2).next 4).1 : Nat) : Int)), (.int .i64 (((((((((((c.next 11).2).next (m.words.l.length + 2)).2).next 4).2).next 4).2).next 6).1 : Nat) : Int))]) rfl rfl rfl rfl rfl .here rfl rfl rfl ?_)
              refine Ow_nil ?_
              refine Cw_seq ?_
              refine Cw_region ?_
              refine Ow_q rfl rfl rfl (Qt_loadA (m := 5) (cs := Access.cells (Access.mk (((c.next 11).1 : Nat) : Int) ((((((c.next 11).2).next (m.words.l.length + 2)).1 : Nat) : Int) - 1) (((((((c.next 11).2).next (m.words.l.length + 2)).2).next 4).1 : Nat) : Int) (((((((((c.next 11).2).next (m.words.l.length + 2)).2).next 4).2).next 4).1 : Nat) : Int) (((((((((((c.next 11).2).next (m.words.l.length + 2)).2).next 4).2).next 4).2).next 6).1 : Nat) : Int))) rfl rfl rfl rfl ⟨rfl, Rdc.blk (.head _) rfl⟩) ?_
              refine Ow_cons rfl (OpW_store (vs := [(.int .i64 (((c.next 11).1 : Nat) : Int)), (.int .i64 ((((((c.next 11).2).next (m.words.l.length + 2)).1 : Nat) : Int) - 1)), (.int .u64 (((((((c.next 11).2).next (m.words.l.length + 2)).2).next 4).1 : Nat) : Int)), (.int .u64 (((((((((c.next 11).2).next (m.words.l.length + 2)).2).next 4).2).next 4).1 : Nat) : Int)), (.int .i64 (((((((((((c.next 11).2).next (m.words.l.length + 2)).2).next 4).2).next 4).2).next 6).1 : Nat) : Int))]) (all' := [(.int .i64 (((c.next 11).1 : Nat) : Int)), (.int .i64 ((((((c.next 11).2).next (m.words.l.length + 2)).1 : Nat) : Int) - 1)), (.int .u64 (((((((c.next 11).2).next (m.words.l.length + 2)).2).next 4).1 : Nat) : Int)), (.int .u64 (((((((((c.next 11).2).next (m.words.l.length + 2)).2).next 4).2).next 4).1 : Nat) : Int)), (.int .i64 (((((((((((c.next 11).2).next (m.words.l.length + 2)).2).next 4).2).next 4).2).next 6).1 : Nat) : Int))]) rfl rfl rfl rfl rfl (.there .here) rfl rfl rfl ?_)
              refine Ow_nil ?_
              refine Cw_ret ?_
              refine ⟨(by first | exact .inl rfl | exact .inr rfl), [(Access.val (Access.mk (((c.next 11).1 : Nat) : Int) ((((((c.next 11).2).next (m.words.l.length + 2)).1 : Nat) : Int) - 1) (((((((c.next 11).2).next (m.words.l.length + 2)).2).next 4).1 : Nat) : Int) (((((((((c.next 11).2).next (m.words.l.length + 2)).2).next 4).2).next 4).1 : Nat) : Int) (((((((((((c.next 11).2).next (m.words.l.length + 2)).2).next 4).2).next 4).2).next 6).1 : Nat) : Int)))], .blk b 70 [(.slice A ((((((((((c.next 11).2).next (m.words.l.length + 2)).2).next 4).2).next 4).2).next 6).2.list.length) cp), (.int .i64 (((((((((((c.next 11).2).next (m.words.l.length + 2)).2).next 4).2).next 4).2).next 6).2.at_ : Nat) : Int)), (.int .u64 ((((((((((c.next 11).2).next (m.words.l.length + 2)).2).next 4).2).next 4).2).next 6).2.value))] :: G, ⟨(Access.val (Access.mk (((c.next 11).1 : Nat) : Int) ((((((c.next 11).2).next (m.words.l.length + 2)).1 : Nat) : Int) - 1) (((((((c.next 11).2).next (m.words.l.length + 2)).2).next 4).1 : Nat) : Int) (((((((((c.next 11).2).next (m.words.l.length + 2)).2).next 4).2).next 4).1 : Nat) : Int) (((((((((((c.next 11).2).next (m.words.l.length + 2)).2).next 4).2).next 4).2).next 6).1 : Nat) : Int))), _, rfl, ⟨_, 5, Access.cells (Access.mk (((c.next 11).1 : Nat) : Int) ((((((c.next 11).2).next (m.words.l.length + 2)).1 : Nat) : Int) - 1) (((((((c.next 11).2).next (m.words.l.length + 2)).2).next 4).1 : Nat) : Int) (((((((((c.next 11).2).next (m.words.l.length + 2)).2).next 4).2).next 4).1 : Nat) : Int) (((((((((((c.next 11).2).next (m.words.l.length + 2)).2).next 4).2).next 4).2).next 6).1 : Nat) : Int)), rfl, rfl, rfl, rfl, ⟨rfl, Rdc.blk (.tail _ (.head _)) rfl⟩, rfl⟩, rfl⟩, .cons _ (.cons _ (.cons _ (.cons_cons _ (.refl _)))), ?_⟩
              exact ⟨[], _, rfl, (Access.mk (((c.next 11).1 : Nat) : Int) ((((((c.next 11).2).next (m.words.l.length + 2)).1 : Nat) : Int) - 1) (((((((c.next 11).2).next (m.words.l.length + 2)).2).next 4).1 : Nat) : Int) (((((((((c.next 11).2).next (m.words.l.length + 2)).2).next 4).2).next 4).1 : Nat) : Int) (((((((((((c.next 11).2).next (m.words.l.length + 2)).2).next 4).2).next 4).2).next 6).1 : Nat) : Int)), _, rfl, rfl, rfl, rfl⟩
            · intro h30
              have h30 := dcd_f (h30)
              refine Cw_skip ?_
              refine Cw_seq ?_
              refine Cw_region ?_
              refine Ow_q rfl rfl rfl (Qt_loadA (m := 5) (cs := Access.cells (Access.mk (((c.next 11).1 : Nat) : Int) ((((((c.next 11).2).next (m.words.l.length + 2)).1 : Nat) : Int) - 1) (((((((c.next 11).2).next (m.words.l.length + 2)).2).next 4).1 : Nat) : Int) (((((((((c.next 11).2).next (m.words.l.length + 2)).2).next 4).2).next 4).1 : Nat) : Int) 0)) rfl rfl rfl rfl ⟨rfl, Rdc.blk (.head _) rfl⟩) ?_
              refine Ow_cons rfl (OpW_store (vs := [(.int .i64 (((c.next 11).1 : Nat) : Int)), (.int .i64 ((((((c.next 11).2).next (m.words.l.length + 2)).1 : Nat) : Int) - 1)), (.int .u64 (((((((c.next 11).2).next (m.words.l.length + 2)).2).next 4).1 : Nat) : Int)), (.int .u64 (((((((((c.next 11).2).next (m.words.l.length + 2)).2).next 4).2).next 4).1 : Nat) : Int)), (.int .i64 0)]) (all' := [(.int .i64 (((c.next 11).1 : Nat) : Int)), (.int .i64 ((((((c.next 11).2).next (m.words.l.length + 2)).1 : Nat) : Int) - 1)), (.int .u64 (((((((c.next 11).2).next (m.words.l.length + 2)).2).next 4).1 : Nat) : Int)), (.int .u64 (((((((((c.next 11).2).next (m.words.l.length + 2)).2).next 4).2).next 4).1 : Nat) : Int)), (.int .i64 0)]) rfl rfl rfl rfl rfl (.there .here) rfl rfl rfl ?_)
              refine Ow_nil ?_
              refine Cw_ret ?_
              refine ⟨(by first | exact .inl rfl | exact .inr rfl), [(Access.val (Access.mk (((c.next 11).1 : Nat) : Int) ((((((c.next 11).2).next (m.words.l.length + 2)).1 : Nat) : Int) - 1) (((((((c.next 11).2).next (m.words.l.length + 2)).2).next 4).1 : Nat) : Int) (((((((((c.next 11).2).next (m.words.l.length + 2)).2).next 4).2).next 4).1 : Nat) : Int) 0))], .blk b 70 [(.slice A ((((((((c.next 11).2).next (m.words.l.length + 2)).2).next 4).2).next 4).2.list.length) cp), (.int .i64 (((((((((c.next 11).2).next (m.words.l.length + 2)).2).next 4).2).next 4).2.at_ : Nat) : Int)), (.int .u64 ((((((((c.next 11).2).next (m.words.l.length + 2)).2).next 4).2).next 4).2.value))] :: G, ⟨(Access.val (Access.mk (((c.next 11).1 : Nat) : Int) ((((((c.next 11).2).next (m.words.l.length + 2)).1 : Nat) : Int) - 1) (((((((c.next 11).2).next (m.words.l.length + 2)).2).next 4).1 : Nat) : Int) (((((((((c.next 11).2).next (m.words.l.length + 2)).2).next 4).2).next 4).1 : Nat) : Int) 0)), _, rfl, ⟨_, 5, Access.cells (Access.mk (((c.next 11).1 : Nat) : Int) ((((((c.next 11).2).next (m.words.l.length + 2)).1 : Nat) : Int) - 1) (((((((c.next 11).2).next (m.words.l.length + 2)).2).next 4).1 : Nat) : Int) (((((((((c.next 11).2).next (m.words.l.length + 2)).2).next 4).2).next 4).1 : Nat) : Int) 0), rfl, rfl, rfl, rfl, ⟨rfl, Rdc.blk (.tail _ (.head _)) rfl⟩, rfl⟩, rfl⟩, .cons _ (.cons _ (.cons _ (.cons_cons _ (.refl _)))), ?_⟩
              exact ⟨[], _, rfl, (Access.mk (((c.next 11).1 : Nat) : Int) ((((((c.next 11).2).next (m.words.l.length + 2)).1 : Nat) : Int) - 1) (((((((c.next 11).2).next (m.words.l.length + 2)).2).next 4).1 : Nat) : Int) (((((((((c.next 11).2).next (m.words.l.length + 2)).2).next 4).2).next 4).1 : Nat) : Int) 0), _, rfl, rfl, rfl, rfl⟩
      · skip
        refine id (Ax_mk rfl rfl (OpW_alloc (cs := [(.int .i64 0), (.int .i64 0), (.int .u64 0), (.int .u64 0), (.int .i64 0)]) rfl rfl rfl rfl (fun b33 => ⟨(Inc.cons (.tail _ (.head _)) (Inc.cons (.tail _ (.tail _ (.head _))) Inc.nil)), ?_⟩)))
        have hn34 : 0 < 4 := (by first | omega | (simp only [List.length_append, List.length_cons, List.length_nil, List.length_replicate, List.length_set]; omega) | (simp; omega))
        refine Aw_one 10 (by kernel_rfl) (Ax_mk rfl rfl (OpW_callG (v0 := (.int .i64 (((((((c.next 11).2).next (m.words.l.length + 2)).2).next 4).1 : Nat) : Int))) rfl Try.call40 rfl rfl (Fc.at (.there (.there (.there .here))) (fun G1 => c_next b A cp ((((c.next 11).2).next (m.words.l.length + 2)).2) 4 hn34 _ G1 hcd)) ⟨(Inc.cons (.tail _ (.head _)) (Inc.cons (.tail _ (.tail _ (.head _))) Inc.nil)), ?_⟩))
        have hlt35 := Cd.next_lt ((((c.next 11).2).next (m.words.l.length + 2)).2) 4 hn34
        refine Aw_q 11 rfl (by kernel_rfl) (by kernel_rfl) (by kernel_rfl) rfl rfl rfl (Qt_conv (c := (((((((c.next 11).2).next (m.words.l.length + 2)).2).next 4).1 : Nat) : Int)) rfl rfl rfl (IntWalk.u64_in _ (by omega))) ?_
        have hn36 : 0 < 4 := (by first | omega | (simp only [List.length_append, List.length_cons, List.length_nil, List.length_replicate, List.length_set]; omega) | (simp; omega))
        refine Aw_one 13 (by kernel_rfl) (Ax_mk rfl rfl (OpW_callG (v0 := (.int .i64 (((((((((c.next 11).2).next (m.words.l.length + 2)).2).next 4).2).next 4).1 : Nat) : Int))) rfl Try.call40 rfl rfl (Fc.at (.there (.there (.there .here))) (fun G1 => c_next b A cp ((((((c.next 11).2).next (m.words.l.length + 2)).2).next 4).2) 4 hn36 _ G1 hcd)) ⟨(Inc.cons (.tail _ (.head _)) (Inc.cons (.tail _ (.tail _ (.head _))) Inc.nil)), ?_⟩))
        have hlt37 := Cd.next_lt ((((((c.next 11).2).next (m.words.l.length + 2)).2).next 4).2) 4 hn36
        refine Aw_q 14 rfl (by kernel_rfl) (by kernel_rfl) (by kernel_rfl) rfl rfl rfl (Qt_conv (c := (((((((((c.next 11).2).next (m.words.l.length + 2)).2).next 4).2).next 4).1 : Nat) : Int)) rfl rfl rfl (IntWalk.u64_in _ (by omega))) ?_
        refine Aw_q 15 rfl (by kernel_rfl) (by kernel_rfl) (by kernel_rfl) rfl rfl rfl (Qt_build (cs := Access.cells (Access.mk (((c.next 11).1 : Nat) : Int) ((((((c.next 11).2).next (m.words.l.length + 2)).1 : Nat) : Int) - 1) (((((((c.next 11).2).next (m.words.l.length + 2)).2).next 4).1 : Nat) : Int) (((((((((c.next 11).2).next (m.words.l.length + 2)).2).next 4).2).next 4).1 : Nat) : Int) 0)) rfl rfl rfl rfl rfl rfl) ?_
        refine Aw_one 17 (by kernel_rfl) (Ax_mk rfl rfl (OpW_store (vs := [(.int .i64 (((c.next 11).1 : Nat) : Int)), (.int .i64 ((((((c.next 11).2).next (m.words.l.length + 2)).1 : Nat) : Int) - 1)), (.int .u64 (((((((c.next 11).2).next (m.words.l.length + 2)).2).next 4).1 : Nat) : Int)), (.int .u64 (((((((((c.next 11).2).next (m.words.l.length + 2)).2).next 4).2).next 4).1 : Nat) : Int)), (.int .i64 0)]) (all' := [(.int .i64 (((c.next 11).1 : Nat) : Int)), (.int .i64 ((((((c.next 11).2).next (m.words.l.length + 2)).1 : Nat) : Int) - 1)), (.int .u64 (((((((c.next 11).2).next (m.words.l.length + 2)).2).next 4).1 : Nat) : Int)), (.int .u64 (((((((((c.next 11).2).next (m.words.l.length + 2)).2).next 4).2).next 4).1 : Nat) : Int)), (.int .i64 0)]) rfl rfl rfl rfl rfl .here rfl rfl rfl ⟨(Inc.cons (.tail _ (.head _)) (Inc.cons (.tail _ (.tail _ (.head _))) Inc.nil)), ?_⟩))
        refine Aw_done (by kernel_rfl) ?_
        refine Cw_seq ?_
        refine Cw_seq ?_
        refine Cw_region ?_
        refine Ow_q rfl rfl rfl (Qt_fieldAddr (m := 0) rfl rfl rfl rfl rfl) ?_
        refine Ow_q rfl rfl rfl (Qt_load1 (v := (.int .i64 (((c.next 11).1 : Nat) : Int))) rfl rfl rfl (Rdc.blk (.head _) rfl)) ?_
        refine Ow_q rfl rfl rfl (Qt_cmp rfl rfl rfl) ?_
        refine Ow_nil ?_
        refine Cw_cond rfl ?_ ?_
        · intro h38
          have h38 := dcd_t (h38)
          refine Cw_region ?_
          refine Ow_q rfl rfl rfl (Qt_move rfl) ?_
          refine Ow_q rfl rfl rfl (Qt_fieldAddr (m := 1) rfl rfl rfl rfl rfl) ?_
          refine Ow_q rfl rfl rfl (Qt_load1 (v := (.slice m.lists.A m.lists.l.length m.lists.cp)) rfl rfl rfl (Rdc.blk (.tail _ (.tail _ (.head _))) rfl)) ?_
          refine Ow_q rfl rfl rfl (Qt_len rfl rfl) ?_
          refine Ow_q rfl rfl rfl (Qt_arith (e := (((m.lists.l.length : Nat) : Int) + 2)) rfl rfl rfl (wrap_eq (by omega) (by omega))) ?_
          have hn39 : 0 < (m.lists.l.length + 2) := (by first | omega | (simp only [List.length_append, List.length_cons, List.length_nil, List.length_replicate, List.length_set]; omega) | (simp; omega))
          refine Ow_cons rfl (OpW_callG (v0 := (.int .i64 (((((((((((c.next 11).2).next (m.words.l.length + 2)).2).next 4).2).next 4).2).next (m.lists.l.length + 2)).1 : Nat) : Int))) rfl Try.call40 rfl rfl (Fc.at (.there (.there (.there .here))) (fun G1 => c_next b A cp ((((((((c.next 11).2).next (m.words.l.length + 2)).2).next 4).2).next 4).2) (m.lists.l.length + 2) hn39 _ G1 hcd)) ?_)
          have hlt40 := Cd.next_lt ((((((((c.next 11).2).next (m.words.l.length + 2)).2).next 4).2).next 4).2) (m.lists.l.length + 2) hn39
          refine Ow_q rfl rfl rfl (Qt_arith (e := ((((((((((((c.next 11).2).next (m.words.l.length + 2)).2).next 4).2).next 4).2).next (m.lists.l.length + 2)).1 : Nat) : Int) - 1)) rfl rfl rfl (wrap_eq (by omega) (by omega))) ?_
          refine Ow_q rfl rfl rfl (Qt_fieldAddr (m := 1) rfl rfl rfl rfl rfl) ?_
          refine Ow_cons rfl (OpW_store (vs := [(.int .i64 ((((((((((((c.next 11).2).next (m.words.l.length + 2)).2).next 4).2).next 4).2).next (m.lists.l.length + 2)).1 : Nat) : Int) - 1))]) (all' := [(.int .i64 (((c.next 11).1 : Nat) : Int)), (.int .i64 ((((((((((((c.next 11).2).next (m.words.l.length + 2)).2).next 4).2).next 4).2).next (m.lists.l.length + 2)).1 : Nat) : Int) - 1)), (.int .u64 (((((((c.next 11).2).next (m.words.l.length + 2)).2).next 4).1 : Nat) : Int)), (.int .u64 (((((((((c.next 11).2).next (m.words.l.length + 2)).2).next 4).2).next 4).1 : Nat) : Int)), (.int .i64 0)]) rfl rfl rfl rfl rfl .here rfl rfl rfl ?_)
          refine Ow_nil ?_
          refine Cw_seq ?_
          refine Cw_seq ?_
          refine Cw_region ?_
          refine Ow_q rfl rfl rfl (Qt_fieldAddr (m := 0) rfl rfl rfl rfl rfl) ?_
          refine Ow_q rfl rfl rfl (Qt_load1 (v := (.int .i64 (((c.next 11).1 : Nat) : Int))) rfl rfl rfl (Rdc.blk (.head _) rfl)) ?_
          refine Ow_q rfl rfl rfl (Qt_cmp rfl rfl rfl) ?_
          refine Ow_nil ?_
          refine Cw_cond rfl ?_ ?_
          · intro h41
            have h41 := dcd_t (h41)
            refine Cw_region ?_
            refine Ow_q rfl rfl rfl (Qt_move rfl) ?_
            have hn42 : 0 < 6 := (by first | omega | (simp only [List.length_append, List.length_cons, List.length_nil, List.length_replicate, List.length_set]; omega) | (simp; omega))
            refine Ow_cons rfl (OpW_callG (v0 := (.int .i64 (((((((((((((c.next 11).2).next (m.words.l.length + 2)).2).next 4).2).next 4).2).next (m.lists.l.length + 2)).2).next 6).1 : Nat) : Int))) rfl Try.call40 rfl rfl (Fc.at (.there (.there (.there .here))) (fun G1 => c_next b A cp ((((((((((c.next 11).2).next (m.words.l.length + 2)).2).next 4).2).next 4).2).next (m.lists.l.length + 2)).2) 6 hn42 _ G1 hcd)) ?_)
            have hlt43 := Cd.next_lt ((((((((((c.next 11).2).next (m.words.l.length + 2)).2).next 4).2).next 4).2).next (m.lists.l.length + 2)).2) 6 hn42
            refine Ow_q rfl rfl rfl (Qt_fieldAddr (m := 4) rfl rfl rfl rfl rfl) ?_
            refine Ow_cons rfl (OpW_store (vs := [(.int .i64 (((((((((((((c.next 11).2).next (m.words.l.length + 2)).2).next 4).2).next 4).2).next (m.lists.l.length + 2)).2).next 6).1 : Nat) : Int))]) (all' := [(.int .i64 (((c.next 11).1 : Nat) : Int)), (.int .i64 ((((((((((((c.next 11).2).next (m.words.l.length + 2)).2).next 4).2).next 4).2).next (m.lists.l.length + 2)).1 : Nat) : Int) - 1)), (.int .u64 (((((((c.next 11).2).next (m.words.l.length + 2)).2).next 4).1 : Nat) : Int)), (.int .u64 (((((((((c.next 11).2).next (m.words.l.length + 2)).2).next 4).2).next 4).1 : Nat) : Int)), (.int .i64 (((((((((((((c.next 11).2).next (m.words.l.length + 2)).2).next 4).2).next 4).2).next (m.lists.l.length + 2)).2).next 6).1 : Nat) : Int))]) rfl rfl rfl rfl rfl .here rfl rfl rfl ?_)
            refine Ow_nil ?_
            refine Cw_seq ?_
            refine Cw_region ?_
            refine Ow_q rfl rfl rfl (Qt_loadA (m := 5) (cs := Access.cells (Access.mk (((c.next 11).1 : Nat) : Int) ((((((((((((c.next 11).2).next (m.words.l.length + 2)).2).next 4).2).next 4).2).next (m.lists.l.length + 2)).1 : Nat) : Int) - 1) (((((((c.next 11).2).next (m.words.l.length + 2)).2).next 4).1 : Nat) : Int) (((((((((c.next 11).2).next (m.words.l.length + 2)).2).next 4).2).next 4).1 : Nat) : Int) (((((((((((((c.next 11).2).next (m.words.l.length + 2)).2).next 4).2).next 4).2).next (m.lists.l.length + 2)).2).next 6).1 : Nat) : Int))) rfl rfl rfl rfl ⟨rfl, Rdc.blk (.head _) rfl⟩) ?_
            refine Ow_cons rfl (OpW_store (vs := [(.int .i64 (((c.next 11).1 : Nat) : Int)), (.int .i64 ((((((((((((c.next 11).2).next (m.words.l.length + 2)).2).next 4).2).next 4).2).next (m.lists.l.length + 2)).1 : Nat) : Int) - 1)), (.int .u64 (((((((c.next 11).2).next (m.words.l.length + 2)).2).next 4).1 : Nat) : Int)), (.int .u64 (((((((((c.next 11).2).next (m.words.l.length + 2)).2).next 4).2).next 4).1 : Nat) : Int)), (.int .i64 (((((((((((((c.next 11).2).next (m.words.l.length + 2)).2).next 4).2).next 4).2).next (m.lists.l.length + 2)).2).next 6).1 : Nat) : Int))]) (all' := [(.int .i64 (((c.next 11).1 : Nat) : Int)), (.int .i64 ((((((((((((c.next 11).2).next (m.words.l.length + 2)).2).next 4).2).next 4).2).next (m.lists.l.length + 2)).1 : Nat) : Int) - 1)), (.int .u64 (((((((c.next 11).2).next (m.words.l.length + 2)).2).next 4).1 : Nat) : Int)), (.int .u64 (((((((((c.next 11).2).next (m.words.l.length + 2)).2).next 4).2).next 4).1 : Nat) : Int)), (.int .i64 (((((((((((((c.next 11).2).next (m.words.l.length + 2)).2).next 4).2).next 4).2).next (m.lists.l.length + 2)).2).next 6).1 : Nat) : Int))]) rfl rfl rfl rfl rfl (.there .here) rfl rfl rfl ?_)
            refine Ow_nil ?_
            refine Cw_ret ?_
            refine ⟨(by first | exact .inl rfl | exact .inr rfl), [(Access.val (Access.mk (((c.next 11).1 : Nat) : Int) ((((((((((((c.next 11).2).next (m.words.l.length + 2)).2).next 4).2).next 4).2).next (m.lists.l.length + 2)).1 : Nat) : Int) - 1) (((((((c.next 11).2).next (m.words.l.length + 2)).2).next 4).1 : Nat) : Int) (((((((((c.next 11).2).next (m.words.l.length + 2)).2).next 4).2).next 4).1 : Nat) : Int) (((((((((((((c.next 11).2).next (m.words.l.length + 2)).2).next 4).2).next 4).2).next (m.lists.l.length + 2)).2).next 6).1 : Nat) : Int)))], .blk b 70 [(.slice A ((((((((((((c.next 11).2).next (m.words.l.length + 2)).2).next 4).2).next 4).2).next (m.lists.l.length + 2)).2).next 6).2.list.length) cp), (.int .i64 (((((((((((((c.next 11).2).next (m.words.l.length + 2)).2).next 4).2).next 4).2).next (m.lists.l.length + 2)).2).next 6).2.at_ : Nat) : Int)), (.int .u64 ((((((((((((c.next 11).2).next (m.words.l.length + 2)).2).next 4).2).next 4).2).next (m.lists.l.length + 2)).2).next 6).2.value))] :: G, ⟨(Access.val (Access.mk (((c.next 11).1 : Nat) : Int) ((((((((((((c.next 11).2).next (m.words.l.length + 2)).2).next 4).2).next 4).2).next (m.lists.l.length + 2)).1 : Nat) : Int) - 1) (((((((c.next 11).2).next (m.words.l.length + 2)).2).next 4).1 : Nat) : Int) (((((((((c.next 11).2).next (m.words.l.length + 2)).2).next 4).2).next 4).1 : Nat) : Int) (((((((((((((c.next 11).2).next (m.words.l.length + 2)).2).next 4).2).next 4).2).next (m.lists.l.length + 2)).2).next 6).1 : Nat) : Int))), _, rfl, ⟨_, 5, Access.cells (Access.mk (((c.next 11).1 : Nat) : Int) ((((((((((((c.next 11).2).next (m.words.l.length + 2)).2).next 4).2).next 4).2).next (m.lists.l.length + 2)).1 : Nat) : Int) - 1) (((((((c.next 11).2).next (m.words.l.length + 2)).2).next 4).1 : Nat) : Int) (((((((((c.next 11).2).next (m.words.l.length + 2)).2).next 4).2).next 4).1 : Nat) : Int) (((((((((((((c.next 11).2).next (m.words.l.length + 2)).2).next 4).2).next 4).2).next (m.lists.l.length + 2)).2).next 6).1 : Nat) : Int)), rfl, rfl, rfl, rfl, ⟨rfl, Rdc.blk (.tail _ (.head _)) rfl⟩, rfl⟩, rfl⟩, .cons _ (.cons _ (.cons _ (.cons_cons _ (.refl _)))), ?_⟩
            exact ⟨[], _, rfl, (Access.mk (((c.next 11).1 : Nat) : Int) ((((((((((((c.next 11).2).next (m.words.l.length + 2)).2).next 4).2).next 4).2).next (m.lists.l.length + 2)).1 : Nat) : Int) - 1) (((((((c.next 11).2).next (m.words.l.length + 2)).2).next 4).1 : Nat) : Int) (((((((((c.next 11).2).next (m.words.l.length + 2)).2).next 4).2).next 4).1 : Nat) : Int) (((((((((((((c.next 11).2).next (m.words.l.length + 2)).2).next 4).2).next 4).2).next (m.lists.l.length + 2)).2).next 6).1 : Nat) : Int)), _, rfl, rfl, rfl, rfl⟩
          · intro h41
            have h41 := dcd_f (h41)
            refine Cw_skip ?_
            refine Cw_seq ?_
            refine Cw_region ?_
            refine Ow_q rfl rfl rfl (Qt_loadA (m := 5) (cs := Access.cells (Access.mk (((c.next 11).1 : Nat) : Int) ((((((((((((c.next 11).2).next (m.words.l.length + 2)).2).next 4).2).next 4).2).next (m.lists.l.length + 2)).1 : Nat) : Int) - 1) (((((((c.next 11).2).next (m.words.l.length + 2)).2).next 4).1 : Nat) : Int) (((((((((c.next 11).2).next (m.words.l.length + 2)).2).next 4).2).next 4).1 : Nat) : Int) 0)) rfl rfl rfl rfl ⟨rfl, Rdc.blk (.head _) rfl⟩) ?_
            refine Ow_cons rfl (OpW_store (vs := [(.int .i64 (((c.next 11).1 : Nat) : Int)), (.int .i64 ((((((((((((c.next 11).2).next (m.words.l.length + 2)).2).next 4).2).next 4).2).next (m.lists.l.length + 2)).1 : Nat) : Int) - 1)), (.int .u64 (((((((c.next 11).2).next (m.words.l.length + 2)).2).next 4).1 : Nat) : Int)), (.int .u64 (((((((((c.next 11).2).next (m.words.l.length + 2)).2).next 4).2).next 4).1 : Nat) : Int)), (.int .i64 0)]) (all' := [(.int .i64 (((c.next 11).1 : Nat) : Int)), (.int .i64 ((((((((((((c.next 11).2).next (m.words.l.length + 2)).2).next 4).2).next 4).2).next (m.lists.l.length + 2)).1 : Nat) : Int) - 1)), (.int .u64 (((((((c.next 11).2).next (m.words.l.length + 2)).2).next 4).1 : Nat) : Int)), (.int .u64 (((((((((c.next 11).2).next (m.words.l.length + 2)).2).next 4).2).next 4).1 : Nat) : Int)), (.int .i64 0)]) rfl rfl rfl rfl rfl (.there .here) rfl rfl rfl ?_)
            refine Ow_nil ?_
            refine Cw_ret ?_
            refine ⟨(by first | exact .inl rfl | exact .inr rfl), [(Access.val (Access.mk (((c.next 11).1 : Nat) : Int) ((((((((((((c.next 11).2).next (m.words.l.length + 2)).2).next 4).2).next 4).2).next (m.lists.l.length + 2)).1 : Nat) : Int) - 1) (((((((c.next 11).2).next (m.words.l.length + 2)).2).next 4).1 : Nat) : Int) (((((((((c.next 11).2).next (m.words.l.length + 2)).2).next 4).2).next 4).1 : Nat) : Int) 0))], .blk b 70 [(.slice A ((((((((((c.next 11).2).next (m.words.l.length + 2)).2).next 4).2).next 4).2).next (m.lists.l.length + 2)).2.list.length) cp), (.int .i64 (((((((((((c.next 11).2).next (m.words.l.length + 2)).2).next 4).2).next 4).2).next (m.lists.l.length + 2)).2.at_ : Nat) : Int)), (.int .u64 ((((((((((c.next 11).2).next (m.words.l.length + 2)).2).next 4).2).next 4).2).next (m.lists.l.length + 2)).2.value))] :: G, ⟨(Access.val (Access.mk (((c.next 11).1 : Nat) : Int) ((((((((((((c.next 11).2).next (m.words.l.length + 2)).2).next 4).2).next 4).2).next (m.lists.l.length + 2)).1 : Nat) : Int) - 1) (((((((c.next 11).2).next (m.words.l.length + 2)).2).next 4).1 : Nat) : Int) (((((((((c.next 11).2).next (m.words.l.length + 2)).2).next 4).2).next 4).1 : Nat) : Int) 0)), _, rfl, ⟨_, 5, Access.cells (Access.mk (((c.next 11).1 : Nat) : Int) ((((((((((((c.next 11).2).next (m.words.l.length + 2)).2).next 4).2).next 4).2).next (m.lists.l.length + 2)).1 : Nat) : Int) - 1) (((((((c.next 11).2).next (m.words.l.length + 2)).2).next 4).1 : Nat) : Int) (((((((((c.next 11).2).next (m.words.l.length + 2)).2).next 4).2).next 4).1 : Nat) : Int) 0), rfl, rfl, rfl, rfl, ⟨rfl, Rdc.blk (.tail _ (.head _)) rfl⟩, rfl⟩, rfl⟩, .cons _ (.cons _ (.cons _ (.cons_cons _ (.refl _)))), ?_⟩
            exact ⟨[], _, rfl, (Access.mk (((c.next 11).1 : Nat) : Int) ((((((((((((c.next 11).2).next (m.words.l.length + 2)).2).next 4).2).next 4).2).next (m.lists.l.length + 2)).1 : Nat) : Int) - 1) (((((((c.next 11).2).next (m.words.l.length + 2)).2).next 4).1 : Nat) : Int) (((((((((c.next 11).2).next (m.words.l.length + 2)).2).next 4).2).next 4).1 : Nat) : Int) 0), _, rfl, rfl, rfl, rfl⟩
        · intro h38
          have h38 := dcd_f (h38)
          refine Cw_skip ?_
          refine Cw_seq ?_
          refine Cw_seq ?_
          refine Cw_region ?_
          refine Ow_q rfl rfl rfl (Qt_fieldAddr (m := 0) rfl rfl rfl rfl rfl) ?_
          refine Ow_q rfl rfl rfl (Qt_load1 (v := (.int .i64 (((c.next 11).1 : Nat) : Int))) rfl rfl rfl (Rdc.blk (.head _) rfl)) ?_
          refine Ow_q rfl rfl rfl (Qt_cmp rfl rfl rfl) ?_
          refine Ow_nil ?_
          refine Cw_cond rfl ?_ ?_
          · intro h44
            have h44 := dcd_t (h44)
            refine Cw_region ?_
            refine Ow_q rfl rfl rfl (Qt_move rfl) ?_
            have hn45 : 0 < 6 := (by first | omega | (simp only [List.length_append, List.length_cons, List.length_nil, List.length_replicate, List.length_set]; omega) | (simp; omega))
            refine Ow_cons rfl (OpW_callG (v0 := (.int .i64 (((((((((((c.next 11).2).next (m.words.l.length + 2)).2).next 4).2).next 4).2).next 6).1 : Nat) : Int))) rfl Try.call40 rfl rfl (Fc.at (.there (.there (.there .here))) (fun G1 => c_next b A cp ((((((((c.next 11).2).next (m.words.l.length + 2)).2).next 4).2).next 4).2) 6 hn45 _ G1 hcd)) ?_)
            have hlt46 := Cd.next_lt ((((((((c.next 11).2).next (m.words.l.length + 2)).2).next 4).2).next 4).2) 6 hn45
            refine Ow_q rfl rfl rfl (Qt_fieldAddr (m := 4) rfl rfl rfl rfl rfl) ?_
            refine Ow_cons rfl (OpW_store (vs := [(.int .i64 (((((((((((c.next 11).2).next (m.words.l.length + 2)).2).next 4).2).next 4).2).next 6).1 : Nat) : Int))]) (all' := [(.int .i64 (((c.next 11).1 : Nat) : Int)), (.int .i64 ((((((c.next 11).2).next (m.words.l.length + 2)).1 : Nat) : Int) - 1)), (.int .u64 (((((((c.next 11).2).next (m.words.l.length + 2)).2).next 4).1 : Nat) : Int)), (.int .u64 (((((((((c.next 11).2).next (m.words.l.length + 2)).2).next 4).2).next 4).1 : Nat) : Int)), (.int .i64 (((((((((((c.next 11).2).next (m.words.l.length + 2)).2).next 4).2).next 4).2).next 6).1 : Nat) : Int))]) rfl rfl rfl rfl rfl .here rfl rfl rfl ?_)
            refine Ow_nil ?_
            refine Cw_seq ?_
            refine Cw_region ?_
            refine Ow_q rfl rfl rfl (Qt_loadA (m := 5) (cs := Access.cells (Access.mk (((c.next 11).1 : Nat) : Int) ((((((c.next 11).2).next (m.words.l.length + 2)).1 : Nat) : Int) - 1) (((((((c.next 11).2).next (m.words.l.length + 2)).2).next 4).1 : Nat) : Int) (((((((((c.next 11).2).next (m.words.l.length + 2)).2).next 4).2).next 4).1 : Nat) : Int) (((((((((((c.next 11).2).next (m.words.l.length + 2)).2).next 4).2).next 4).2).next 6).1 : Nat) : Int))) rfl rfl rfl rfl ⟨rfl, Rdc.blk (.head _) rfl⟩) ?_
            refine Ow_cons rfl (OpW_store (vs := [(.int .i64 (((c.next 11).1 : Nat) : Int)), (.int .i64 ((((((c.next 11).2).next (m.words.l.length + 2)).1 : Nat) : Int) - 1)), (.int .u64 (((((((c.next 11).2).next (m.words.l.length + 2)).2).next 4).1 : Nat) : Int)), (.int .u64 (((((((((c.next 11).2).next (m.words.l.length + 2)).2).next 4).2).next 4).1 : Nat) : Int)), (.int .i64 (((((((((((c.next 11).2).next (m.words.l.length + 2)).2).next 4).2).next 4).2).next 6).1 : Nat) : Int))]) (all' := [(.int .i64 (((c.next 11).1 : Nat) : Int)), (.int .i64 ((((((c.next 11).2).next (m.words.l.length + 2)).1 : Nat) : Int) - 1)), (.int .u64 (((((((c.next 11).2).next (m.words.l.length + 2)).2).next 4).1 : Nat) : Int)), (.int .u64 (((((((((c.next 11).2).next (m.words.l.length + 2)).2).next 4).2).next 4).1 : Nat) : Int)), (.int .i64 (((((((((((c.next 11).2).next (m.words.l.length + 2)).2).next 4).2).next 4).2).next 6).1 : Nat) : Int))]) rfl rfl rfl rfl rfl (.there .here) rfl rfl rfl ?_)
            refine Ow_nil ?_
            refine Cw_ret ?_
            refine ⟨(by first | exact .inl rfl | exact .inr rfl), [(Access.val (Access.mk (((c.next 11).1 : Nat) : Int) ((((((c.next 11).2).next (m.words.l.length + 2)).1 : Nat) : Int) - 1) (((((((c.next 11).2).next (m.words.l.length + 2)).2).next 4).1 : Nat) : Int) (((((((((c.next 11).2).next (m.words.l.length + 2)).2).next 4).2).next 4).1 : Nat) : Int) (((((((((((c.next 11).2).next (m.words.l.length + 2)).2).next 4).2).next 4).2).next 6).1 : Nat) : Int)))], .blk b 70 [(.slice A ((((((((((c.next 11).2).next (m.words.l.length + 2)).2).next 4).2).next 4).2).next 6).2.list.length) cp), (.int .i64 (((((((((((c.next 11).2).next (m.words.l.length + 2)).2).next 4).2).next 4).2).next 6).2.at_ : Nat) : Int)), (.int .u64 ((((((((((c.next 11).2).next (m.words.l.length + 2)).2).next 4).2).next 4).2).next 6).2.value))] :: G, ⟨(Access.val (Access.mk (((c.next 11).1 : Nat) : Int) ((((((c.next 11).2).next (m.words.l.length + 2)).1 : Nat) : Int) - 1) (((((((c.next 11).2).next (m.words.l.length + 2)).2).next 4).1 : Nat) : Int) (((((((((c.next 11).2).next (m.words.l.length + 2)).2).next 4).2).next 4).1 : Nat) : Int) (((((((((((c.next 11).2).next (m.words.l.length + 2)).2).next 4).2).next 4).2).next 6).1 : Nat) : Int))), _, rfl, ⟨_, 5, Access.cells (Access.mk (((c.next 11).1 : Nat) : Int) ((((((c.next 11).2).next (m.words.l.length + 2)).1 : Nat) : Int) - 1) (((((((c.next 11).2).next (m.words.l.length + 2)).2).next 4).1 : Nat) : Int) (((((((((c.next 11).2).next (m.words.l.length + 2)).2).next 4).2).next 4).1 : Nat) : Int) (((((((((((c.next 11).2).next (m.words.l.length + 2)).2).next 4).2).next 4).2).next 6).1 : Nat) : Int)), rfl, rfl, rfl, rfl, ⟨rfl, Rdc.blk (.tail _ (.head _)) rfl⟩, rfl⟩, rfl⟩, .cons _ (.cons _ (.cons _ (.cons_cons _ (.refl _)))), ?_⟩
            exact ⟨[], _, rfl, (Access.mk (((c.next 11).1 : Nat) : Int) ((((((c.next 11).2).next (m.words.l.length + 2)).1 : Nat) : Int) - 1) (((((((c.next 11).2).next (m.words.l.length + 2)).2).next 4).1 : Nat) : Int) (((((((((c.next 11).2).next (m.words.l.length + 2)).2).next 4).2).next 4).1 : Nat) : Int) (((((((((((c.next 11).2).next (m.words.l.length + 2)).2).next 4).2).next 4).2).next 6).1 : Nat) : Int)), _, rfl, rfl, rfl, rfl⟩
          · intro h44
            have h44 := dcd_f (h44)
            refine Cw_skip ?_
            refine Cw_seq ?_
            refine Cw_region ?_
            refine Ow_q rfl rfl rfl (Qt_loadA (m := 5) (cs := Access.cells (Access.mk (((c.next 11).1 : Nat) : Int) ((((((c.next 11).2).next (m.words.l.length + 2)).1 : Nat) : Int) - 1) (((((((c.next 11).2).next (m.words.l.length + 2)).2).next 4).1 : Nat) : Int) (((((((((c.next 11).2).next (m.words.l.length + 2)).2).next 4).2).next 4).1 : Nat) : Int) 0)) rfl rfl rfl rfl ⟨rfl, Rdc.blk (.head _) rfl⟩) ?_
            refine Ow_cons rfl (OpW_store (vs := [(.int .i64 (((c.next 11).1 : Nat) : Int)), (.int .i64 ((((((c.next 11).2).next (m.words.l.length + 2)).1 : Nat) : Int) - 1)), (.int .u64 (((((((c.next 11).2).next (m.words.l.length + 2)).2).next 4).1 : Nat) : Int)), (.int .u64 (((((((((c.next 11).2).next (m.words.l.length + 2)).2).next 4).2).next 4).1 : Nat) : Int)), (.int .i64 0)]) (all' := [(.int .i64 (((c.next 11).1 : Nat) : Int)), (.int .i64 ((((((c.next 11).2).next (m.words.l.length + 2)).1 : Nat) : Int) - 1)), (.int .u64 (((((((c.next 11).2).next (m.words.l.length + 2)).2).next 4).1 : Nat) : Int)), (.int .u64 (((((((((c.next 11).2).next (m.words.l.length + 2)).2).next 4).2).next 4).1 : Nat) : Int)), (.int .i64 0)]) rfl rfl rfl rfl rfl (.there .here) rfl rfl rfl ?_)
            refine Ow_nil ?_
            refine Cw_ret ?_
            refine ⟨(by first | exact .inl rfl | exact .inr rfl), [(Access.val (Access.mk (((c.next 11).1 : Nat) : Int) ((((((c.next 11).2).next (m.words.l.length + 2)).1 : Nat) : Int) - 1) (((((((c.next 11).2).next (m.words.l.length + 2)).2).next 4).1 : Nat) : Int) (((((((((c.next 11).2).next (m.words.l.length + 2)).2).next 4).2).next 4).1 : Nat) : Int) 0))], .blk b 70 [(.slice A ((((((((c.next 11).2).next (m.words.l.length + 2)).2).next 4).2).next 4).2.list.length) cp), (.int .i64 (((((((((c.next 11).2).next (m.words.l.length + 2)).2).next 4).2).next 4).2.at_ : Nat) : Int)), (.int .u64 ((((((((c.next 11).2).next (m.words.l.length + 2)).2).next 4).2).next 4).2.value))] :: G, ⟨(Access.val (Access.mk (((c.next 11).1 : Nat) : Int) ((((((c.next 11).2).next (m.words.l.length + 2)).1 : Nat) : Int) - 1) (((((((c.next 11).2).next (m.words.l.length + 2)).2).next 4).1 : Nat) : Int) (((((((((c.next 11).2).next (m.words.l.length + 2)).2).next 4).2).next 4).1 : Nat) : Int) 0)), _, rfl, ⟨_, 5, Access.cells (Access.mk (((c.next 11).1 : Nat) : Int) ((((((c.next 11).2).next (m.words.l.length + 2)).1 : Nat) : Int) - 1) (((((((c.next 11).2).next (m.words.l.length + 2)).2).next 4).1 : Nat) : Int) (((((((((c.next 11).2).next (m.words.l.length + 2)).2).next 4).2).next 4).1 : Nat) : Int) 0), rfl, rfl, rfl, rfl, ⟨rfl, Rdc.blk (.tail _ (.head _)) rfl⟩, rfl⟩, rfl⟩, .cons _ (.cons _ (.cons _ (.cons_cons _ (.refl _)))), ?_⟩
            exact ⟨[], _, rfl, (Access.mk (((c.next 11).1 : Nat) : Int) ((((((c.next 11).2).next (m.words.l.length + 2)).1 : Nat) : Int) - 1) (((((((c.next 11).2).next (m.words.l.length + 2)).2).next 4).1 : Nat) : Int) (((((((((c.next 11).2).next (m.words.l.length + 2)).2).next 4).2).next 4).1 : Nat) : Int) 0), _, rfl, rfl, rfl, rfl⟩
    · skip
      refine id (Ax_mk rfl rfl (OpW_alloc (cs := [(.int .i64 0), (.int .i64 0), (.int .u64 0), (.int .u64 0), (.int .i64 0)]) rfl rfl rfl rfl (fun b47 => ⟨(Inc.cons (.tail _ (.head _)) (Inc.cons (.tail _ (.tail _ (.head _))) Inc.nil)), ?_⟩)))
      have hn48 : 0 < (m.words.l.length + 2) := (by first | omega | (simp only [List.length_append, List.length_cons, List.length_nil, List.length_replicate, List.length_set]; omega) | (simp; omega))
      refine Aw_one 7 (by kernel_rfl) (Ax_mk rfl rfl (OpW_callG (v0 := (.int .i64 (((((c.next 11).2).next (m.words.l.length + 2)).1 : Nat) : Int))) rfl Try.call40 rfl rfl (Fc.at (.there (.there (.there .here))) (fun G1 => c_next b A cp ((c.next 11).2) (m.words.l.length + 2) hn48 _ G1 hcd)) ⟨(Inc.cons (.tail _ (.head _)) (Inc.cons (.tail _ (.tail _ (.head _))) Inc.nil)), ?_⟩))
      have hlt49 := Cd.next_lt ((c.next 11).2) (m.words.l.length + 2) hn48
      refine Aw_q 8 rfl (by kernel_rfl) (by kernel_rfl) (by kernel_rfl) rfl rfl rfl (Qt_arith (e := ((((((c.next 11).2).next (m.words.l.length + 2)).1 : Nat) : Int) - 1)) rfl rfl rfl (wrap_eq (by omega) (by omega))) ?_
      have hn50 : 0 < 4 := (by first | omega | (simp only [List.length_append, List.length_cons, List.length_nil, List.length_replicate, List.length_set]; omega) | (simp; omega))
      refine Aw_one 10 (by kernel_rfl) (Ax_mk rfl rfl (OpW_callG (v0 := (.int .i64 (((((((c.next 11).2).next (m.words.l.length + 2)).2).next 4).1 : Nat) : Int))) rfl Try.call40 rfl rfl (Fc.at (.there (.there (.there .here))) (fun G1 => c_next b A cp ((((c.next 11).2).next (m.words.l.length + 2)).2) 4 hn50 _ G1 hcd)) ⟨(Inc.cons (.tail _ (.head _)) (Inc.cons (.tail _ (.tail _ (.head _))) Inc.nil)), ?_⟩))
      have hlt51 := Cd.next_lt ((((c.next 11).2).next (m.words.l.length + 2)).2) 4 hn50
      refine Aw_q 11 rfl (by kernel_rfl) (by kernel_rfl) (by kernel_rfl) rfl rfl rfl (Qt_conv (c := (((((((c.next 11).2).next (m.words.l.length + 2)).2).next 4).1 : Nat) : Int)) rfl rfl rfl (IntWalk.u64_in _ (by omega))) ?_
      have hn52 : 0 < 4 := (by first | omega | (simp only [List.length_append, List.length_cons, List.length_nil, List.length_replicate, List.length_set]; omega) | (simp; omega))
      refine Aw_one 13 (by kernel_rfl) (Ax_mk rfl rfl (OpW_callG (v0 := (.int .i64 (((((((((c.next 11).2).next (m.words.l.length + 2)).2).next 4).2).next 4).1 : Nat) : Int))) rfl Try.call40 rfl rfl (Fc.at (.there (.there (.there .here))) (fun G1 => c_next b A cp ((((((c.next 11).2).next (m.words.l.length + 2)).2).next 4).2) 4 hn52 _ G1 hcd)) ⟨(Inc.cons (.tail _ (.head _)) (Inc.cons (.tail _ (.tail _ (.head _))) Inc.nil)), ?_⟩))
      have hlt53 := Cd.next_lt ((((((c.next 11).2).next (m.words.l.length + 2)).2).next 4).2) 4 hn52
      refine Aw_q 14 rfl (by kernel_rfl) (by kernel_rfl) (by kernel_rfl) rfl rfl rfl (Qt_conv (c := (((((((((c.next 11).2).next (m.words.l.length + 2)).2).next 4).2).next 4).1 : Nat) : Int)) rfl rfl rfl (IntWalk.u64_in _ (by omega))) ?_
      refine Aw_q 15 rfl (by kernel_rfl) (by kernel_rfl) (by kernel_rfl) rfl rfl rfl (Qt_build (cs := Access.cells (Access.mk (((c.next 11).1 : Nat) : Int) ((((((c.next 11).2).next (m.words.l.length + 2)).1 : Nat) : Int) - 1) (((((((c.next 11).2).next (m.words.l.length + 2)).2).next 4).1 : Nat) : Int) (((((((((c.next 11).2).next (m.words.l.length + 2)).2).next 4).2).next 4).1 : Nat) : Int) 0)) rfl rfl rfl rfl rfl rfl) ?_
      refine Aw_one 17 (by kernel_rfl) (Ax_mk rfl rfl (OpW_store (vs := [(.int .i64 (((c.next 11).1 : Nat) : Int)), (.int .i64 ((((((c.next 11).2).next (m.words.l.length + 2)).1 : Nat) : Int) - 1)), (.int .u64 (((((((c.next 11).2).next (m.words.l.length + 2)).2).next 4).1 : Nat) : Int)), (.int .u64 (((((((((c.next 11).2).next (m.words.l.length + 2)).2).next 4).2).next 4).1 : Nat) : Int)), (.int .i64 0)]) (all' := [(.int .i64 (((c.next 11).1 : Nat) : Int)), (.int .i64 ((((((c.next 11).2).next (m.words.l.length + 2)).1 : Nat) : Int) - 1)), (.int .u64 (((((((c.next 11).2).next (m.words.l.length + 2)).2).next 4).1 : Nat) : Int)), (.int .u64 (((((((((c.next 11).2).next (m.words.l.length + 2)).2).next 4).2).next 4).1 : Nat) : Int)), (.int .i64 0)]) rfl rfl rfl rfl rfl .here rfl rfl rfl ⟨(Inc.cons (.tail _ (.head _)) (Inc.cons (.tail _ (.tail _ (.head _))) Inc.nil)), ?_⟩))
      refine Aw_done (by kernel_rfl) ?_
      refine Cw_seq ?_
      refine Cw_seq ?_
      refine Cw_region ?_
      refine Ow_q rfl rfl rfl (Qt_fieldAddr (m := 0) rfl rfl rfl rfl rfl) ?_
      refine Ow_q rfl rfl rfl (Qt_load1 (v := (.int .i64 (((c.next 11).1 : Nat) : Int))) rfl rfl rfl (Rdc.blk (.head _) rfl)) ?_
      refine Ow_q rfl rfl rfl (Qt_cmp rfl rfl rfl) ?_
      refine Ow_nil ?_
      refine Cw_cond rfl ?_ ?_
      · intro h54
        have h54 := dcd_t (h54)
        refine Cw_region ?_
        refine Ow_q rfl rfl rfl (Qt_move rfl) ?_
        refine Ow_q rfl rfl rfl (Qt_fieldAddr (m := 1) rfl rfl rfl rfl rfl) ?_
        refine Ow_q rfl rfl rfl (Qt_load1 (v := (.slice m.lists.A m.lists.l.length m.lists.cp)) rfl rfl rfl (Rdc.blk (.tail _ (.tail _ (.head _))) rfl)) ?_
        refine Ow_q rfl rfl rfl (Qt_len rfl rfl) ?_
        refine Ow_q rfl rfl rfl (Qt_arith (e := (((m.lists.l.length : Nat) : Int) + 2)) rfl rfl rfl (wrap_eq (by omega) (by omega))) ?_
        have hn55 : 0 < (m.lists.l.length + 2) := (by first | omega | (simp only [List.length_append, List.length_cons, List.length_nil, List.length_replicate, List.length_set]; omega) | (simp; omega))
        refine Ow_cons rfl (OpW_callG (v0 := (.int .i64 (((((((((((c.next 11).2).next (m.words.l.length + 2)).2).next 4).2).next 4).2).next (m.lists.l.length + 2)).1 : Nat) : Int))) rfl Try.call40 rfl rfl (Fc.at (.there (.there (.there .here))) (fun G1 => c_next b A cp ((((((((c.next 11).2).next (m.words.l.length + 2)).2).next 4).2).next 4).2) (m.lists.l.length + 2) hn55 _ G1 hcd)) ?_)
        have hlt56 := Cd.next_lt ((((((((c.next 11).2).next (m.words.l.length + 2)).2).next 4).2).next 4).2) (m.lists.l.length + 2) hn55
        refine Ow_q rfl rfl rfl (Qt_arith (e := ((((((((((((c.next 11).2).next (m.words.l.length + 2)).2).next 4).2).next 4).2).next (m.lists.l.length + 2)).1 : Nat) : Int) - 1)) rfl rfl rfl (wrap_eq (by omega) (by omega))) ?_
        refine Ow_q rfl rfl rfl (Qt_fieldAddr (m := 1) rfl rfl rfl rfl rfl) ?_
        refine Ow_cons rfl (OpW_store (vs := [(.int .i64 ((((((((((((c.next 11).2).next (m.words.l.length + 2)).2).next 4).2).next 4).2).next (m.lists.l.length + 2)).1 : Nat) : Int) - 1))]) (all' := [(.int .i64 (((c.next 11).1 : Nat) : Int)), (.int .i64 ((((((((((((c.next 11).2).next (m.words.l.length + 2)).2).next 4).2).next 4).2).next (m.lists.l.length + 2)).1 : Nat) : Int) - 1)), (.int .u64 (((((((c.next 11).2).next (m.words.l.length + 2)).2).next 4).1 : Nat) : Int)), (.int .u64 (((((((((c.next 11).2).next (m.words.l.length + 2)).2).next 4).2).next 4).1 : Nat) : Int)), (.int .i64 0)]) rfl rfl rfl rfl rfl .here rfl rfl rfl ?_)
        refine Ow_nil ?_
        refine Cw_seq ?_
        refine Cw_seq ?_
        refine Cw_region ?_
        refine Ow_q rfl rfl rfl (Qt_fieldAddr (m := 0) rfl rfl rfl rfl rfl) ?_
        refine Ow_q rfl rfl rfl (Qt_load1 (v := (.int .i64 (((c.next 11).1 : Nat) : Int))) rfl rfl rfl (Rdc.blk (.head _) rfl)) ?_
        refine Ow_q rfl rfl rfl (Qt_cmp rfl rfl rfl) ?_
        refine Ow_nil ?_
        refine Cw_cond rfl ?_ ?_
        · intro h57
          have h57 := dcd_t (h57)
          refine Cw_region ?_
          refine Ow_q rfl rfl rfl (Qt_move rfl) ?_
          have hn58 : 0 < 6 := (by first | omega | (simp only [List.length_append, List.length_cons, List.length_nil, List.length_replicate, List.length_set]; omega) | (simp; omega))
          refine Ow_cons rfl (OpW_callG (v0 := (.int .i64 (((((((((((((c.next 11).2).next (m.words.l.length + 2)).2).next 4).2).next 4).2).next (m.lists.l.length + 2)).2).next 6).1 : Nat) : Int))) rfl Try.call40 rfl rfl (Fc.at (.there (.there (.there .here))) (fun G1 => c_next b A cp ((((((((((c.next 11).2).next (m.words.l.length + 2)).2).next 4).2).next 4).2).next (m.lists.l.length + 2)).2) 6 hn58 _ G1 hcd)) ?_)
          have hlt59 := Cd.next_lt ((((((((((c.next 11).2).next (m.words.l.length + 2)).2).next 4).2).next 4).2).next (m.lists.l.length + 2)).2) 6 hn58
          refine Ow_q rfl rfl rfl (Qt_fieldAddr (m := 4) rfl rfl rfl rfl rfl) ?_
          refine Ow_cons rfl (OpW_store (vs := [(.int .i64 (((((((((((((c.next 11).2).next (m.words.l.length + 2)).2).next 4).2).next 4).2).next (m.lists.l.length + 2)).2).next 6).1 : Nat) : Int))]) (all' := [(.int .i64 (((c.next 11).1 : Nat) : Int)), (.int .i64 ((((((((((((c.next 11).2).next (m.words.l.length + 2)).2).next 4).2).next 4).2).next (m.lists.l.length + 2)).1 : Nat) : Int) - 1)), (.int .u64 (((((((c.next 11).2).next (m.words.l.length + 2)).2).next 4).1 : Nat) : Int)), (.int .u64 (((((((((c.next 11).2).next (m.words.l.length + 2)).2).next 4).2).next 4).1 : Nat) : Int)), (.int .i64 (((((((((((((c.next 11).2).next (m.words.l.length + 2)).2).next 4).2).next 4).2).next (m.lists.l.length + 2)).2).next 6).1 : Nat) : Int))]) rfl rfl rfl rfl rfl .here rfl rfl rfl ?_)
          refine Ow_nil ?_
          refine Cw_seq ?_
          refine Cw_region ?_
          refine Ow_q rfl rfl rfl (Qt_loadA (m := 5) (cs := Access.cells (Access.mk (((c.next 11).1 : Nat) : Int) ((((((((((((c.next 11).2).next (m.words.l.length + 2)).2).next 4).2).next 4).2).next (m.lists.l.length + 2)).1 : Nat) : Int) - 1) (((((((c.next 11).2).next (m.words.l.length + 2)).2).next 4).1 : Nat) : Int) (((((((((c.next 11).2).next (m.words.l.length + 2)).2).next 4).2).next 4).1 : Nat) : Int) (((((((((((((c.next 11).2).next (m.words.l.length + 2)).2).next 4).2).next 4).2).next (m.lists.l.length + 2)).2).next 6).1 : Nat) : Int))) rfl rfl rfl rfl ⟨rfl, Rdc.blk (.head _) rfl⟩) ?_
          refine Ow_cons rfl (OpW_store (vs := [(.int .i64 (((c.next 11).1 : Nat) : Int)), (.int .i64 ((((((((((((c.next 11).2).next (m.words.l.length + 2)).2).next 4).2).next 4).2).next (m.lists.l.length + 2)).1 : Nat) : Int) - 1)), (.int .u64 (((((((c.next 11).2).next (m.words.l.length + 2)).2).next 4).1 : Nat) : Int)), (.int .u64 (((((((((c.next 11).2).next (m.words.l.length + 2)).2).next 4).2).next 4).1 : Nat) : Int)), (.int .i64 (((((((((((((c.next 11).2).next (m.words.l.length + 2)).2).next 4).2).next 4).2).next (m.lists.l.length + 2)).2).next 6).1 : Nat) : Int))]) (all' := [(.int .i64 (((c.next 11).1 : Nat) : Int)), (.int .i64 ((((((((((((c.next 11).2).next (m.words.l.length + 2)).2).next 4).2).next 4).2).next (m.lists.l.length + 2)).1 : Nat) : Int) - 1)), (.int .u64 (((((((c.next 11).2).next (m.words.l.length + 2)).2).next 4).1 : Nat) : Int)), (.int .u64 (((((((((c.next 11).2).next (m.words.l.length + 2)).2).next 4).2).next 4).1 : Nat) : Int)), (.int .i64 (((((((((((((c.next 11).2).next (m.words.l.length + 2)).2).next 4).2).next 4).2).next (m.lists.l.length + 2)).2).next 6).1 : Nat) : Int))]) rfl rfl rfl rfl rfl (.there .here) rfl rfl rfl ?_)
          refine Ow_nil ?_
          refine Cw_ret ?_
          refine ⟨(by first | exact .inl rfl | exact .inr rfl), [(Access.val (Access.mk (((c.next 11).1 : Nat) : Int) ((((((((((((c.next 11).2).next (m.words.l.length + 2)).2).next 4).2).next 4).2).next (m.lists.l.length + 2)).1 : Nat) : Int) - 1) (((((((c.next 11).2).next (m.words.l.length + 2)).2).next 4).1 : Nat) : Int) (((((((((c.next 11).2).next (m.words.l.length + 2)).2).next 4).2).next 4).1 : Nat) : Int) (((((((((((((c.next 11).2).next (m.words.l.length + 2)).2).next 4).2).next 4).2).next (m.lists.l.length + 2)).2).next 6).1 : Nat) : Int)))], .blk b 70 [(.slice A ((((((((((((c.next 11).2).next (m.words.l.length + 2)).2).next 4).2).next 4).2).next (m.lists.l.length + 2)).2).next 6).2.list.length) cp), (.int .i64 (((((((((((((c.next 11).2).next (m.words.l.length + 2)).2).next 4).2).next 4).2).next (m.lists.l.length + 2)).2).next 6).2.at_ : Nat) : Int)), (.int .u64 ((((((((((((c.next 11).2).next (m.words.l.length + 2)).2).next 4).2).next 4).2).next (m.lists.l.length + 2)).2).next 6).2.value))] :: G, ⟨(Access.val (Access.mk (((c.next 11).1 : Nat) : Int) ((((((((((((c.next 11).2).next (m.words.l.length + 2)).2).next 4).2).next 4).2).next (m.lists.l.length + 2)).1 : Nat) : Int) - 1) (((((((c.next 11).2).next (m.words.l.length + 2)).2).next 4).1 : Nat) : Int) (((((((((c.next 11).2).next (m.words.l.length + 2)).2).next 4).2).next 4).1 : Nat) : Int) (((((((((((((c.next 11).2).next (m.words.l.length + 2)).2).next 4).2).next 4).2).next (m.lists.l.length + 2)).2).next 6).1 : Nat) : Int))), _, rfl, ⟨_, 5, Access.cells (Access.mk (((c.next 11).1 : Nat) : Int) ((((((((((((c.next 11).2).next (m.words.l.length + 2)).2).next 4).2).next 4).2).next (m.lists.l.length + 2)).1 : Nat) : Int) - 1) (((((((c.next 11).2).next (m.words.l.length + 2)).2).next 4).1 : Nat) : Int) (((((((((c.next 11).2).next (m.words.l.length + 2)).2).next 4).2).next 4).1 : Nat) : Int) (((((((((((((c.next 11).2).next (m.words.l.length + 2)).2).next 4).2).next 4).2).next (m.lists.l.length + 2)).2).next 6).1 : Nat) : Int)), rfl, rfl, rfl, rfl, ⟨rfl, Rdc.blk (.tail _ (.head _)) rfl⟩, rfl⟩, rfl⟩, .cons _ (.cons _ (.cons _ (.cons_cons _ (.refl _)))), ?_⟩
          exact ⟨[], _, rfl, (Access.mk (((c.next 11).1 : Nat) : Int) ((((((((((((c.next 11).2).next (m.words.l.length + 2)).2).next 4).2).next 4).2).next (m.lists.l.length + 2)).1 : Nat) : Int) - 1) (((((((c.next 11).2).next (m.words.l.length + 2)).2).next 4).1 : Nat) : Int) (((((((((c.next 11).2).next (m.words.l.length + 2)).2).next 4).2).next 4).1 : Nat) : Int) (((((((((((((c.next 11).2).next (m.words.l.length + 2)).2).next 4).2).next 4).2).next (m.lists.l.length + 2)).2).next 6).1 : Nat) : Int)), _, rfl, rfl, rfl, rfl⟩
        · intro h57
          have h57 := dcd_f (h57)
          refine Cw_skip ?_
          refine Cw_seq ?_
          refine Cw_region ?_
          refine Ow_q rfl rfl rfl (Qt_loadA (m := 5) (cs := Access.cells (Access.mk (((c.next 11).1 : Nat) : Int) ((((((((((((c.next 11).2).next (m.words.l.length + 2)).2).next 4).2).next 4).2).next (m.lists.l.length + 2)).1 : Nat) : Int) - 1) (((((((c.next 11).2).next (m.words.l.length + 2)).2).next 4).1 : Nat) : Int) (((((((((c.next 11).2).next (m.words.l.length + 2)).2).next 4).2).next 4).1 : Nat) : Int) 0)) rfl rfl rfl rfl ⟨rfl, Rdc.blk (.head _) rfl⟩) ?_
          refine Ow_cons rfl (OpW_store (vs := [(.int .i64 (((c.next 11).1 : Nat) : Int)), (.int .i64 ((((((((((((c.next 11).2).next (m.words.l.length + 2)).2).next 4).2).next 4).2).next (m.lists.l.length + 2)).1 : Nat) : Int) - 1)), (.int .u64 (((((((c.next 11).2).next (m.words.l.length + 2)).2).next 4).1 : Nat) : Int)), (.int .u64 (((((((((c.next 11).2).next (m.words.l.length + 2)).2).next 4).2).next 4).1 : Nat) : Int)), (.int .i64 0)]) (all' := [(.int .i64 (((c.next 11).1 : Nat) : Int)), (.int .i64 ((((((((((((c.next 11).2).next (m.words.l.length + 2)).2).next 4).2).next 4).2).next (m.lists.l.length + 2)).1 : Nat) : Int) - 1)), (.int .u64 (((((((c.next 11).2).next (m.words.l.length + 2)).2).next 4).1 : Nat) : Int)), (.int .u64 (((((((((c.next 11).2).next (m.words.l.length + 2)).2).next 4).2).next 4).1 : Nat) : Int)), (.int .i64 0)]) rfl rfl rfl rfl rfl (.there .here) rfl rfl rfl ?_)
          refine Ow_nil ?_
          refine Cw_ret ?_
          refine ⟨(by first | exact .inl rfl | exact .inr rfl), [(Access.val (Access.mk (((c.next 11).1 : Nat) : Int) ((((((((((((c.next 11).2).next (m.words.l.length + 2)).2).next 4).2).next 4).2).next (m.lists.l.length + 2)).1 : Nat) : Int) - 1) (((((((c.next 11).2).next (m.words.l.length + 2)).2).next 4).1 : Nat) : Int) (((((((((c.next 11).2).next (m.words.l.length + 2)).2).next 4).2).next 4).1 : Nat) : Int) 0))], .blk b 70 [(.slice A ((((((((((c.next 11).2).next (m.words.l.length + 2)).2).next 4).2).next 4).2).next (m.lists.l.length + 2)).2.list.length) cp), (.int .i64 (((((((((((c.next 11).2).next (m.words.l.length + 2)).2).next 4).2).next 4).2).next (m.lists.l.length + 2)).2.at_ : Nat) : Int)), (.int .u64 ((((((((((c.next 11).2).next (m.words.l.length + 2)).2).next 4).2).next 4).2).next (m.lists.l.length + 2)).2.value))] :: G, ⟨(Access.val (Access.mk (((c.next 11).1 : Nat) : Int) ((((((((((((c.next 11).2).next (m.words.l.length + 2)).2).next 4).2).next 4).2).next (m.lists.l.length + 2)).1 : Nat) : Int) - 1) (((((((c.next 11).2).next (m.words.l.length + 2)).2).next 4).1 : Nat) : Int) (((((((((c.next 11).2).next (m.words.l.length + 2)).2).next 4).2).next 4).1 : Nat) : Int) 0)), _, rfl, ⟨_, 5, Access.cells (Access.mk (((c.next 11).1 : Nat) : Int) ((((((((((((c.next 11).2).next (m.words.l.length + 2)).2).next 4).2).next 4).2).next (m.lists.l.length + 2)).1 : Nat) : Int) - 1) (((((((c.next 11).2).next (m.words.l.length + 2)).2).next 4).1 : Nat) : Int) (((((((((c.next 11).2).next (m.words.l.length + 2)).2).next 4).2).next 4).1 : Nat) : Int) 0), rfl, rfl, rfl, rfl, ⟨rfl, Rdc.blk (.tail _ (.head _)) rfl⟩, rfl⟩, rfl⟩, .cons _ (.cons _ (.cons _ (.cons_cons _ (.refl _)))), ?_⟩
          exact ⟨[], _, rfl, (Access.mk (((c.next 11).1 : Nat) : Int) ((((((((((((c.next 11).2).next (m.words.l.length + 2)).2).next 4).2).next 4).2).next (m.lists.l.length + 2)).1 : Nat) : Int) - 1) (((((((c.next 11).2).next (m.words.l.length + 2)).2).next 4).1 : Nat) : Int) (((((((((c.next 11).2).next (m.words.l.length + 2)).2).next 4).2).next 4).1 : Nat) : Int) 0), _, rfl, rfl, rfl, rfl⟩
      · intro h54
        have h54 := dcd_f (h54)
        refine Cw_skip ?_
        refine Cw_seq ?_
        refine Cw_seq ?_
        refine Cw_region ?_
        refine Ow_q rfl rfl rfl (Qt_fieldAddr (m := 0) rfl rfl rfl rfl rfl) ?_
        refine Ow_q rfl rfl rfl (Qt_load1 (v := (.int .i64 (((c.next 11).1 : Nat) : Int))) rfl rfl rfl (Rdc.blk (.head _) rfl)) ?_
        refine Ow_q rfl rfl rfl (Qt_cmp rfl rfl rfl) ?_
        refine Ow_nil ?_
        refine Cw_cond rfl ?_ ?_
        · intro h60
          have h60 := dcd_t (h60)
          refine Cw_region ?_
          refine Ow_q rfl rfl rfl (Qt_move rfl) ?_
          have hn61 : 0 < 6 := (by first | omega | (simp only [List.length_append, List.length_cons, List.length_nil, List.length_replicate, List.length_set]; omega) | (simp; omega))
          refine Ow_cons rfl (OpW_callG (v0 := (.int .i64 (((((((((((c.next 11).2).next (m.words.l.length + 2)).2).next 4).2).next 4).2).next 6).1 : Nat) : Int))) rfl Try.call40 rfl rfl (Fc.at (.there (.there (.there .here))) (fun G1 => c_next b A cp ((((((((c.next 11).2).next (m.words.l.length + 2)).2).next 4).2).next 4).2) 6 hn61 _ G1 hcd)) ?_)
          have hlt62 := Cd.next_lt ((((((((c.next 11).2).next (m.words.l.length + 2)).2).next 4).2).next 4).2) 6 hn61
          refine Ow_q rfl rfl rfl (Qt_fieldAddr (m := 4) rfl rfl rfl rfl rfl) ?_
          refine Ow_cons rfl (OpW_store (vs := [(.int .i64 (((((((((((c.next 11).2).next (m.words.l.length + 2)).2).next 4).2).next 4).2).next 6).1 : Nat) : Int))]) (all' := [(.int .i64 (((c.next 11).1 : Nat) : Int)), (.int .i64 ((((((c.next 11).2).next (m.words.l.length + 2)).1 : Nat) : Int) - 1)), (.int .u64 (((((((c.next 11).2).next (m.words.l.length + 2)).2).next 4).1 : Nat) : Int)), (.int .u64 (((((((((c.next 11).2).next (m.words.l.length + 2)).2).next 4).2).next 4).1 : Nat) : Int)), (.int .i64 (((((((((((c.next 11).2).next (m.words.l.length + 2)).2).next 4).2).next 4).2).next 6).1 : Nat) : Int))]) rfl rfl rfl rfl rfl .here rfl rfl rfl ?_)
          refine Ow_nil ?_
          refine Cw_seq ?_
          refine Cw_region ?_
          refine Ow_q rfl rfl rfl (Qt_loadA (m := 5) (cs := Access.cells (Access.mk (((c.next 11).1 : Nat) : Int) ((((((c.next 11).2).next (m.words.l.length + 2)).1 : Nat) : Int) - 1) (((((((c.next 11).2).next (m.words.l.length + 2)).2).next 4).1 : Nat) : Int) (((((((((c.next 11).2).next (m.words.l.length + 2)).2).next 4).2).next 4).1 : Nat) : Int) (((((((((((c.next 11).2).next (m.words.l.length + 2)).2).next 4).2).next 4).2).next 6).1 : Nat) : Int))) rfl rfl rfl rfl ⟨rfl, Rdc.blk (.head _) rfl⟩) ?_
          refine Ow_cons rfl (OpW_store (vs := [(.int .i64 (((c.next 11).1 : Nat) : Int)), (.int .i64 ((((((c.next 11).2).next (m.words.l.length + 2)).1 : Nat) : Int) - 1)), (.int .u64 (((((((c.next 11).2).next (m.words.l.length + 2)).2).next 4).1 : Nat) : Int)), (.int .u64 (((((((((c.next 11).2).next (m.words.l.length + 2)).2).next 4).2).next 4).1 : Nat) : Int)), (.int .i64 (((((((((((c.next 11).2).next (m.words.l.length + 2)).2).next 4).2).next 4).2).next 6).1 : Nat) : Int))]) (all' := [(.int .i64 (((c.next 11).1 : Nat) : Int)), (.int .i64 ((((((c.next 11).2).next (m.words.l.length + 2)).1 : Nat) : Int) - 1)), (.int .u64 (((((((c.next 11).2).next (m.words.l.length + 2)).2).next 4).1 : Nat) : Int)), (.int .u64 (((((((((c.next 11).2).next (m.words.l.length + 2)).2).next 4).2).next 4).1 : Nat) : Int)), (.int .i64 (((((((((((c.next 11).2).next (m.words.l.length + 2)).2).next 4).2).next 4).2).next 6).1 : Nat) : Int))]) rfl rfl rfl rfl rfl (.there .here) rfl rfl rfl ?_)
          refine Ow_nil ?_
          refine Cw_ret ?_
          refine ⟨(by first | exact .inl rfl | exact .inr rfl), [(Access.val (Access.mk (((c.next 11).1 : Nat) : Int) ((((((c.next 11).2).next (m.words.l.length + 2)).1 : Nat) : Int) - 1) (((((((c.next 11).2).next (m.words.l.length + 2)).2).next 4).1 : Nat) : Int) (((((((((c.next 11).2).next (m.words.l.length + 2)).2).next 4).2).next 4).1 : Nat) : Int) (((((((((((c.next 11).2).next (m.words.l.length + 2)).2).next 4).2).next 4).2).next 6).1 : Nat) : Int)))], .blk b 70 [(.slice A ((((((((((c.next 11).2).next (m.words.l.length + 2)).2).next 4).2).next 4).2).next 6).2.list.length) cp), (.int .i64 (((((((((((c.next 11).2).next (m.words.l.length + 2)).2).next 4).2).next 4).2).next 6).2.at_ : Nat) : Int)), (.int .u64 ((((((((((c.next 11).2).next (m.words.l.length + 2)).2).next 4).2).next 4).2).next 6).2.value))] :: G, ⟨(Access.val (Access.mk (((c.next 11).1 : Nat) : Int) ((((((c.next 11).2).next (m.words.l.length + 2)).1 : Nat) : Int) - 1) (((((((c.next 11).2).next (m.words.l.length + 2)).2).next 4).1 : Nat) : Int) (((((((((c.next 11).2).next (m.words.l.length + 2)).2).next 4).2).next 4).1 : Nat) : Int) (((((((((((c.next 11).2).next (m.words.l.length + 2)).2).next 4).2).next 4).2).next 6).1 : Nat) : Int))), _, rfl, ⟨_, 5, Access.cells (Access.mk (((c.next 11).1 : Nat) : Int) ((((((c.next 11).2).next (m.words.l.length + 2)).1 : Nat) : Int) - 1) (((((((c.next 11).2).next (m.words.l.length + 2)).2).next 4).1 : Nat) : Int) (((((((((c.next 11).2).next (m.words.l.length + 2)).2).next 4).2).next 4).1 : Nat) : Int) (((((((((((c.next 11).2).next (m.words.l.length + 2)).2).next 4).2).next 4).2).next 6).1 : Nat) : Int)), rfl, rfl, rfl, rfl, ⟨rfl, Rdc.blk (.tail _ (.head _)) rfl⟩, rfl⟩, rfl⟩, .cons _ (.cons _ (.cons _ (.cons_cons _ (.refl _)))), ?_⟩
          exact ⟨[], _, rfl, (Access.mk (((c.next 11).1 : Nat) : Int) ((((((c.next 11).2).next (m.words.l.length + 2)).1 : Nat) : Int) - 1) (((((((c.next 11).2).next (m.words.l.length + 2)).2).next 4).1 : Nat) : Int) (((((((((c.next 11).2).next (m.words.l.length + 2)).2).next 4).2).next 4).1 : Nat) : Int) (((((((((((c.next 11).2).next (m.words.l.length + 2)).2).next 4).2).next 4).2).next 6).1 : Nat) : Int)), _, rfl, rfl, rfl, rfl⟩
        · intro h60
          have h60 := dcd_f (h60)
          refine Cw_skip ?_
          refine Cw_seq ?_
          refine Cw_region ?_
          refine Ow_q rfl rfl rfl (Qt_loadA (m := 5) (cs := Access.cells (Access.mk (((c.next 11).1 : Nat) : Int) ((((((c.next 11).2).next (m.words.l.length + 2)).1 : Nat) : Int) - 1) (((((((c.next 11).2).next (m.words.l.length + 2)).2).next 4).1 : Nat) : Int) (((((((((c.next 11).2).next (m.words.l.length + 2)).2).next 4).2).next 4).1 : Nat) : Int) 0)) rfl rfl rfl rfl ⟨rfl, Rdc.blk (.head _) rfl⟩) ?_
          refine Ow_cons rfl (OpW_store (vs := [(.int .i64 (((c.next 11).1 : Nat) : Int)), (.int .i64 ((((((c.next 11).2).next (m.words.l.length + 2)).1 : Nat) : Int) - 1)), (.int .u64 (((((((c.next 11).2).next (m.words.l.length + 2)).2).next 4).1 : Nat) : Int)), (.int .u64 (((((((((c.next 11).2).next (m.words.l.length + 2)).2).next 4).2).next 4).1 : Nat) : Int)), (.int .i64 0)]) (all' := [(.int .i64 (((c.next 11).1 : Nat) : Int)), (.int .i64 ((((((c.next 11).2).next (m.words.l.length + 2)).1 : Nat) : Int) - 1)), (.int .u64 (((((((c.next 11).2).next (m.words.l.length + 2)).2).next 4).1 : Nat) : Int)), (.int .u64 (((((((((c.next 11).2).next (m.words.l.length + 2)).2).next 4).2).next 4).1 : Nat) : Int)), (.int .i64 0)]) rfl rfl rfl rfl rfl (.there .here) rfl rfl rfl ?_)
          refine Ow_nil ?_
          refine Cw_ret ?_
          refine ⟨(by first | exact .inl rfl | exact .inr rfl), [(Access.val (Access.mk (((c.next 11).1 : Nat) : Int) ((((((c.next 11).2).next (m.words.l.length + 2)).1 : Nat) : Int) - 1) (((((((c.next 11).2).next (m.words.l.length + 2)).2).next 4).1 : Nat) : Int) (((((((((c.next 11).2).next (m.words.l.length + 2)).2).next 4).2).next 4).1 : Nat) : Int) 0))], .blk b 70 [(.slice A ((((((((c.next 11).2).next (m.words.l.length + 2)).2).next 4).2).next 4).2.list.length) cp), (.int .i64 (((((((((c.next 11).2).next (m.words.l.length + 2)).2).next 4).2).next 4).2.at_ : Nat) : Int)), (.int .u64 ((((((((c.next 11).2).next (m.words.l.length + 2)).2).next 4).2).next 4).2.value))] :: G, ⟨(Access.val (Access.mk (((c.next 11).1 : Nat) : Int) ((((((c.next 11).2).next (m.words.l.length + 2)).1 : Nat) : Int) - 1) (((((((c.next 11).2).next (m.words.l.length + 2)).2).next 4).1 : Nat) : Int) (((((((((c.next 11).2).next (m.words.l.length + 2)).2).next 4).2).next 4).1 : Nat) : Int) 0)), _, rfl, ⟨_, 5, Access.cells (Access.mk (((c.next 11).1 : Nat) : Int) ((((((c.next 11).2).next (m.words.l.length + 2)).1 : Nat) : Int) - 1) (((((((c.next 11).2).next (m.words.l.length + 2)).2).next 4).1 : Nat) : Int) (((((((((c.next 11).2).next (m.words.l.length + 2)).2).next 4).2).next 4).1 : Nat) : Int) 0), rfl, rfl, rfl, rfl, ⟨rfl, Rdc.blk (.tail _ (.head _)) rfl⟩, rfl⟩, rfl⟩, .cons _ (.cons _ (.cons _ (.cons_cons _ (.refl _)))), ?_⟩
          exact ⟨[], _, rfl, (Access.mk (((c.next 11).1 : Nat) : Int) ((((((c.next 11).2).next (m.words.l.length + 2)).1 : Nat) : Int) - 1) (((((((c.next 11).2).next (m.words.l.length + 2)).2).next 4).1 : Nat) : Int) (((((((((c.next 11).2).next (m.words.l.length + 2)).2).next 4).2).next 4).1 : Nat) : Int) 0), _, rfl, rfl, rfl, rfl⟩
  · skip
    refine id (Ax_mk rfl rfl (OpW_alloc (cs := [(.int .i64 0), (.int .i64 0), (.int .u64 0), (.int .u64 0), (.int .i64 0)]) rfl rfl rfl rfl (fun b63 => ⟨(Inc.cons (.tail _ (.head _)) (Inc.cons (.tail _ (.tail _ (.head _))) Inc.nil)), ?_⟩)))
    have hn64 : 0 < 11 := (by first | omega | (simp only [List.length_append, List.length_cons, List.length_nil, List.length_replicate, List.length_set]; omega) | (simp; omega))
    refine Aw_one 1 (by kernel_rfl) (Ax_mk rfl rfl (OpW_callG (v0 := (.int .i64 (((c.next 11).1 : Nat) : Int))) rfl Try.call40 rfl rfl (Fc.at (.there (.there (.there .here))) (fun G1 => c_next b A cp c 11 hn64 _ G1 hcd)) ⟨(Inc.cons (.tail _ (.head _)) (Inc.cons (.tail _ (.tail _ (.head _))) Inc.nil)), ?_⟩))
    have hlt65 := Cd.next_lt c 11 hn64
    have hn66 : 0 < (m.words.l.length + 2) := (by first | omega | (simp only [List.length_append, List.length_cons, List.length_nil, List.length_replicate, List.length_set]; omega) | (simp; omega))
    refine Aw_one 7 (by kernel_rfl) (Ax_mk rfl rfl (OpW_callG (v0 := (.int .i64 (((((c.next 11).2).next (m.words.l.length + 2)).1 : Nat) : Int))) rfl Try.call40 rfl rfl (Fc.at (.there (.there (.there .here))) (fun G1 => c_next b A cp ((c.next 11).2) (m.words.l.length + 2) hn66 _ G1 hcd)) ⟨(Inc.cons (.tail _ (.head _)) (Inc.cons (.tail _ (.tail _ (.head _))) Inc.nil)), ?_⟩))
    have hlt67 := Cd.next_lt ((c.next 11).2) (m.words.l.length + 2) hn66
    refine Aw_q 8 rfl (by kernel_rfl) (by kernel_rfl) (by kernel_rfl) rfl rfl rfl (Qt_arith (e := ((((((c.next 11).2).next (m.words.l.length + 2)).1 : Nat) : Int) - 1)) rfl rfl rfl (wrap_eq (by omega) (by omega))) ?_
    have hn68 : 0 < 4 := (by first | omega | (simp only [List.length_append, List.length_cons, List.length_nil, List.length_replicate, List.length_set]; omega) | (simp; omega))
    refine Aw_one 10 (by kernel_rfl) (Ax_mk rfl rfl (OpW_callG (v0 := (.int .i64 (((((((c.next 11).2).next (m.words.l.length + 2)).2).next 4).1 : Nat) : Int))) rfl Try.call40 rfl rfl (Fc.at (.there (.there (.there .here))) (fun G1 => c_next b A cp ((((c.next 11).2).next (m.words.l.length + 2)).2) 4 hn68 _ G1 hcd)) ⟨(Inc.cons (.tail _ (.head _)) (Inc.cons (.tail _ (.tail _ (.head _))) Inc.nil)), ?_⟩))
    have hlt69 := Cd.next_lt ((((c.next 11).2).next (m.words.l.length + 2)).2) 4 hn68
    refine Aw_q 11 rfl (by kernel_rfl) (by kernel_rfl) (by kernel_rfl) rfl rfl rfl (Qt_conv (c := (((((((c.next 11).2).next (m.words.l.length + 2)).2).next 4).1 : Nat) : Int)) rfl rfl rfl (IntWalk.u64_in _ (by omega))) ?_
    have hn70 : 0 < 4 := (by first | omega | (simp only [List.length_append, List.length_cons, List.length_nil, List.length_replicate, List.length_set]; omega) | (simp; omega))
    refine Aw_one 13 (by kernel_rfl) (Ax_mk rfl rfl (OpW_callG (v0 := (.int .i64 (((((((((c.next 11).2).next (m.words.l.length + 2)).2).next 4).2).next 4).1 : Nat) : Int))) rfl Try.call40 rfl rfl (Fc.at (.there (.there (.there .here))) (fun G1 => c_next b A cp ((((((c.next 11).2).next (m.words.l.length + 2)).2).next 4).2) 4 hn70 _ G1 hcd)) ⟨(Inc.cons (.tail _ (.head _)) (Inc.cons (.tail _ (.tail _ (.head _))) Inc.nil)), ?_⟩))
    have hlt71 := Cd.next_lt ((((((c.next 11).2).next (m.words.l.length + 2)).2).next 4).2) 4 hn70
    refine Aw_q 14 rfl (by kernel_rfl) (by kernel_rfl) (by kernel_rfl) rfl rfl rfl (Qt_conv (c := (((((((((c.next 11).2).next (m.words.l.length + 2)).2).next 4).2).next 4).1 : Nat) : Int)) rfl rfl rfl (IntWalk.u64_in _ (by omega))) ?_
    refine Aw_q 15 rfl (by kernel_rfl) (by kernel_rfl) (by kernel_rfl) rfl rfl rfl (Qt_build (cs := Access.cells (Access.mk (((c.next 11).1 : Nat) : Int) ((((((c.next 11).2).next (m.words.l.length + 2)).1 : Nat) : Int) - 1) (((((((c.next 11).2).next (m.words.l.length + 2)).2).next 4).1 : Nat) : Int) (((((((((c.next 11).2).next (m.words.l.length + 2)).2).next 4).2).next 4).1 : Nat) : Int) 0)) rfl rfl rfl rfl rfl rfl) ?_
    refine Aw_one 17 (by kernel_rfl) (Ax_mk rfl rfl (OpW_store (vs := [(.int .i64 (((c.next 11).1 : Nat) : Int)), (.int .i64 ((((((c.next 11).2).next (m.words.l.length + 2)).1 : Nat) : Int) - 1)), (.int .u64 (((((((c.next 11).2).next (m.words.l.length + 2)).2).next 4).1 : Nat) : Int)), (.int .u64 (((((((((c.next 11).2).next (m.words.l.length + 2)).2).next 4).2).next 4).1 : Nat) : Int)), (.int .i64 0)]) (all' := [(.int .i64 (((c.next 11).1 : Nat) : Int)), (.int .i64 ((((((c.next 11).2).next (m.words.l.length + 2)).1 : Nat) : Int) - 1)), (.int .u64 (((((((c.next 11).2).next (m.words.l.length + 2)).2).next 4).1 : Nat) : Int)), (.int .u64 (((((((((c.next 11).2).next (m.words.l.length + 2)).2).next 4).2).next 4).1 : Nat) : Int)), (.int .i64 0)]) rfl rfl rfl rfl rfl .here rfl rfl rfl ⟨(Inc.cons (.tail _ (.head _)) (Inc.cons (.tail _ (.tail _ (.head _))) Inc.nil)), ?_⟩))
    refine Aw_done (by kernel_rfl) ?_
    refine Cw_seq ?_
    refine Cw_seq ?_
    refine Cw_region ?_
    refine Ow_q rfl rfl rfl (Qt_fieldAddr (m := 0) rfl rfl rfl rfl rfl) ?_
    refine Ow_q rfl rfl rfl (Qt_load1 (v := (.int .i64 (((c.next 11).1 : Nat) : Int))) rfl rfl rfl (Rdc.blk (.head _) rfl)) ?_
    refine Ow_q rfl rfl rfl (Qt_cmp rfl rfl rfl) ?_
    refine Ow_nil ?_
    refine Cw_cond rfl ?_ ?_
    · intro h72
      have h72 := dcd_t (h72)
      refine Cw_region ?_
      refine Ow_q rfl rfl rfl (Qt_move rfl) ?_
      refine Ow_q rfl rfl rfl (Qt_fieldAddr (m := 1) rfl rfl rfl rfl rfl) ?_
      refine Ow_q rfl rfl rfl (Qt_load1 (v := (.slice m.lists.A m.lists.l.length m.lists.cp)) rfl rfl rfl (Rdc.blk (.tail _ (.tail _ (.head _))) rfl)) ?_
      refine Ow_q rfl rfl rfl (Qt_len rfl rfl) ?_
      refine Ow_q rfl rfl rfl (Qt_arith (e := (((m.lists.l.length : Nat) : Int) + 2)) rfl rfl rfl (wrap_eq (by omega) (by omega))) ?_
      have hn73 : 0 < (m.lists.l.length + 2) := (by first | omega | (simp only [List.length_append, List.length_cons, List.length_nil, List.length_replicate, List.length_set]; omega) | (simp; omega))
      refine Ow_cons rfl (OpW_callG (v0 := (.int .i64 (((((((((((c.next 11).2).next (m.words.l.length + 2)).2).next 4).2).next 4).2).next (m.lists.l.length + 2)).1 : Nat) : Int))) rfl Try.call40 rfl rfl (Fc.at (.there (.there (.there .here))) (fun G1 => c_next b A cp ((((((((c.next 11).2).next (m.words.l.length + 2)).2).next 4).2).next 4).2) (m.lists.l.length + 2) hn73 _ G1 hcd)) ?_)
      have hlt74 := Cd.next_lt ((((((((c.next 11).2).next (m.words.l.length + 2)).2).next 4).2).next 4).2) (m.lists.l.length + 2) hn73
      refine Ow_q rfl rfl rfl (Qt_arith (e := ((((((((((((c.next 11).2).next (m.words.l.length + 2)).2).next 4).2).next 4).2).next (m.lists.l.length + 2)).1 : Nat) : Int) - 1)) rfl rfl rfl (wrap_eq (by omega) (by omega))) ?_
      refine Ow_q rfl rfl rfl (Qt_fieldAddr (m := 1) rfl rfl rfl rfl rfl) ?_
      refine Ow_cons rfl (OpW_store (vs := [(.int .i64 ((((((((((((c.next 11).2).next (m.words.l.length + 2)).2).next 4).2).next 4).2).next (m.lists.l.length + 2)).1 : Nat) : Int) - 1))]) (all' := [(.int .i64 (((c.next 11).1 : Nat) : Int)), (.int .i64 ((((((((((((c.next 11).2).next (m.words.l.length + 2)).2).next 4).2).next 4).2).next (m.lists.l.length + 2)).1 : Nat) : Int) - 1)), (.int .u64 (((((((c.next 11).2).next (m.words.l.length + 2)).2).next 4).1 : Nat) : Int)), (.int .u64 (((((((((c.next 11).2).next (m.words.l.length + 2)).2).next 4).2).next 4).1 : Nat) : Int)), (.int .i64 0)]) rfl rfl rfl rfl rfl .here rfl rfl rfl ?_)
      refine Ow_nil ?_
      refine Cw_seq ?_
      refine Cw_seq ?_
      refine Cw_region ?_
      refine Ow_q rfl rfl rfl (Qt_fieldAddr (m := 0) rfl rfl rfl rfl rfl) ?_
      refine Ow_q rfl rfl rfl (Qt_load1 (v := (.int .i64 (((c.next 11).1 : Nat) : Int))) rfl rfl rfl (Rdc.blk (.head _) rfl)) ?_
      refine Ow_q rfl rfl rfl (Qt_cmp rfl rfl rfl) ?_
      refine Ow_nil ?_
      refine Cw_cond rfl ?_ ?_
      · intro h75
        have h75 := dcd_t (h75)
        refine Cw_region ?_
        refine Ow_q rfl rfl rfl (Qt_move rfl) ?_
        have hn76 : 0 < 6 := (by first | omega | (simp only [List.length_append, List.length_cons, List.length_nil, List.length_replicate, List.length_set]; omega) | (simp; omega))
        refine Ow_cons rfl (OpW_callG (v0 := (.int .i64 (((((((((((((c.next 11).2).next (m.words.l.length + 2)).2).next 4).2).next 4).2).next (m.lists.l.length + 2)).2).next 6).1 : Nat) : Int))) rfl Try.call40 rfl rfl (Fc.at (.there (.there (.there .here))) (fun G1 => c_next b A cp ((((((((((c.next 11).2).next (m.words.l.length + 2)).2).next 4).2).next 4).2).next (m.lists.l.length + 2)).2) 6 hn76 _ G1 hcd)) ?_)
        have hlt77 := Cd.next_lt ((((((((((c.next 11).2).next (m.words.l.length + 2)).2).next 4).2).next 4).2).next (m.lists.l.length + 2)).2) 6 hn76
        refine Ow_q rfl rfl rfl (Qt_fieldAddr (m := 4) rfl rfl rfl rfl rfl) ?_
        refine Ow_cons rfl (OpW_store (vs := [(.int .i64 (((((((((((((c.next 11).2).next (m.words.l.length + 2)).2).next 4).2).next 4).2).next (m.lists.l.length + 2)).2).next 6).1 : Nat) : Int))]) (all' := [(.int .i64 (((c.next 11).1 : Nat) : Int)), (.int .i64 ((((((((((((c.next 11).2).next (m.words.l.length + 2)).2).next 4).2).next 4).2).next (m.lists.l.length + 2)).1 : Nat) : Int) - 1)), (.int .u64 (((((((c.next 11).2).next (m.words.l.length + 2)).2).next 4).1 : Nat) : Int)), (.int .u64 (((((((((c.next 11).2).next (m.words.l.length + 2)).2).next 4).2).next 4).1 : Nat) : Int)), (.int .i64 (((((((((((((c.next 11).2).next (m.words.l.length + 2)).2).next 4).2).next 4).2).next (m.lists.l.length + 2)).2).next 6).1 : Nat) : Int))]) rfl rfl rfl rfl rfl .here rfl rfl rfl ?_)
        refine Ow_nil ?_
        refine Cw_seq ?_
        refine Cw_region ?_
        refine Ow_q rfl rfl rfl (Qt_loadA (m := 5) (cs := Access.cells (Access.mk (((c.next 11).1 : Nat) : Int) ((((((((((((c.next 11).2).next (m.words.l.length + 2)).2).next 4).2).next 4).2).next (m.lists.l.length + 2)).1 : Nat) : Int) - 1) (((((((c.next 11).2).next (m.words.l.length + 2)).2).next 4).1 : Nat) : Int) (((((((((c.next 11).2).next (m.words.l.length + 2)).2).next 4).2).next 4).1 : Nat) : Int) (((((((((((((c.next 11).2).next (m.words.l.length + 2)).2).next 4).2).next 4).2).next (m.lists.l.length + 2)).2).next 6).1 : Nat) : Int))) rfl rfl rfl rfl ⟨rfl, Rdc.blk (.head _) rfl⟩) ?_
        refine Ow_cons rfl (OpW_store (vs := [(.int .i64 (((c.next 11).1 : Nat) : Int)), (.int .i64 ((((((((((((c.next 11).2).next (m.words.l.length + 2)).2).next 4).2).next 4).2).next (m.lists.l.length + 2)).1 : Nat) : Int) - 1)), (.int .u64 (((((((c.next 11).2).next (m.words.l.length + 2)).2).next 4).1 : Nat) : Int)), (.int .u64 (((((((((c.next 11).2).next (m.words.l.length + 2)).2).next 4).2).next 4).1 : Nat) : Int)), (.int .i64 (((((((((((((c.next 11).2).next (m.words.l.length + 2)).2).next 4).2).next 4).2).next (m.lists.l.length + 2)).2).next 6).1 : Nat) : Int))]) (all' := [(.int .i64 (((c.next 11).1 : Nat) : Int)), (.int .i64 ((((((((((((c.next 11).2).next (m.words.l.length + 2)).2).next 4).2).next 4).2).next (m.lists.l.length + 2)).1 : Nat) : Int) - 1)), (.int .u64 (((((((c.next 11).2).next (m.words.l.length + 2)).2).next 4).1 : Nat) : Int)), (.int .u64 (((((((((c.next 11).2).next (m.words.l.length + 2)).2).next 4).2).next 4).1 : Nat) : Int)), (.int .i64 (((((((((((((c.next 11).2).next (m.words.l.length + 2)).2).next 4).2).next 4).2).next (m.lists.l.length + 2)).2).next 6).1 : Nat) : Int))]) rfl rfl rfl rfl rfl (.there .here) rfl rfl rfl ?_)
        refine Ow_nil ?_
        refine Cw_ret ?_
        refine ⟨(by first | exact .inl rfl | exact .inr rfl), [(Access.val (Access.mk (((c.next 11).1 : Nat) : Int) ((((((((((((c.next 11).2).next (m.words.l.length + 2)).2).next 4).2).next 4).2).next (m.lists.l.length + 2)).1 : Nat) : Int) - 1) (((((((c.next 11).2).next (m.words.l.length + 2)).2).next 4).1 : Nat) : Int) (((((((((c.next 11).2).next (m.words.l.length + 2)).2).next 4).2).next 4).1 : Nat) : Int) (((((((((((((c.next 11).2).next (m.words.l.length + 2)).2).next 4).2).next 4).2).next (m.lists.l.length + 2)).2).next 6).1 : Nat) : Int)))], .blk b 70 [(.slice A ((((((((((((c.next 11).2).next (m.words.l.length + 2)).2).next 4).2).next 4).2).next (m.lists.l.length + 2)).2).next 6).2.list.length) cp), (.int .i64 (((((((((((((c.next 11).2).next (m.words.l.length + 2)).2).next 4).2).next 4).2).next (m.lists.l.length + 2)).2).next 6).2.at_ : Nat) : Int)), (.int .u64 ((((((((((((c.next 11).2).next (m.words.l.length + 2)).2).next 4).2).next 4).2).next (m.lists.l.length + 2)).2).next 6).2.value))] :: G, ⟨(Access.val (Access.mk (((c.next 11).1 : Nat) : Int) ((((((((((((c.next 11).2).next (m.words.l.length + 2)).2).next 4).2).next 4).2).next (m.lists.l.length + 2)).1 : Nat) : Int) - 1) (((((((c.next 11).2).next (m.words.l.length + 2)).2).next 4).1 : Nat) : Int) (((((((((c.next 11).2).next (m.words.l.length + 2)).2).next 4).2).next 4).1 : Nat) : Int) (((((((((((((c.next 11).2).next (m.words.l.length + 2)).2).next 4).2).next 4).2).next (m.lists.l.length + 2)).2).next 6).1 : Nat) : Int))), _, rfl, ⟨_, 5, Access.cells (Access.mk (((c.next 11).1 : Nat) : Int) ((((((((((((c.next 11).2).next (m.words.l.length + 2)).2).next 4).2).next 4).2).next (m.lists.l.length + 2)).1 : Nat) : Int) - 1) (((((((c.next 11).2).next (m.words.l.length + 2)).2).next 4).1 : Nat) : Int) (((((((((c.next 11).2).next (m.words.l.length + 2)).2).next 4).2).next 4).1 : Nat) : Int) (((((((((((((c.next 11).2).next (m.words.l.length + 2)).2).next 4).2).next 4).2).next (m.lists.l.length + 2)).2).next 6).1 : Nat) : Int)), rfl, rfl, rfl, rfl, ⟨rfl, Rdc.blk (.tail _ (.head _)) rfl⟩, rfl⟩, rfl⟩, .cons _ (.cons _ (.cons _ (.cons_cons _ (.refl _)))), ?_⟩
        exact ⟨[], _, rfl, (Access.mk (((c.next 11).1 : Nat) : Int) ((((((((((((c.next 11).2).next (m.words.l.length + 2)).2).next 4).2).next 4).2).next (m.lists.l.length + 2)).1 : Nat) : Int) - 1) (((((((c.next 11).2).next (m.words.l.length + 2)).2).next 4).1 : Nat) : Int) (((((((((c.next 11).2).next (m.words.l.length + 2)).2).next 4).2).next 4).1 : Nat) : Int) (((((((((((((c.next 11).2).next (m.words.l.length + 2)).2).next 4).2).next 4).2).next (m.lists.l.length + 2)).2).next 6).1 : Nat) : Int)), _, rfl, rfl, rfl, rfl⟩
      · intro h75
        have h75 := dcd_f (h75)
        refine Cw_skip ?_
        refine Cw_seq ?_
        refine Cw_region ?_
        refine Ow_q rfl rfl rfl (Qt_loadA (m := 5) (cs := Access.cells (Access.mk (((c.next 11).1 : Nat) : Int) ((((((((((((c.next 11).2).next (m.words.l.length + 2)).2).next 4).2).next 4).2).next (m.lists.l.length + 2)).1 : Nat) : Int) - 1) (((((((c.next 11).2).next (m.words.l.length + 2)).2).next 4).1 : Nat) : Int) (((((((((c.next 11).2).next (m.words.l.length + 2)).2).next 4).2).next 4).1 : Nat) : Int) 0)) rfl rfl rfl rfl ⟨rfl, Rdc.blk (.head _) rfl⟩) ?_
        refine Ow_cons rfl (OpW_store (vs := [(.int .i64 (((c.next 11).1 : Nat) : Int)), (.int .i64 ((((((((((((c.next 11).2).next (m.words.l.length + 2)).2).next 4).2).next 4).2).next (m.lists.l.length + 2)).1 : Nat) : Int) - 1)), (.int .u64 (((((((c.next 11).2).next (m.words.l.length + 2)).2).next 4).1 : Nat) : Int)), (.int .u64 (((((((((c.next 11).2).next (m.words.l.length + 2)).2).next 4).2).next 4).1 : Nat) : Int)), (.int .i64 0)]) (all' := [(.int .i64 (((c.next 11).1 : Nat) : Int)), (.int .i64 ((((((((((((c.next 11).2).next (m.words.l.length + 2)).2).next 4).2).next 4).2).next (m.lists.l.length + 2)).1 : Nat) : Int) - 1)), (.int .u64 (((((((c.next 11).2).next (m.words.l.length + 2)).2).next 4).1 : Nat) : Int)), (.int .u64 (((((((((c.next 11).2).next (m.words.l.length + 2)).2).next 4).2).next 4).1 : Nat) : Int)), (.int .i64 0)]) rfl rfl rfl rfl rfl (.there .here) rfl rfl rfl ?_)
        refine Ow_nil ?_
        refine Cw_ret ?_
        refine ⟨(by first | exact .inl rfl | exact .inr rfl), [(Access.val (Access.mk (((c.next 11).1 : Nat) : Int) ((((((((((((c.next 11).2).next (m.words.l.length + 2)).2).next 4).2).next 4).2).next (m.lists.l.length + 2)).1 : Nat) : Int) - 1) (((((((c.next 11).2).next (m.words.l.length + 2)).2).next 4).1 : Nat) : Int) (((((((((c.next 11).2).next (m.words.l.length + 2)).2).next 4).2).next 4).1 : Nat) : Int) 0))], .blk b 70 [(.slice A ((((((((((c.next 11).2).next (m.words.l.length + 2)).2).next 4).2).next 4).2).next (m.lists.l.length + 2)).2.list.length) cp), (.int .i64 (((((((((((c.next 11).2).next (m.words.l.length + 2)).2).next 4).2).next 4).2).next (m.lists.l.length + 2)).2.at_ : Nat) : Int)), (.int .u64 ((((((((((c.next 11).2).next (m.words.l.length + 2)).2).next 4).2).next 4).2).next (m.lists.l.length + 2)).2.value))] :: G, ⟨(Access.val (Access.mk (((c.next 11).1 : Nat) : Int) ((((((((((((c.next 11).2).next (m.words.l.length + 2)).2).next 4).2).next 4).2).next (m.lists.l.length + 2)).1 : Nat) : Int) - 1) (((((((c.next 11).2).next (m.words.l.length + 2)).2).next 4).1 : Nat) : Int) (((((((((c.next 11).2).next (m.words.l.length + 2)).2).next 4).2).next 4).1 : Nat) : Int) 0)), _, rfl, ⟨_, 5, Access.cells (Access.mk (((c.next 11).1 : Nat) : Int) ((((((((((((c.next 11).2).next (m.words.l.length + 2)).2).next 4).2).next 4).2).next (m.lists.l.length + 2)).1 : Nat) : Int) - 1) (((((((c.next 11).2).next (m.words.l.length + 2)).2).next 4).1 : Nat) : Int) (((((((((c.next 11).2).next (m.words.l.length + 2)).2).next 4).2).next 4).1 : Nat) : Int) 0), rfl, rfl, rfl, rfl, ⟨rfl, Rdc.blk (.tail _ (.head _)) rfl⟩, rfl⟩, rfl⟩, .cons _ (.cons _ (.cons _ (.cons_cons _ (.refl _)))), ?_⟩
        exact ⟨[], _, rfl, (Access.mk (((c.next 11).1 : Nat) : Int) ((((((((((((c.next 11).2).next (m.words.l.length + 2)).2).next 4).2).next 4).2).next (m.lists.l.length + 2)).1 : Nat) : Int) - 1) (((((((c.next 11).2).next (m.words.l.length + 2)).2).next 4).1 : Nat) : Int) (((((((((c.next 11).2).next (m.words.l.length + 2)).2).next 4).2).next 4).1 : Nat) : Int) 0), _, rfl, rfl, rfl, rfl⟩
    · intro h72
      have h72 := dcd_f (h72)
      refine Cw_skip ?_
      refine Cw_seq ?_
      refine Cw_seq ?_
      refine Cw_region ?_
      refine Ow_q rfl rfl rfl (Qt_fieldAddr (m := 0) rfl rfl rfl rfl rfl) ?_
      refine Ow_q rfl rfl rfl (Qt_load1 (v := (.int .i64 (((c.next 11).1 : Nat) : Int))) rfl rfl rfl (Rdc.blk (.head _) rfl)) ?_
      refine Ow_q rfl rfl rfl (Qt_cmp rfl rfl rfl) ?_
      refine Ow_nil ?_
      refine Cw_cond rfl ?_ ?_
      · intro h78
        have h78 := dcd_t (h78)
        refine Cw_region ?_
        refine Ow_q rfl rfl rfl (Qt_move rfl) ?_
        have hn79 : 0 < 6 := (by first | omega | (simp only [List.length_append, List.length_cons, List.length_nil, List.length_replicate, List.length_set]; omega) | (simp; omega))
        refine Ow_cons rfl (OpW_callG (v0 := (.int .i64 (((((((((((c.next 11).2).next (m.words.l.length + 2)).2).next 4).2).next 4).2).next 6).1 : Nat) : Int))) rfl Try.call40 rfl rfl (Fc.at (.there (.there (.there .here))) (fun G1 => c_next b A cp ((((((((c.next 11).2).next (m.words.l.length + 2)).2).next 4).2).next 4).2) 6 hn79 _ G1 hcd)) ?_)
        have hlt80 := Cd.next_lt ((((((((c.next 11).2).next (m.words.l.length + 2)).2).next 4).2).next 4).2) 6 hn79
        refine Ow_q rfl rfl rfl (Qt_fieldAddr (m := 4) rfl rfl rfl rfl rfl) ?_
        refine Ow_cons rfl (OpW_store (vs := [(.int .i64 (((((((((((c.next 11).2).next (m.words.l.length + 2)).2).next 4).2).next 4).2).next 6).1 : Nat) : Int))]) (all' := [(.int .i64 (((c.next 11).1 : Nat) : Int)), (.int .i64 ((((((c.next 11).2).next (m.words.l.length + 2)).1 : Nat) : Int) - 1)), (.int .u64 (((((((c.next 11).2).next (m.words.l.length + 2)).2).next 4).1 : Nat) : Int)), (.int .u64 (((((((((c.next 11).2).next (m.words.l.length + 2)).2).next 4).2).next 4).1 : Nat) : Int)), (.int .i64 (((((((((((c.next 11).2).next (m.words.l.length + 2)).2).next 4).2).next 4).2).next 6).1 : Nat) : Int))]) rfl rfl rfl rfl rfl .here rfl rfl rfl ?_)
        refine Ow_nil ?_
        refine Cw_seq ?_
        refine Cw_region ?_
        refine Ow_q rfl rfl rfl (Qt_loadA (m := 5) (cs := Access.cells (Access.mk (((c.next 11).1 : Nat) : Int) ((((((c.next 11).2).next (m.words.l.length + 2)).1 : Nat) : Int) - 1) (((((((c.next 11).2).next (m.words.l.length + 2)).2).next 4).1 : Nat) : Int) (((((((((c.next 11).2).next (m.words.l.length + 2)).2).next 4).2).next 4).1 : Nat) : Int) (((((((((((c.next 11).2).next (m.words.l.length + 2)).2).next 4).2).next 4).2).next 6).1 : Nat) : Int))) rfl rfl rfl rfl ⟨rfl, Rdc.blk (.head _) rfl⟩) ?_
        refine Ow_cons rfl (OpW_store (vs := [(.int .i64 (((c.next 11).1 : Nat) : Int)), (.int .i64 ((((((c.next 11).2).next (m.words.l.length + 2)).1 : Nat) : Int) - 1)), (.int .u64 (((((((c.next 11).2).next (m.words.l.length + 2)).2).next 4).1 : Nat) : Int)), (.int .u64 (((((((((c.next 11).2).next (m.words.l.length + 2)).2).next 4).2).next 4).1 : Nat) : Int)), (.int .i64 (((((((((((c.next 11).2).next (m.words.l.length + 2)).2).next 4).2).next 4).2).next 6).1 : Nat) : Int))]) (all' := [(.int .i64 (((c.next 11).1 : Nat) : Int)), (.int .i64 ((((((c.next 11).2).next (m.words.l.length + 2)).1 : Nat) : Int) - 1)), (.int .u64 (((((((c.next 11).2).next (m.words.l.length + 2)).2).next 4).1 : Nat) : Int)), (.int .u64 (((((((((c.next 11).2).next (m.words.l.length + 2)).2).next 4).2).next 4).1 : Nat) : Int)), (.int .i64 (((((((((((c.next 11).2).next (m.words.l.length + 2)).2).next 4).2).next 4).2).next 6).1 : Nat) : Int))]) rfl rfl rfl rfl rfl (.there .here) rfl rfl rfl ?_)
        refine Ow_nil ?_
        refine Cw_ret ?_
        refine ⟨(by first | exact .inl rfl | exact .inr rfl), [(Access.val (Access.mk (((c.next 11).1 : Nat) : Int) ((((((c.next 11).2).next (m.words.l.length + 2)).1 : Nat) : Int) - 1) (((((((c.next 11).2).next (m.words.l.length + 2)).2).next 4).1 : Nat) : Int) (((((((((c.next 11).2).next (m.words.l.length + 2)).2).next 4).2).next 4).1 : Nat) : Int) (((((((((((c.next 11).2).next (m.words.l.length + 2)).2).next 4).2).next 4).2).next 6).1 : Nat) : Int)))], .blk b 70 [(.slice A ((((((((((c.next 11).2).next (m.words.l.length + 2)).2).next 4).2).next 4).2).next 6).2.list.length) cp), (.int .i64 (((((((((((c.next 11).2).next (m.words.l.length + 2)).2).next 4).2).next 4).2).next 6).2.at_ : Nat) : Int)), (.int .u64 ((((((((((c.next 11).2).next (m.words.l.length + 2)).2).next 4).2).next 4).2).next 6).2.value))] :: G, ⟨(Access.val (Access.mk (((c.next 11).1 : Nat) : Int) ((((((c.next 11).2).next (m.words.l.length + 2)).1 : Nat) : Int) - 1) (((((((c.next 11).2).next (m.words.l.length + 2)).2).next 4).1 : Nat) : Int) (((((((((c.next 11).2).next (m.words.l.length + 2)).2).next 4).2).next 4).1 : Nat) : Int) (((((((((((c.next 11).2).next (m.words.l.length + 2)).2).next 4).2).next 4).2).next 6).1 : Nat) : Int))), _, rfl, ⟨_, 5, Access.cells (Access.mk (((c.next 11).1 : Nat) : Int) ((((((c.next 11).2).next (m.words.l.length + 2)).1 : Nat) : Int) - 1) (((((((c.next 11).2).next (m.words.l.length + 2)).2).next 4).1 : Nat) : Int) (((((((((c.next 11).2).next (m.words.l.length + 2)).2).next 4).2).next 4).1 : Nat) : Int) (((((((((((c.next 11).2).next (m.words.l.length + 2)).2).next 4).2).next 4).2).next 6).1 : Nat) : Int)), rfl, rfl, rfl, rfl, ⟨rfl, Rdc.blk (.tail _ (.head _)) rfl⟩, rfl⟩, rfl⟩, .cons _ (.cons _ (.cons _ (.cons_cons _ (.refl _)))), ?_⟩
        exact ⟨[], _, rfl, (Access.mk (((c.next 11).1 : Nat) : Int) ((((((c.next 11).2).next (m.words.l.length + 2)).1 : Nat) : Int) - 1) (((((((c.next 11).2).next (m.words.l.length + 2)).2).next 4).1 : Nat) : Int) (((((((((c.next 11).2).next (m.words.l.length + 2)).2).next 4).2).next 4).1 : Nat) : Int) (((((((((((c.next 11).2).next (m.words.l.length + 2)).2).next 4).2).next 4).2).next 6).1 : Nat) : Int)), _, rfl, rfl, rfl, rfl⟩
      · intro h78
        have h78 := dcd_f (h78)
        refine Cw_skip ?_
        refine Cw_seq ?_
        refine Cw_region ?_
        refine Ow_q rfl rfl rfl (Qt_loadA (m := 5) (cs := Access.cells (Access.mk (((c.next 11).1 : Nat) : Int) ((((((c.next 11).2).next (m.words.l.length + 2)).1 : Nat) : Int) - 1) (((((((c.next 11).2).next (m.words.l.length + 2)).2).next 4).1 : Nat) : Int) (((((((((c.next 11).2).next (m.words.l.length + 2)).2).next 4).2).next 4).1 : Nat) : Int) 0)) rfl rfl rfl rfl ⟨rfl, Rdc.blk (.head _) rfl⟩) ?_
        refine Ow_cons rfl (OpW_store (vs := [(.int .i64 (((c.next 11).1 : Nat) : Int)), (.int .i64 ((((((c.next 11).2).next (m.words.l.length + 2)).1 : Nat) : Int) - 1)), (.int .u64 (((((((c.next 11).2).next (m.words.l.length + 2)).2).next 4).1 : Nat) : Int)), (.int .u64 (((((((((c.next 11).2).next (m.words.l.length + 2)).2).next 4).2).next 4).1 : Nat) : Int)), (.int .i64 0)]) (all' := [(.int .i64 (((c.next 11).1 : Nat) : Int)), (.int .i64 ((((((c.next 11).2).next (m.words.l.length + 2)).1 : Nat) : Int) - 1)), (.int .u64 (((((((c.next 11).2).next (m.words.l.length + 2)).2).next 4).1 : Nat) : Int)), (.int .u64 (((((((((c.next 11).2).next (m.words.l.length + 2)).2).next 4).2).next 4).1 : Nat) : Int)), (.int .i64 0)]) rfl rfl rfl rfl rfl (.there .here) rfl rfl rfl ?_)
        refine Ow_nil ?_
        refine Cw_ret ?_
        refine ⟨(by first | exact .inl rfl | exact .inr rfl), [(Access.val (Access.mk (((c.next 11).1 : Nat) : Int) ((((((c.next 11).2).next (m.words.l.length + 2)).1 : Nat) : Int) - 1) (((((((c.next 11).2).next (m.words.l.length + 2)).2).next 4).1 : Nat) : Int) (((((((((c.next 11).2).next (m.words.l.length + 2)).2).next 4).2).next 4).1 : Nat) : Int) 0))], .blk b 70 [(.slice A ((((((((c.next 11).2).next (m.words.l.length + 2)).2).next 4).2).next 4).2.list.length) cp), (.int .i64 (((((((((c.next 11).2).next (m.words.l.length + 2)).2).next 4).2).next 4).2.at_ : Nat) : Int)), (.int .u64 ((((((((c.next 11).2).next (m.words.l.length + 2)).2).next 4).2).next 4).2.value))] :: G, ⟨(Access.val (Access.mk (((c.next 11).1 : Nat) : Int) ((((((c.next 11).2).next (m.words.l.length + 2)).1 : Nat) : Int) - 1) (((((((c.next 11).2).next (m.words.l.length + 2)).2).next 4).1 : Nat) : Int) (((((((((c.next 11).2).next (m.words.l.length + 2)).2).next 4).2).next 4).1 : Nat) : Int) 0)), _, rfl, ⟨_, 5, Access.cells (Access.mk (((c.next 11).1 : Nat) : Int) ((((((c.next 11).2).next (m.words.l.length + 2)).1 : Nat) : Int) - 1) (((((((c.next 11).2).next (m.words.l.length + 2)).2).next 4).1 : Nat) : Int) (((((((((c.next 11).2).next (m.words.l.length + 2)).2).next 4).2).next 4).1 : Nat) : Int) 0), rfl, rfl, rfl, rfl, ⟨rfl, Rdc.blk (.tail _ (.head _)) rfl⟩, rfl⟩, rfl⟩, .cons _ (.cons _ (.cons _ (.cons_cons _ (.refl _)))), ?_⟩
        exact ⟨[], _, rfl, (Access.mk (((c.next 11).1 : Nat) : Int) ((((((c.next 11).2).next (m.words.l.length + 2)).1 : Nat) : Int) - 1) (((((((c.next 11).2).next (m.words.l.length + 2)).2).next 4).1 : Nat) : Int) (((((((((c.next 11).2).next (m.words.l.length + 2)).2).next 4).2).next 4).1 : Nat) : Int) 0), _, rfl, rfl, rfl, rfl⟩

end Go.Ghl
