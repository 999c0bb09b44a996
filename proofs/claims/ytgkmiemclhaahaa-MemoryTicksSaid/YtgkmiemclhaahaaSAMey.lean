/- Contracts of functions, walked: printed by program. -/
import Derived.Test.YtgkmiemclhaahaaProg
import Derived.Test.YtgkmiemclhaahaaGhlMore
import Derived.Test.YtgkmiemclhaahaaSAMex
namespace Go.Ghl
open Go.Proofs
set_option linter.unusedSimpArgs false
set_option linter.unusedVariables false

theorem c_put (m : Mem) (n w : Int) (hn : 0 ≤ n ∧ n < ((m.words.l.length : Nat) : Int)) (K : Kp) (G : List Ent) (hm : MemOk K m) :
    Fc Try.prog 54 #[(Mem.val m), (.int .i64 n), (.int .u64 w)] K G (fun v K' G' => ∃ m', v = Mem.val m' ∧ G = G' ∧ MemOk K' m' ∧ m'.abs = ⟨m.words.l.set n.toNat w, m.abs.l, m.abs.t⟩) := by
  refine Fc_of Try.func54 rfl Try.ntmps54 Try.results54 rfl ?_
  have hmw := Sl.le hm.w
  have hml := Sl.le hm.l
  have hmzw := hm.zw
  have hmzl := hm.zl
  refine Cw_seq ?_
  refine Cw_region ?_
  refine Ow_cons rfl (OpW_box (cs := [(.slice m.words.A m.words.l.length m.words.cp), (.slice m.lists.A m.lists.l.length m.lists.cp), (.int .i64 m.tick)]) rfl rfl rfl (fun b1 => ?_))
  refine Ow_cons rfl (OpW_alloc (cs := [(.slice none 0 0), (.slice none 0 0), (.int .i64 0)]) rfl rfl rfl rfl (fun b2 => ?_))
  refine Ow_nil ?_
  refine Cw_seq ?_
  refine Cw_region ?_
  refine Ow_q rfl rfl rfl (Qt_fieldAddr (m := 0) rfl rfl rfl rfl rfl) ?_
  refine Ow_q rfl rfl rfl (Qt_load1 (v := (.slice m.words.A m.words.l.length m.words.cp)) rfl rfl rfl (Rdc.blk (.tail _ (.head _)) rfl)) ?_
  refine Ow_cons rfl (OpW_call rfl Try.call65 rfl rfl (c_cloneU m.words.A m.words.cp m.words.l _ _ hm.w (by first | omega | (simp only [List.length_append, List.length_cons, List.length_nil, List.length_replicate, List.length_set]; omega) | (simp; omega))) ?_)
  rintro _ _ _ - ⟨A3, cp4, rfl, hA5, rfl, rfl⟩
  obtain ⟨a6, rfl⟩ := hA5 (by first | omega | (simp only [List.length_append, List.length_cons, List.length_nil, List.length_replicate, List.length_set]; omega) | (simp; omega))
  refine Ow_q rfl rfl rfl (Qt_fieldAddr (m := 0) rfl rfl rfl rfl rfl) ?_
  refine Ow_cons rfl (OpW_store (vs := [(.slice (some a6) m.words.l.length cp4)]) (all' := [(.slice (some a6) m.words.l.length cp4), (.slice m.lists.A m.lists.l.length m.lists.cp), (.int .i64 m.tick)]) rfl rfl rfl rfl rfl (.there (.there .here)) rfl rfl rfl ?_)
  refine Ow_nil ?_
  refine Cw_seq ?_
  refine Cw_region ?_
  refine Ow_q rfl rfl rfl (Qt_fieldAddr (m := 0) rfl rfl rfl rfl rfl) ?_
  refine Ow_q rfl rfl rfl (Qt_load1 (v := (.slice (some a6) m.words.l.length cp4)) rfl rfl rfl (Rdc.blk (.tail _ (.tail _ (.head _))) rfl)) ?_
  refine Ow_q rfl rfl rfl (Qt_move rfl) ?_
  refine Ow_q rfl rfl rfl (Qt_move rfl) ?_
  obtain ⟨x7, hx8⟩ : ∃ x, m.words.l[(n).toNat]? = some x := ⟨_, List.getElem?_eq_getElem (by first | omega | (simp only [List.length_append, List.length_cons, List.length_nil, List.length_replicate, List.length_set]; omega) | (simp; omega))⟩
  refine Ow_q rfl rfl rfl (Qt_ixG (q := (n).toNat) (o := ((n).toNat) * 1 + 0) rfl rfl rfl rfl rfl (by omega) (by first | omega | (simp only [List.length_append, List.length_cons, List.length_nil, List.length_replicate, List.length_set]; omega) | (simp; omega)) rfl) ?_
  refine Ow_cons rfl (OpW_storeRowT (q := ((n).toNat)) (off := 0) (vs := [(.int .u64 w)]) (L := m.words.l) (z' := w) Enc.u64 rfl rfl rfl rfl rfl hx8 rfl rfl rfl .here ?_)
  refine Ow_nil ?_
  refine Cw_seq ?_
  refine Cw_region ?_
  refine Ow_q rfl rfl rfl (Qt_loadA (m := 3) (cs := Mem.cells (Mem.mk (SI.mk (some a6) cp4 m.words.l) m.lists m.tick)) rfl rfl rfl rfl ⟨rfl, Rdc.blk (.tail _ (.tail _ (.head _))) rfl⟩) ?_
  refine Ow_cons rfl (OpW_store (vs := [(.slice (some a6) m.words.l.length cp4), (.slice m.lists.A m.lists.l.length m.lists.cp), (.int .i64 m.tick)]) (all' := [(.slice (some a6) m.words.l.length cp4), (.slice m.lists.A m.lists.l.length m.lists.cp), (.int .i64 m.tick)]) rfl rfl rfl rfl rfl (.there .here) rfl rfl rfl ?_)
  refine Ow_nil ?_
  rw [show (Value.slice (some a6) m.words.l.length cp4) = (Value.slice (some a6) ((m.words.l.set ((n).toNat) w).length) cp4) by simp]
  refine Cw.settleT Enc.u64 rfl (.here) ?_
  intro K9 hK10 hs11
  have hs12 := hm.mono hK10
  have hl13 := Sl.le hs11
  refine Cw_ret ?_
  refine ⟨(by first | exact .inl rfl | exact .inr rfl), [(Mem.val (Mem.mk (SI.mk (some a6) cp4 (m.words.l.set ((n).toNat) w)) m.lists m.tick))], G, ⟨(Mem.val (Mem.mk (SI.mk (some a6) cp4 (m.words.l.set ((n).toNat) w)) m.lists m.tick)), _, rfl, ⟨_, 3, Mem.cells (Mem.mk (SI.mk (some a6) cp4 (m.words.l.set ((n).toNat) w)) m.lists m.tick), rfl, rfl, rfl, rfl, ⟨rfl, Rdc.blk (.head _) rfl⟩, rfl⟩, rfl⟩, .cons _ (.cons _ (.refl _)), ?_⟩
  exact ⟨(Mem.mk (SI.mk (some a6) cp4 (m.words.l.set ((n).toNat) w)) m.lists m.tick), rfl, rfl, ⟨hs11, hs12.l, hs12.x, (by first | omega | (simp only [List.length_append, List.length_cons, List.length_nil, List.length_replicate, List.length_set]; omega) | (simp; omega)), (by first | omega | (simp only [List.length_append, List.length_cons, List.length_nil, List.length_replicate, List.length_set]; omega) | (simp; omega))⟩, by simp [Mem.abs]⟩

theorem c_set (m : Mem) (n w : Int) (hn : 0 ≤ n ∧ n < ((m.words.l.length : Nat) : Int)) (K : Kp) (G : List Ent) (hm : MemOk K m) :
    Fc Try.prog 59 #[(Mem.val m), (.int .i64 n), (.int .u64 w)] K G (fun v K' G' => ∃ m', v = Mem.val m' ∧ G = G' ∧ MemOk K' m' ∧ m'.abs = ⟨m.words.l.set n.toNat w, m.abs.l, m.abs.t⟩) := by
  refine Fc_of Try.func59 rfl Try.ntmps59 Try.results59 rfl ?_
  have hmw := Sl.le hm.w
  have hml := Sl.le hm.l
  have hmzw := hm.zw
  have hmzl := hm.zl
  refine Cw_seq ?_
  refine Cw_region ?_
  refine Ow_cons rfl (OpW_box (cs := [(.slice m.words.A m.words.l.length m.words.cp), (.slice m.lists.A m.lists.l.length m.lists.cp), (.int .i64 m.tick)]) rfl rfl rfl (fun b1 => ?_))
  refine Ow_cons rfl (OpW_alloc (cs := [(.slice none 0 0), (.slice none 0 0), (.int .i64 0)]) rfl rfl rfl rfl (fun b2 => ?_))
  refine Ow_nil ?_
  refine Cw_seq ?_
  refine Cw.nilRow 22 1 ?_
  refine Cw_region ?_
  refine Ow_q rfl rfl rfl (Qt_fieldAddr (m := 0) rfl rfl rfl rfl rfl) ?_
  refine Ow_q rfl rfl rfl (Qt_load1 (v := (.slice m.words.A m.words.l.length m.words.cp)) rfl rfl rfl (Rdc.blk (.tail _ (.tail _ (.head _))) rfl)) ?_
  refine Ow_cons rfl (OpW_appendT (bytes := 8) (L := ([] : List Int)) (M := m.words.l) Enc.u64 rfl rfl rfl (.head _) (Src.slT hm.w) (by first | rfl | (simp; done) | (simp; omega)) rfl rfl rfl rfl rfl rfl rfl rfl (by first | omega | (simp only [List.length_append, List.length_cons, List.length_nil, List.length_replicate, List.length_set]; omega) | (simp; omega)) (by first | omega | (simp only [List.length_append, List.length_cons, List.length_nil, List.length_replicate, List.length_set]; omega) | (simp; omega)) ?_)
  intro A3 cp4 hA5
  obtain ⟨a6, rfl⟩ := hA5 (by first | (simp; done) | (simp; omega))
  refine ⟨_, .here, ?_⟩
  refine Ow_q rfl rfl rfl (Qt_fieldAddr (m := 0) rfl rfl rfl rfl rfl) ?_
  refine Ow_cons rfl (OpW_store (vs := [(.slice (some a6) ((([] : List Int) ++ m.words.l).length) cp4)]) (all' := [(.slice (some a6) ((([] : List Int) ++ m.words.l).length) cp4), (.slice m.lists.A m.lists.l.length m.lists.cp), (.int .i64 m.tick)]) rfl rfl rfl rfl rfl (.there (.there .here)) rfl rfl rfl ?_)
  refine Ow_nil ?_
  refine Cw_seq ?_
  refine Cw_region ?_
  refine Ow_q rfl rfl rfl (Qt_fieldAddr (m := 0) rfl rfl rfl rfl rfl) ?_
  refine Ow_q rfl rfl rfl (Qt_load1 (v := (.slice (some a6) ((([] : List Int) ++ m.words.l).length) cp4)) rfl rfl rfl (Rdc.blk (.tail _ (.tail _ (.head _))) rfl)) ?_
  refine Ow_q rfl rfl rfl (Qt_move rfl) ?_
  refine Ow_q rfl rfl rfl (Qt_move rfl) ?_
  obtain ⟨x7, hx8⟩ : ∃ x, (([] : List Int) ++ m.words.l)[(n).toNat]? = some x := ⟨_, List.getElem?_eq_getElem (by first | omega | (simp only [List.length_append, List.length_cons, List.length_nil, List.length_replicate, List.length_set]; omega) | (simp; omega))⟩
  refine Ow_q rfl rfl rfl (Qt_ixG (q := (n).toNat) (o := ((n).toNat) * 1 + 0) rfl rfl rfl rfl rfl (by omega) (by first | omega | (simp only [List.length_append, List.length_cons, List.length_nil, List.length_replicate, List.length_set]; omega) | (simp; omega)) rfl) ?_
  refine Ow_cons rfl (OpW_storeRowT (q := ((n).toNat)) (off := 0) (vs := [(.int .u64 w)]) (L := (([] : List Int) ++ m.words.l)) (z' := w) Enc.u64 rfl rfl rfl rfl rfl hx8 rfl rfl rfl .here ?_)
  refine Ow_nil ?_
  refine Cw_seq ?_
  refine Cw_region ?_
  refine Ow_q rfl rfl rfl (Qt_loadA (m := 3) (cs := Mem.cells (Mem.mk (SI.mk (some a6) cp4 (([] : List Int) ++ m.words.l)) m.lists m.tick)) rfl rfl rfl rfl ⟨rfl, Rdc.blk (.tail _ (.tail _ (.head _))) rfl⟩) ?_
  refine Ow_cons rfl (OpW_store (vs := [(.slice (some a6) ((([] : List Int) ++ m.words.l).length) cp4), (.slice m.lists.A m.lists.l.length m.lists.cp), (.int .i64 m.tick)]) (all' := [(.slice (some a6) ((([] : List Int) ++ m.words.l).length) cp4), (.slice m.lists.A m.lists.l.length m.lists.cp), (.int .i64 m.tick)]) rfl rfl rfl rfl rfl (.there .here) rfl rfl rfl ?_)
  refine Ow_nil ?_
  rw [show (Value.slice (some a6) ((([] : List Int) ++ m.words.l).length) cp4) = (Value.slice (some a6) (((([] : List Int) ++ m.words.l).set ((n).toNat) w).length) cp4) by simp]
  refine Cw.settleT Enc.u64 rfl (.here) ?_
  intro K9 hK10 hs11
  have hs12 := hm.mono hK10
  have hl13 := Sl.le hs11
  refine Cw_ret ?_
  refine ⟨(by first | exact .inl rfl | exact .inr rfl), [(Mem.val (Mem.mk (SI.mk (some a6) cp4 ((([] : List Int) ++ m.words.l).set ((n).toNat) w)) m.lists m.tick))], G, ⟨(Mem.val (Mem.mk (SI.mk (some a6) cp4 ((([] : List Int) ++ m.words.l).set ((n).toNat) w)) m.lists m.tick)), _, rfl, ⟨_, 3, Mem.cells (Mem.mk (SI.mk (some a6) cp4 ((([] : List Int) ++ m.words.l).set ((n).toNat) w)) m.lists m.tick), rfl, rfl, rfl, rfl, ⟨rfl, Rdc.blk (.head _) rfl⟩, rfl⟩, rfl⟩, .cons _ (.cons _ (.refl _)), ?_⟩
  exact ⟨(Mem.mk (SI.mk (some a6) cp4 ((([] : List Int) ++ m.words.l).set ((n).toNat) w)) m.lists m.tick), rfl, rfl, ⟨hs11, hs12.l, hs12.x, (by first | omega | (simp only [List.length_append, List.length_cons, List.length_nil, List.length_replicate, List.length_set]; omega) | (simp; omega)), (by first | omega | (simp only [List.length_append, List.length_cons, List.length_nil, List.length_replicate, List.length_set]; omega) | (simp; omega))⟩, by simp [Mem.abs]⟩

theorem c_putL (m : Mem) (n : Int) (x : SI) (hn : 0 ≤ n ∧ n < ((m.lists.l.length : Nat) : Int)) (hz : x.l.length ≤ 1000000) (K : Kp) (G : List Ent) (hm : MemOk K m) (hx : Sl K (.slice x.A x.l.length x.cp) 1 (x.l.map i64c)) :
    Fc Try.prog 57 #[(Mem.val m), (.int .i64 n), (.slice x.A x.l.length x.cp)] K G (fun v K' G' => ∃ m', v = Mem.val m' ∧ G = G' ∧ MemOk K' m' ∧ m'.abs = ⟨m.abs.w, m.abs.l.set n.toNat x.l, m.abs.t⟩) := by
  refine Fc_of Try.func57 rfl Try.ntmps57 Try.results57 rfl ?_
  have hmw := Sl.le hm.w
  have hml := Sl.le hm.l
  have hmzw := hm.zw
  have hmzl := hm.zl
  refine Cw_seq ?_
  refine Cw_region ?_
  refine Ow_cons rfl (OpW_box (cs := [(.slice m.words.A m.words.l.length m.words.cp), (.slice m.lists.A m.lists.l.length m.lists.cp), (.int .i64 m.tick)]) rfl rfl rfl (fun b1 => ?_))
  refine Ow_cons rfl (OpW_alloc (cs := [(.slice none 0 0), (.slice none 0 0), (.int .i64 0)]) rfl rfl rfl rfl (fun b2 => ?_))
  refine Ow_nil ?_
  refine Cw_seq ?_
  refine Cw.nilRow 38 1 ?_
  refine Cw_region ?_
  refine Ow_q rfl rfl rfl (Qt_fieldAddr (m := 1) rfl rfl rfl rfl rfl) ?_
  refine Ow_q rfl rfl rfl (Qt_load1 (v := (.slice m.lists.A m.lists.l.length m.lists.cp)) rfl rfl rfl (Rdc.blk (.tail _ (.tail _ (.head _))) rfl)) ?_
  have hX6 := SlAll.append (SlAll.nil (K := K) (f := i64c)) hm.x
  refine Ow_cons rfl (OpW_appendT (bytes := 24) (L := ([] : List SI)) (M := m.lists.l) Enc.si rfl rfl rfl (.head _) (Src.slT hm.l) (by first | rfl | (simp; done) | (simp; omega)) rfl rfl rfl rfl rfl rfl rfl rfl (by first | omega | (simp only [List.length_append, List.length_cons, List.length_nil, List.length_replicate, List.length_set]; omega) | (simp; omega)) (by first | omega | (simp only [List.length_append, List.length_cons, List.length_nil, List.length_replicate, List.length_set]; omega) | (simp; omega)) ?_)
  intro A3 cp4 hA5
  obtain ⟨a7, rfl⟩ := hA5 (by first | (simp; done) | (simp; omega))
  refine ⟨_, .here, ?_⟩
  refine Ow_q rfl rfl rfl (Qt_fieldAddr (m := 1) rfl rfl rfl rfl rfl) ?_
  refine Ow_cons rfl (OpW_store (vs := [(.slice (some a7) ((([] : List SI) ++ m.lists.l).length) cp4)]) (all' := [(.slice m.words.A m.words.l.length m.words.cp), (.slice (some a7) ((([] : List SI) ++ m.lists.l).length) cp4), (.int .i64 m.tick)]) rfl rfl rfl rfl rfl (.there (.there .here)) rfl rfl rfl ?_)
  refine Ow_nil ?_
  refine Cw_seq ?_
  refine Cw_region ?_
  refine Ow_q rfl rfl rfl (Qt_fieldAddr (m := 1) rfl rfl rfl rfl rfl) ?_
  refine Ow_q rfl rfl rfl (Qt_load1 (v := (.slice (some a7) ((([] : List SI) ++ m.lists.l).length) cp4)) rfl rfl rfl (Rdc.blk (.tail _ (.tail _ (.head _))) rfl)) ?_
  refine Ow_q rfl rfl rfl (Qt_move rfl) ?_
  refine Ow_q rfl rfl rfl (Qt_move rfl) ?_
  obtain ⟨x8, hx9⟩ : ∃ x, (([] : List SI) ++ m.lists.l)[(n).toNat]? = some x := ⟨_, List.getElem?_eq_getElem (by first | omega | (simp only [List.length_append, List.length_cons, List.length_nil, List.length_replicate, List.length_set]; omega) | (simp; omega))⟩
  have hs_x8 := (hX6 _ (List.mem_of_getElem? hx9)).1
  have hz10 := (hX6 _ (List.mem_of_getElem? hx9)).2
  have hl11 := Sl.le hs_x8
  refine Ow_q rfl rfl rfl (Qt_ixG (q := (n).toNat) (o := ((n).toNat) * 1 + 0) rfl rfl rfl rfl rfl (by omega) (by first | omega | (simp only [List.length_append, List.length_cons, List.length_nil, List.length_replicate, List.length_set]; omega) | (simp; omega)) rfl) ?_
  have hX12 := SlAll.set (y := x) hX6 ((n).toNat) hx (by first | omega | (simp only [List.length_append, List.length_cons, List.length_nil, List.length_replicate, List.length_set]; omega) | (simp; omega))
  refine Ow_cons rfl (OpW_storeRowT (q := ((n).toNat)) (off := 0) (vs := [(.slice x.A x.l.length x.cp)]) (L := (([] : List SI) ++ m.lists.l)) (z' := x) Enc.si rfl rfl rfl rfl rfl hx9 rfl rfl rfl .here ?_)
  refine Ow_nil ?_
  refine Cw_seq ?_
  refine Cw_region ?_
  refine Ow_q rfl rfl rfl (Qt_loadA (m := 3) (cs := Mem.cells (Mem.mk m.words (SS.mk (some a7) cp4 (([] : List SI) ++ m.lists.l)) m.tick)) rfl rfl rfl rfl ⟨rfl, Rdc.blk (.tail _ (.tail _ (.head _))) rfl⟩) ?_
  refine Ow_cons rfl (OpW_store (vs := [(.slice m.words.A m.words.l.length m.words.cp), (.slice (some a7) ((([] : List SI) ++ m.lists.l).length) cp4), (.int .i64 m.tick)]) (all' := [(.slice m.words.A m.words.l.length m.words.cp), (.slice (some a7) ((([] : List SI) ++ m.lists.l).length) cp4), (.int .i64 m.tick)]) rfl rfl rfl rfl rfl (.there .here) rfl rfl rfl ?_)
  refine Ow_nil ?_
  rw [show (Value.slice (some a7) ((([] : List SI) ++ m.lists.l).length) cp4) = (Value.slice (some a7) (((([] : List SI) ++ m.lists.l).set ((n).toNat) x).length) cp4) by simp]
  refine Cw.settleT Enc.si rfl (.here) ?_
  intro K13 hK14 hs15
  have hs16 := hm.mono hK14
  have hs17 := hx.mono hK14
  have hs18 := hX6.mono hK14
  have hs19 := hs_x8.mono hK14
  have hs20 := hX12.mono hK14
  have hl21 := Sl.le hs15
  refine Cw_ret ?_
  refine ⟨(by first | exact .inl rfl | exact .inr rfl), [(Mem.val (Mem.mk m.words (SS.mk (some a7) cp4 ((([] : List SI) ++ m.lists.l).set ((n).toNat) x)) m.tick))], G, ⟨(Mem.val (Mem.mk m.words (SS.mk (some a7) cp4 ((([] : List SI) ++ m.lists.l).set ((n).toNat) x)) m.tick)), _, rfl, ⟨_, 3, Mem.cells (Mem.mk m.words (SS.mk (some a7) cp4 ((([] : List SI) ++ m.lists.l).set ((n).toNat) x)) m.tick), rfl, rfl, rfl, rfl, ⟨rfl, Rdc.blk (.head _) rfl⟩, rfl⟩, rfl⟩, .cons _ (.cons _ (.refl _)), ?_⟩
  exact ⟨(Mem.mk m.words (SS.mk (some a7) cp4 ((([] : List SI) ++ m.lists.l).set ((n).toNat) x)) m.tick), rfl, rfl, ⟨hs16.w, hs15, hs20, (by first | omega | (simp only [List.length_append, List.length_cons, List.length_nil, List.length_replicate, List.length_set]; omega) | (simp; omega)), (by first | omega | (simp only [List.length_append, List.length_cons, List.length_nil, List.length_replicate, List.length_set]; omega) | (simp; omega))⟩, by simp [Mem.abs, List.map_set]⟩

theorem c_without (A : Option Addr) (cp : Nat) (l : List Int) (x : Int) (K : Kp) (G : List Ent) (hl : Sl K (.slice A l.length cp) 1 (l.map i64c)) (hz : l.length ≤ 1000000) :
    Fc Try.prog 56 #[(.slice A l.length cp), (.int .i64 x)] K G (fun v K' G' => ∃ A' cp', v = .slice A' (l.erase x).length cp' ∧ G = G' ∧ Sl K' (.slice A' (l.erase x).length cp') 1 ((l.erase x).map i64c)) := by
  refine Fc_of Try.func56 rfl Try.ntmps56 Try.results56 rfl ?_
  have hll := Sl.le hl
  refine Cw_seq ?_
  refine Cw_region ?_
  refine Ow_q rfl rfl rfl (Qt_assign rfl) ?_
  refine Ow_nil ?_
  refine Cw_seq ?_
  refine Cw_seq ?_
  refine Cw_region ?_
  refine Ow_q rfl rfl rfl (Qt_assign rfl) ?_
  refine Ow_nil ?_
  refine Cw_block ?_
  refine Cw_loop (S := Nat) (fun s env' K' G' => ∃ (k : Nat), l.length - k = s ∧ [(0, (.slice A l.length cp)), (1, (.int .i64 x)), (5, (.int .i64 ((k : Nat) : Int)))] = env' ∧ K = K' ∧ G = G' ∧ k ≤ l.length ∧ ∀ j, j < k → l[j]? ≠ some x) (fun s => s) (l.length - 0) [(0, (.slice A l.length cp)), (1, (.int .i64 x)), (5, (.int .i64 ((0 : Nat) : Int)))] (G)
    ⟨0, rfl, rfl, rfl, rfl, (Nat.zero_le _), (fun j h => absurd h (by omega))⟩ ⟨rfl, rfl, rfl, trivial⟩ (.refl _) ?_
  rintro s _ _ _ - ⟨k, rfl, rfl, rfl, rfl, hk, hj⟩
  refine Cw_seq ?_
  refine Cw_seq ?_
  refine Cw_region ?_
  refine Ow_q rfl rfl rfl (Qt_move rfl) ?_
  refine Ow_q rfl rfl rfl (Qt_move rfl) ?_
  refine Ow_q rfl rfl rfl (Qt_len rfl rfl) ?_
  refine Ow_q rfl rfl rfl (Qt_cmp rfl rfl rfl) ?_
  refine Ow_nil ?_
  refine Cw_cond rfl ?_ ?_
  · intro h1
    have h1 := dcd_t (h1)
    refine Cw_skip ?_
    refine Cw_seq ?_
    refine Cw_block ?_
    refine Cw_seq ?_
    refine Cw_region ?_
    refine Ow_q rfl rfl rfl (Qt_move rfl) ?_
    refine Ow_q rfl rfl rfl (Qt_move rfl) ?_
    obtain ⟨x2, hx3⟩ : ∃ x, l[k]? = some x := ⟨_, List.getElem?_eq_getElem (by first | omega | (simp only [List.length_append, List.length_cons, List.length_nil, List.length_replicate, List.length_set]; omega) | (simp; omega))⟩
    refine Ow_q rfl rfl rfl (Qt_ixK (q := k) rfl rfl rfl rfl rfl hl rfl (map_get hx3)) ?_
    refine Ow_q rfl rfl rfl (Qt_load1 (v := (.int .i64 x2)) rfl rfl rfl (Rdc.k (Sl.at hl (map_get hx3)) rfl)) ?_
    refine Ow_q rfl rfl rfl (Qt_move rfl) ?_
    refine Ow_q rfl rfl rfl (Qt_cmp rfl rfl rfl) ?_
    refine Ow_nil ?_
    refine Cw_cond rfl ?_ ?_
    · intro h4
      have h4 := dcd_t (h4)
      refine Cw_seq ?_
      refine Cw.nilRow 3 1 ?_
      refine Cw_region_any [] rfl Inc.nil ?_
      refine Aw_q 0 rfl (by kernel_rfl) (by kernel_rfl) (by kernel_rfl) rfl rfl rfl (Qt_move rfl) ?_
      refine Aw_q 1 rfl (by kernel_rfl) (by kernel_rfl) (by kernel_rfl) rfl rfl rfl (Qt_move rfl) ?_
      have hc6 := (Sl.len hl).2.2
      have hs5 := Sl.take (q := k) hl (by first | omega | (simp only [List.length_append, List.length_cons, List.length_nil, List.length_replicate, List.length_set]; omega) | (simp; omega))
      refine Aw_q 2 rfl (by kernel_rfl) (by kernel_rfl) (by kernel_rfl) rfl rfl rfl (Qt_slice_h (q := k) rfl rfl rfl rfl rfl (by omega) (by first | omega | (simp only [List.length_append, List.length_cons, List.length_nil, List.length_replicate, List.length_set]; omega) | (simp; omega))) ?_
      refine Aw_q 4 rfl (by kernel_rfl) (by kernel_rfl) (by kernel_rfl) rfl rfl rfl (Qt_move rfl) ?_
      refine Aw_q 5 rfl (by kernel_rfl) (by kernel_rfl) (by kernel_rfl) rfl rfl rfl (Qt_move rfl) ?_
      refine Aw_q 6 rfl (by kernel_rfl) (by kernel_rfl) (by kernel_rfl) rfl rfl rfl (Qt_arith (e := (((k : Nat) : Int) + 1)) rfl rfl rfl (wrap_eq (by omega) (by omega))) ?_
      refine Aw_q 7 rfl (by kernel_rfl) (by kernel_rfl) (by kernel_rfl) rfl rfl rfl (Qt_slice_l (q := (k + 1)) (size := 1) rfl rfl rfl rfl rfl (by omega) (by first | omega | (simp only [List.length_append, List.length_cons, List.length_nil, List.length_replicate, List.length_set]; omega) | (simp; omega))) ?_
      refine Aw_one 3 (by kernel_rfl) (Ax_mk rfl rfl (OpW_appendT (bytes := 8) (L := ([] : List Int)) (M := (l.take k)) Enc.i64 rfl rfl rfl (.head _) (Src.slT hs5) (by first | rfl | (simp; done) | (simp; omega)) rfl rfl rfl rfl rfl rfl rfl rfl (by first | omega | (simp only [List.length_append, List.length_cons, List.length_nil, List.length_replicate, List.length_set]; omega) | (simp; omega)) (by first | omega | (simp only [List.length_append, List.length_cons, List.length_nil, List.length_replicate, List.length_set]; omega) | (simp; omega)) ?_))
      intro A7 cp8 hA9
      refine ⟨_, .here, ?_⟩
      refine ⟨Inc.nil, ?_⟩
      refine Aw_one 8 (by kernel_rfl) (Ax_mk rfl rfl (OpW_appendT (bytes := 8) (L := (([] : List Int) ++ (l.take k))) (M := (l.drop (k + 1))) Enc.i64 rfl rfl rfl (.head _) (Src.slD hl (by first | omega | (simp only [List.length_append, List.length_cons, List.length_nil, List.length_replicate, List.length_set]; omega) | (simp; omega))) (by first | rfl | (simp; done) | (simp; omega)) rfl rfl rfl rfl rfl rfl rfl rfl (by first | omega | (simp only [List.length_append, List.length_cons, List.length_nil, List.length_replicate, List.length_set]; omega) | (simp; omega)) (by first | omega | (simp only [List.length_append, List.length_cons, List.length_nil, List.length_replicate, List.length_set]; omega) | (simp; omega)) ?_))
      intro A11 cp12 hA13
      refine ⟨_, .here, ?_⟩
      refine ⟨Inc.nil, ?_⟩
      refine Aw_q 9 rfl (by kernel_rfl) (by kernel_rfl) (by kernel_rfl) rfl rfl rfl (Qt_assign rfl) ?_
      refine Aw_done (by kernel_rfl) ?_
      refine Cw.settleT Enc.i64 rfl (.here) ?_
      intro K15 hK16 hs17
      have hs18 := hl.mono hK16
      have hl19 := Sl.le hs17
      refine Cw_ret ?_
      refine ⟨(by first | exact .inl rfl | exact .inr rfl), [(.slice A11 (((([] : List Int) ++ (l.take k)) ++ (l.drop (k + 1))).length) cp12)], G, ⟨(.slice A11 (((([] : List Int) ++ (l.take k)) ++ (l.drop (k + 1))).length) cp12), _, rfl, rfl, rfl⟩, .refl _, ?_⟩
      have e : ((([] : List Int) ++ (l.take k)) ++ (l.drop (k + 1))) = l.erase x := by
        obtain ⟨q1, q2⟩ := idxOf_at hj (show l[k]? = some x by simp_all)
        rw [← erase_idx, q2]; simp
      rw [← e]
      exact ⟨_, _, rfl, rfl, hs17⟩
    · intro h4
      have h4 := dcd_f (h4)
      refine Cw_skip ?_
      refine Cw_region ?_
      refine Ow_q rfl rfl rfl (Qt_move rfl) ?_
      refine Ow_q rfl rfl rfl (Qt_arith (e := (((k : Nat) : Int) + 1)) rfl rfl rfl (wrap_eq (by omega) (by omega))) ?_
      refine Ow_q rfl rfl rfl (Qt_assign rfl) ?_
      refine Ow_nil ?_
      refine ⟨_, [(0, (.slice A l.length cp)), (1, (.int .i64 x)), (5, (.int .i64 (((k + 1) : Nat) : Int)))], G, ⟨rfl, rfl, rfl, trivial⟩, (.refl _), (by first | omega | (simp only [List.length_append, List.length_cons, List.length_nil]; omega)), (k + 1), rfl, rfl, rfl, rfl, (by omega), (ne_step hj hx3 (fun e => by simp_all))⟩
  · intro h1
    have h1 := dcd_f (h1)
    refine Cw_exit ?_
    refine Cw_seq ?_
    refine Cw_region ?_
    refine Ow_q rfl rfl rfl (Qt_move rfl) ?_
    refine Ow_q rfl rfl rfl (Qt_assign rfl) ?_
    refine Ow_nil ?_
    refine Cw_ret ?_
    refine ⟨(by first | exact .inl rfl | exact .inr rfl), [(.slice A l.length cp)], G, ⟨(.slice A l.length cp), _, rfl, rfl, rfl⟩, .refl _, ?_⟩
    have e : l = l.erase x := (List.erase_of_not_mem (not_mem_of hj (by omega))).symm
    rw [← e]
    exact ⟨_, _, rfl, rfl, hl⟩

end Go.Ghl
