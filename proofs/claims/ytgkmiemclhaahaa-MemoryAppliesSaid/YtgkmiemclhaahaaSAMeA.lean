/- Contracts of functions, walked: printed by program. -/
import Derived.Test.YtgkmiemclhaahaaProg
import Derived.Test.YtgkmiemclhaahaaGhlMore
import Derived.Test.YtgkmiemclhaahaaSACoM
namespace Go.Ghl
open Go.Proofs
set_option linter.unusedSimpArgs false
set_option linter.unusedVariables false

structure MemIn (K : Kp) (m : Mem) : Prop where
  w : Sl K (.slice m.words.A m.words.l.length m.words.cp) 1 (m.words.l.map u64c)
  l : Sl K (.slice m.lists.A m.lists.l.length m.lists.cp) 1 (m.lists.l.map SI.cells)
  x : ∀ x ∈ m.lists.l, Sl K (.slice x.A x.l.length x.cp) 1 (x.l.map i64c)
theorem MemIn.mono {K K' : Kp} {m : Mem} (h : MemIn K m) (hle : K.le K') : MemIn K' m := ⟨h.w.mono hle, h.l.mono hle, fun x hx => (h.x x hx).mono hle⟩

theorem c_big (m : Mem) (K : Kp) (G : List Ent) (hr : MemIn K m) :
    Fc Try.prog 31 #[(Mem.val m)] K G (fun v K' G' => ∃ r, v = .bool r ∧ K = K' ∧ G = G' ∧ (r = false → m.words.l.length ≤ 40 ∧ m.lists.l.length ≤ 20 ∧ ∀ x ∈ m.lists.l, x.l.length ≤ 40)) := by
  refine Fc_of Try.func31 rfl Try.ntmps31 Try.results31 rfl ?_
  have hrw := Sl.le hr.w
  have hrl := Sl.le hr.l
  refine Cw_seq ?_
  refine Cw_region ?_
  refine Ow_cons rfl (OpW_box (cs := [(.slice m.words.A m.words.l.length m.words.cp), (.slice m.lists.A m.lists.l.length m.lists.cp), (.int .i64 m.tick)]) rfl rfl rfl (fun b1 => ?_))
  refine Ow_q rfl rfl rfl (Qt_assign rfl) ?_
  refine Ow_nil ?_
  refine Cw_seq ?_
  refine Cw_seq ?_
  refine Cw_region ?_
  refine Ow_q rfl rfl rfl (Qt_fieldAddr (m := 0) rfl rfl rfl rfl rfl) ?_
  refine Ow_q rfl rfl rfl (Qt_load1 (v := (.slice m.words.A m.words.l.length m.words.cp)) rfl rfl rfl (Rdc.blk (.head _) rfl)) ?_
  refine Ow_q rfl rfl rfl (Qt_len rfl rfl) ?_
  refine Ow_q rfl rfl rfl (Qt_cmp rfl rfl rfl) ?_
  refine Ow_q rfl rfl rfl (Qt_move rfl) ?_
  refine Ow_caseG rfl rfl rfl ?_ ?_
  · intro h2
    have h2 := dcd_t (h2)
    refine Ow_pass rfl rfl rfl rfl rfl rfl rfl ?_
    refine Ow_pass rfl rfl rfl rfl rfl rfl rfl ?_
    refine Ow_pass rfl rfl rfl rfl rfl rfl rfl ?_
    refine Ow_pass rfl rfl rfl rfl rfl rfl rfl ?_
    refine Ow_q rfl rfl rfl (Qt_pick_t rfl rfl) ?_
    refine Ow_q rfl rfl rfl (Qt_move rfl) ?_
    refine Ow_pass rfl rfl rfl rfl rfl rfl rfl ?_
    refine Ow_pass rfl rfl rfl rfl rfl rfl rfl ?_
    refine Ow_pass rfl rfl rfl rfl rfl rfl rfl ?_
    refine Ow_q rfl rfl rfl (Qt_pick_t rfl rfl) ?_
    refine Ow_nil ?_
    refine Cw_cond_t rfl ?_
    refine Cw_seq ?_
    refine Cw_region ?_
    refine Ow_q rfl rfl rfl (Qt_assign rfl) ?_
    refine Ow_nil ?_
    refine Cw_ret ?_
    refine ⟨(by first | exact .inl rfl | exact .inr rfl), [(.bool true)], G, ⟨(.bool true), _, rfl, rfl, rfl⟩, .cons _ (.refl _), ?_⟩
    exact ⟨true, rfl, rfl, rfl, fun h => by cases h⟩
  · intro h2
    have h2 := dcd_f (h2)
    refine Ow_qw rfl rfl rfl rfl rfl rfl (Qt_fieldAddr (m := 1) rfl rfl rfl rfl rfl) ?_
    refine Ow_qw rfl rfl rfl rfl rfl rfl (Qt_load1 (v := (.slice m.lists.A m.lists.l.length m.lists.cp)) rfl rfl rfl (Rdc.blk (.head _) rfl)) ?_
    refine Ow_qw rfl rfl rfl rfl rfl rfl (Qt_len rfl rfl) ?_
    refine Ow_qw rfl rfl rfl rfl rfl rfl (Qt_cmp rfl rfl rfl) ?_
    refine Ow_q rfl rfl rfl (Qt_pick_f rfl rfl) ?_
    refine Ow_q rfl rfl rfl (Qt_move rfl) ?_
    refine Ow_caseG rfl rfl rfl ?_ ?_
    · intro h3
      have h3 := dcd_t (h3)
      refine Ow_pass rfl rfl rfl rfl rfl rfl rfl ?_
      refine Ow_pass rfl rfl rfl rfl rfl rfl rfl ?_
      refine Ow_pass rfl rfl rfl rfl rfl rfl rfl ?_
      refine Ow_q rfl rfl rfl (Qt_pick_t rfl rfl) ?_
      refine Ow_nil ?_
      refine Cw_cond_t rfl ?_
      refine Cw_seq ?_
      refine Cw_region ?_
      refine Ow_q rfl rfl rfl (Qt_assign rfl) ?_
      refine Ow_nil ?_
      refine Cw_ret ?_
      refine ⟨(by first | exact .inl rfl | exact .inr rfl), [(.bool true)], G, ⟨(.bool true), _, rfl, rfl, rfl⟩, .cons _ (.refl _), ?_⟩
      exact ⟨true, rfl, rfl, rfl, fun h => by cases h⟩
    · intro h3
      have h3 := dcd_f (h3)
      refine Ow_qw rfl rfl rfl rfl rfl rfl (Qt_fieldAddr (m := 2) rfl rfl rfl rfl rfl) ?_
      refine Ow_qw rfl rfl rfl rfl rfl rfl (Qt_load1 (v := (.int .i64 m.tick)) rfl rfl rfl (Rdc.blk (.head _) rfl)) ?_
      refine Ow_qw rfl rfl rfl rfl rfl rfl (Qt_cmp rfl rfl rfl) ?_
      refine Ow_q rfl rfl rfl (Qt_pick_f rfl rfl) ?_
      refine Ow_nil ?_
      refine Cw_cond rfl ?_ ?_
      · intro h4
        have h4 := dcd_t (h4)
        refine Cw_seq ?_
        refine Cw_region ?_
        refine Ow_q rfl rfl rfl (Qt_assign rfl) ?_
        refine Ow_nil ?_
        refine Cw_ret ?_
        refine ⟨(by first | exact .inl rfl | exact .inr rfl), [(.bool true)], G, ⟨(.bool true), _, rfl, rfl, rfl⟩, .cons _ (.refl _), ?_⟩
        exact ⟨true, rfl, rfl, rfl, fun h => by cases h⟩
      · intro h4
        have h4 := dcd_f (h4)
        refine Cw_skip ?_
        refine Cw_seq ?_
        refine Cw_seq ?_
        refine Cw_region ?_
        refine Ow_q rfl rfl rfl (Qt_fieldAddr (m := 1) rfl rfl rfl rfl rfl) ?_
        refine Ow_q rfl rfl rfl (Qt_load1 (v := (.slice m.lists.A m.lists.l.length m.lists.cp)) rfl rfl rfl (Rdc.blk (.head _) rfl)) ?_
        refine Ow_q rfl rfl rfl (Qt_len rfl rfl) ?_
        refine Ow_q rfl rfl rfl (Qt_move rfl) ?_
        refine Ow_nil ?_
        refine Cw_block ?_
        refine Cw_loop (S := Nat) (fun s env' K' G' => ∃ (k : Nat), m.lists.l.length - k = s ∧ [(1, (.pointer (some ((⟨b1, 0, none⟩ : Addr).add 0)))), (21, (.int .i64 ((m.lists.l.length : Nat) : Int))), (22, (.int .i64 ((k : Nat) : Int)))] = env' ∧ K = K' ∧ .blk b1 49 [(.slice m.words.A m.words.l.length m.words.cp), (.slice m.lists.A m.lists.l.length m.lists.cp), (.int .i64 m.tick)] :: G = G' ∧ k ≤ m.lists.l.length ∧ ∀ j, j < k → ∀ x, m.lists.l[j]? = some x → x.l.length ≤ 40) (fun s => s) (m.lists.l.length - 0) [(1, (.pointer (some ((⟨b1, 0, none⟩ : Addr).add 0)))), (21, (.int .i64 ((m.lists.l.length : Nat) : Int))), (22, (.int .i64 ((0 : Nat) : Int)))] (.blk b1 49 [(.slice m.words.A m.words.l.length m.words.cp), (.slice m.lists.A m.lists.l.length m.lists.cp), (.int .i64 m.tick)] :: G)
          ⟨0, rfl, rfl, rfl, rfl, (Nat.zero_le _), (fun j h => absurd h (by omega))⟩ ⟨rfl, rfl, rfl, trivial⟩ (.cons_cons _ (.refl _)) ?_
        rintro s _ _ _ - ⟨k, rfl, rfl, rfl, rfl, hk, hj⟩
        refine Cw_seq ?_
        refine Cw_region ?_
        refine Ow_q rfl rfl rfl (Qt_cmp rfl rfl rfl) ?_
        refine Ow_nil ?_
        refine Cw_seq ?_
        refine Cw_cond rfl ?_ ?_
        · intro h5
          have h5 := dcd_t (h5)
          refine Cw_skip ?_
          refine Cw_seq ?_
          refine Cw_block ?_
          refine Cw_seq ?_
          refine Cw_region ?_
          refine Ow_q rfl rfl rfl (Qt_move rfl) ?_
          refine Ow_q rfl rfl rfl (Qt_assign rfl) ?_
          refine Ow_nil ?_
          refine Cw_seq ?_
          refine Cw_region ?_
          refine Ow_q rfl rfl rfl (Qt_fieldAddr (m := 1) rfl rfl rfl rfl rfl) ?_
          refine Ow_q rfl rfl rfl (Qt_load1 (v := (.slice m.lists.A m.lists.l.length m.lists.cp)) rfl rfl rfl (Rdc.blk (.head _) rfl)) ?_
          refine Ow_q rfl rfl rfl (Qt_move rfl) ?_
          obtain ⟨x6, hx7⟩ : ∃ x, m.lists.l[k]? = some x := ⟨_, List.getElem?_eq_getElem (by first | omega | (simp only [List.length_append, List.length_cons, List.length_nil, List.length_replicate, List.length_set]; omega) | (simp; omega))⟩
          have hs_x6 := hr.x _ (List.mem_of_getElem? hx7)
          have hl8 := Sl.le hs_x6
          refine Ow_q rfl rfl rfl (Qt_ixK (q := k) rfl rfl rfl rfl rfl hr.l rfl (map_get hx7)) ?_
          refine Ow_q rfl rfl rfl (Qt_load1 (v := (.slice x6.A x6.l.length x6.cp)) rfl rfl rfl (Rdc.k (Sl.at hr.l (map_get hx7)) rfl)) ?_
          refine Ow_q rfl rfl rfl (Qt_len rfl rfl) ?_
          refine Ow_q rfl rfl rfl (Qt_cmp rfl rfl rfl) ?_
          refine Ow_nil ?_
          refine Cw_cond rfl ?_ ?_
          · intro h9
            have h9 := dcd_t (h9)
            refine Cw_seq ?_
            refine Cw_region ?_
            refine Ow_q rfl rfl rfl (Qt_assign rfl) ?_
            refine Ow_nil ?_
            refine Cw_ret ?_
            refine ⟨(by first | exact .inl rfl | exact .inr rfl), [(.bool true)], G, ⟨(.bool true), _, rfl, rfl, rfl⟩, .cons _ (.refl _), ?_⟩
            exact ⟨true, rfl, rfl, rfl, fun h => by cases h⟩
          · intro h9
            have h9 := dcd_f (h9)
            refine Cw_skip ?_
            refine Cw_region ?_
            refine Ow_q rfl rfl rfl (Qt_arith (e := (((k : Nat) : Int) + 1)) rfl rfl rfl (wrap_eq (by omega) (by omega))) ?_
            refine Ow_q rfl rfl rfl (Qt_move rfl) ?_
            refine Ow_nil ?_
            refine ⟨_, [(1, (.pointer (some ((⟨b1, 0, none⟩ : Addr).add 0)))), (21, (.int .i64 ((m.lists.l.length : Nat) : Int))), (22, (.int .i64 (((k + 1) : Nat) : Int)))], .blk b1 49 [(.slice m.words.A m.words.l.length m.words.cp), (.slice m.lists.A m.lists.l.length m.lists.cp), (.int .i64 m.tick)] :: G, ⟨rfl, rfl, rfl, trivial⟩, (.cons_cons _ (.refl _)), (by first | omega | (simp only [List.length_append, List.length_cons, List.length_nil]; omega)), (k + 1), rfl, rfl, rfl, rfl, (by omega), (fun j hj2 x hx => by by_cases e : j = k; (· subst e; rw [hx7] at hx; cases hx; omega); exact hj j (by omega) x hx)⟩
        · intro h5
          have h5 := dcd_f (h5)
          refine Cw_exit ?_
          refine Cw_seq ?_
          refine Cw_region ?_
          refine Ow_q rfl rfl rfl (Qt_assign rfl) ?_
          refine Ow_nil ?_
          refine Cw_ret ?_
          refine ⟨(by first | exact .inl rfl | exact .inr rfl), [(.bool false)], G, ⟨(.bool false), _, rfl, rfl, rfl⟩, .cons _ (.refl _), ?_⟩
          exact ⟨false, rfl, rfl, rfl, fun _ => ⟨by omega, by omega, fun x hx => by obtain ⟨j, hj1, e⟩ := List.mem_iff_getElem.1 hx; exact hj j (by omega) x (by rw [List.getElem?_eq_getElem hj1, e])⟩⟩

set_option maxHeartbeats 2000000 in
theorem c_memoryApplies (raw : Mem) (a : Access) (A : Option Addr) (cp : Nat) (cl : List UInt8) (K : Kp) (G : List Ent) (hr : MemIn K raw) (hcl : Sl K (.slice A cl.length cp) 1 (cl.map u8c)) :
    Fc Try.prog 6 #[(Mem.val raw), (Access.val a), (.slice A cl.length cp)] K G (fun v K' G' => v = .bool true) := by
  refine Fc_of Try.func6 rfl Try.ntmps6 Try.results6 rfl ?_
  refine Cw_seq ?_
  refine Cw_region ?_
  refine Ow_cons rfl (OpW_box (cs := [(.slice raw.words.A raw.words.l.length raw.words.cp), (.slice raw.lists.A raw.lists.l.length raw.lists.cp), (.int .i64 raw.tick)]) rfl rfl rfl (fun b1 => ?_))
  refine Ow_cons rfl (OpW_box (cs := [(.int .i64 a.kind), (.int .i64 a.address), (.int .u64 a.old), (.int .u64 a.new), (.int .i64 a.until_)]) rfl rfl rfl (fun b2 => ?_))
  refine Ow_q rfl rfl rfl (Qt_assign rfl) ?_
  refine Ow_nil ?_
  refine Cw_seq ?_
  refine Cw_seq ?_
  refine Cw_region ?_
  refine Ow_cons rfl (OpW_call rfl Try.call30 rfl rfl (c_awake4 _ _) ?_)
  rintro _ K3 _ hK4 ⟨rfl, rfl⟩
  have hs5 := hr.mono hK4
  have hs6 := hcl.mono hK4
  refine Ow_q rfl rfl rfl (Qt_not rfl) ?_
  refine Ow_nil ?_
  refine Cw_cond_f rfl ?_
  refine Cw_skip ?_
  refine Cw_seq ?_
  refine Cw_seq ?_
  refine Cw_region ?_
  refine Ow_q rfl rfl rfl (Qt_loadA (m := 3) (cs := Mem.cells raw) rfl rfl rfl rfl ⟨rfl, Rdc.blk (.tail _ (.head _)) rfl⟩) ?_
  refine Ow_cons rfl (OpW_call rfl Try.call31 rfl rfl (c_big raw _ _ hs5) ?_)
  rintro _ _ _ - ⟨r7, rfl, rfl, rfl, hb8⟩
  refine Ow_nil ?_
  refine Cw_cond rfl ?_ ?_
  · intro h9
    refine Cw_seq ?_
    refine Cw_region ?_
    refine Ow_q rfl rfl rfl (Qt_assign rfl) ?_
    refine Ow_nil ?_
    refine Cw_ret ?_
    refine ⟨(by first | exact .inl rfl | exact .inr rfl), [(.bool true)], G, ⟨(.bool true), _, rfl, rfl, rfl⟩, .cons _ (.cons _ (.refl _)), ?_⟩
    first | rfl | (exfalso; omega) | (exfalso; simp_all; done) | (simp_all [mkRes]; done)
  · intro h9
    refine Cw_skip ?_
    refine Cw_seq ?_
    have hb5 := hb8 (by assumption)
    have hm : MemOk K3 raw := ⟨hs5.w, hs5.l, fun x hx => ⟨hs5.x x hx, by have := hb5.2.2 x hx; omega⟩, by omega, by omega⟩
    have hmw := Sl.le hm.w
    have hml := Sl.le hm.l
    have hmzw := hm.zw
    have hmzl := hm.zl
    refine Cw_region ?_
    refine Ow_q rfl rfl rfl (Qt_move rfl) ?_
    have hs11 := Sl.takeN 120 hs6
    refine Ow_cons rfl (OpW_call rfl Try.call14 rfl rfl (c_new A cp cl 120 _ _ hs6) ?_)
    rintro _ _ _ - ⟨b10, rfl, rfl, rfl⟩
    refine Ow_q rfl rfl rfl (Qt_assign rfl) ?_
    refine Ow_nil ?_
    refine Cw_seq ?_
    refine Cw_region ?_
    refine Ow_q rfl rfl rfl (Qt_move rfl) ?_
    refine Ow_cons rfl (OpW_call rfl Try.call32 rfl rfl (Fc.move [] (.blk b2 24 [(.int .i64 a.kind), (.int .i64 a.address), (.int .u64 a.old), (.int .u64 a.new), (.int .i64 a.until_)] :: .blk b1 49 [(.slice raw.words.A raw.words.l.length raw.words.cp), (.slice raw.lists.A raw.lists.l.length raw.lists.cp), (.int .i64 raw.tick)] :: G) rfl fun G1 => c_memory b10 A cp (Cd.mk (cl.take 120) 0 0) _ G1 hs11) ?_)
    rintro _ K14 _ hK15 ⟨_, _, rfl, m12, at13, rfl, rfl, rfl, hm16, hz17, hz18, hz19, hz20⟩
    have hs21 := hs5.mono hK15
    have hs22 := hs6.mono hK15
    have hs23 := hm.mono hK15
    have hs24 := hs11.mono hK15
    have hm16w := Sl.le hm16.w
    have hm16l := Sl.le hm16.l
    have hm16zw := hm16.zw
    have hm16zl := hm16.zl
    refine Ow_cons rfl (OpW_alloc (cs := [(.slice none 0 0), (.slice none 0 0), (.int .i64 0)]) rfl rfl rfl rfl (fun b25 => ?_))
    refine Ow_cons rfl (OpW_store (vs := [(.slice m12.words.A m12.words.l.length m12.words.cp), (.slice m12.lists.A m12.lists.l.length m12.lists.cp), (.int .i64 m12.tick)]) (all' := [(.slice m12.words.A m12.words.l.length m12.words.cp), (.slice m12.lists.A m12.lists.l.length m12.lists.cp), (.int .i64 m12.tick)]) rfl rfl rfl rfl rfl .here rfl rfl rfl ?_)
    refine Ow_nil ?_
    refine Cw_seq ?_
    refine Cw_seq ?_
    refine Cw_region ?_
    refine Ow_q rfl rfl rfl (Qt_assign rfl) ?_
    refine Ow_nil ?_
    refine Cw_block ?_
    refine Cw_loop (S := Nat) (fun s env' K' G' => ∃ (k : Nat) (m : Mem) (at1 : Nat), 12 - k = s ∧ [(3, (.pointer (some ((⟨b1, 0, none⟩ : Addr).add 0)))), (4, (.pointer (some ((⟨b2, 0, none⟩ : Addr).add 0)))), (7, (.pointer (some ((⟨b10, 0, none⟩ : Addr).add 0)))), (8, (.pointer (some ((⟨b25, 0, none⟩ : Addr).add 0)))), (9, (.int .i64 ((k : Nat) : Int)))] = env' ∧ .blk b25 49 [(.slice m.words.A m.words.l.length m.words.cp), (.slice m.lists.A m.lists.l.length m.lists.cp), (.int .i64 m.tick)] :: .blk b10 70 [(.slice A ((Cd.mk (Cd.mk (Cd.mk (cl.take 120) 0 0).list at13 (Cd.mk (cl.take 120) 0 0).value).list at1 (Cd.mk (Cd.mk (cl.take 120) 0 0).list at13 (Cd.mk (cl.take 120) 0 0).value).value).list.length) cp), (.int .i64 (((Cd.mk (Cd.mk (Cd.mk (cl.take 120) 0 0).list at13 (Cd.mk (cl.take 120) 0 0).value).list at1 (Cd.mk (Cd.mk (cl.take 120) 0 0).list at13 (Cd.mk (cl.take 120) 0 0).value).value).at_ : Nat) : Int)), (.int .u64 ((Cd.mk (Cd.mk (Cd.mk (cl.take 120) 0 0).list at13 (Cd.mk (cl.take 120) 0 0).value).list at1 (Cd.mk (Cd.mk (cl.take 120) 0 0).list at13 (Cd.mk (cl.take 120) 0 0).value).value).value))] :: .blk b2 24 [(.int .i64 a.kind), (.int .i64 a.address), (.int .u64 a.old), (.int .u64 a.new), (.int .i64 a.until_)] :: .blk b1 49 [(.slice raw.words.A raw.words.l.length raw.words.cp), (.slice raw.lists.A raw.lists.l.length raw.lists.cp), (.int .i64 raw.tick)] :: G = G' ∧ k ≤ 12 ∧ MemOk K' m) (fun s => s) (12 - 0) [(3, (.pointer (some ((⟨b1, 0, none⟩ : Addr).add 0)))), (4, (.pointer (some ((⟨b2, 0, none⟩ : Addr).add 0)))), (7, (.pointer (some ((⟨b10, 0, none⟩ : Addr).add 0)))), (8, (.pointer (some ((⟨b25, 0, none⟩ : Addr).add 0)))), (9, (.int .i64 ((0 : Nat) : Int)))] (.blk b25 49 [(.slice m12.words.A m12.words.l.length m12.words.cp), (.slice m12.lists.A m12.lists.l.length m12.lists.cp), (.int .i64 m12.tick)] :: .blk b10 70 [(.slice A ((Cd.mk (Cd.mk (Cd.mk (cl.take 120) 0 0).list at13 (Cd.mk (cl.take 120) 0 0).value).list ((Cd.mk (Cd.mk (cl.take 120) 0 0).list at13 (Cd.mk (cl.take 120) 0 0).value).at_) (Cd.mk (Cd.mk (cl.take 120) 0 0).list at13 (Cd.mk (cl.take 120) 0 0).value).value).list.length) cp), (.int .i64 (((Cd.mk (Cd.mk (Cd.mk (cl.take 120) 0 0).list at13 (Cd.mk (cl.take 120) 0 0).value).list ((Cd.mk (Cd.mk (cl.take 120) 0 0).list at13 (Cd.mk (cl.take 120) 0 0).value).at_) (Cd.mk (Cd.mk (cl.take 120) 0 0).list at13 (Cd.mk (cl.take 120) 0 0).value).value).at_ : Nat) : Int)), (.int .u64 ((Cd.mk (Cd.mk (Cd.mk (cl.take 120) 0 0).list at13 (Cd.mk (cl.take 120) 0 0).value).list ((Cd.mk (Cd.mk (cl.take 120) 0 0).list at13 (Cd.mk (cl.take 120) 0 0).value).at_) (Cd.mk (Cd.mk (cl.take 120) 0 0).list at13 (Cd.mk (cl.take 120) 0 0).value).value).value))] :: .blk b2 24 [(.int .i64 a.kind), (.int .i64 a.address), (.int .u64 a.old), (.int .u64 a.new), (.int .i64 a.until_)] :: .blk b1 49 [(.slice raw.words.A raw.words.l.length raw.words.cp), (.slice raw.lists.A raw.lists.l.length raw.lists.cp), (.int .i64 raw.tick)] :: G)
      ⟨0, m12, (Cd.mk (Cd.mk (cl.take 120) 0 0).list at13 (Cd.mk (cl.take 120) 0 0).value).at_, rfl, rfl, rfl, (Nat.zero_le _), hm16⟩ ⟨rfl, rfl, rfl, rfl, rfl, trivial⟩ (.cons_cons _ (.cons_cons _ (.cons_cons _ (.cons_cons _ (.refl _))))) ?_
    rintro s _ K26 _ hK27 ⟨k, m, at1, rfl, rfl, rfl, hk, hm8⟩
    have hs28 := hs21.mono hK27
    have hs29 := hs22.mono hK27
    have hs30 := hs23.mono hK27
    have hs31 := hs24.mono hK27
    have hs32 := hm16.mono hK27
    have hm8w := Sl.le hm8.w
    have hm8l := Sl.le hm8.l
    have hm8zw := hm8.zw
    have hm8zl := hm8.zl
    refine Cw_seq ?_
    refine Cw_seq ?_
    refine Cw_region ?_
    refine Ow_q rfl rfl rfl (Qt_move rfl) ?_
    refine Ow_q rfl rfl rfl (Qt_cmp rfl rfl rfl) ?_
    refine Ow_nil ?_
    refine Cw_cond rfl ?_ ?_
    · intro h33
      have h33 := dcd_t (h33)
      refine Cw_skip ?_
      refine Cw_seq ?_
      refine Cw_block ?_
      refine Cw_seq ?_
      refine Cw_region ?_
      refine Ow_q rfl rfl rfl (Qt_move rfl) ?_
      refine Ow_q rfl rfl rfl (Qt_loadA (m := 3) (cs := Mem.cells m) rfl rfl rfl rfl ⟨rfl, Rdc.blk (.head _) rfl⟩) ?_
      refine Ow_cons rfl (OpW_call rfl Try.call33 rfl rfl (Fc.move [.blk b25 49 [(.slice m.words.A m.words.l.length m.words.cp), (.slice m.lists.A m.lists.l.length m.lists.cp), (.int .i64 m.tick)]] (.blk b2 24 [(.int .i64 a.kind), (.int .i64 a.address), (.int .u64 a.old), (.int .u64 a.new), (.int .i64 a.until_)] :: .blk b1 49 [(.slice raw.words.A raw.words.l.length raw.words.cp), (.slice raw.lists.A raw.lists.l.length raw.lists.cp), (.int .i64 raw.tick)] :: G) rfl fun G1 => c_access b10 A cp (Cd.mk (Cd.mk (Cd.mk (cl.take 120) 0 0).list at13 (Cd.mk (cl.take 120) 0 0).value).list at1 (Cd.mk (Cd.mk (cl.take 120) 0 0).list at13 (Cd.mk (cl.take 120) 0 0).value).value) m _ G1 hs31 hm8) ?_)
      rintro _ _ _ - ⟨_, _, rfl, a34, at35, rfl, rfl, rfl, rfl⟩
      refine Ow_cons rfl (OpW_alloc (cs := [(.int .i64 0), (.int .i64 0), (.int .u64 0), (.int .u64 0), (.int .i64 0)]) rfl rfl rfl rfl (fun b36 => ?_))
      refine Ow_cons rfl (OpW_store (vs := [(.int .i64 a34.kind), (.int .i64 a34.address), (.int .u64 a34.old), (.int .u64 a34.new), (.int .i64 a34.until_)]) (all' := [(.int .i64 a34.kind), (.int .i64 a34.address), (.int .u64 a34.old), (.int .u64 a34.new), (.int .i64 a34.until_)]) rfl rfl rfl rfl rfl .here rfl rfl rfl ?_)
      refine Ow_nil ?_
      refine Cw_seq ?_
      refine Cw_seq ?_
      refine Cw_region ?_
      refine Ow_q rfl rfl rfl (Qt_move rfl) ?_
      refine Ow_q rfl rfl rfl (Qt_cmp rfl rfl rfl) ?_
      refine Ow_nil ?_
      refine Cw_cond rfl ?_ ?_
      · intro h37
        have h37 := dcd_t (h37)
        refine Cw_region ?_
        refine Ow_q rfl rfl rfl (Qt_loadA (m := 5) (cs := Access.cells a) rfl rfl rfl rfl ⟨rfl, Rdc.blk (.tail _ (.tail _ (.tail _ (.head _)))) rfl⟩) ?_
        refine Ow_cons rfl (OpW_store (vs := [(.int .i64 a.kind), (.int .i64 a.address), (.int .u64 a.old), (.int .u64 a.new), (.int .i64 a.until_)]) (all' := [(.int .i64 a.kind), (.int .i64 a.address), (.int .u64 a.old), (.int .u64 a.new), (.int .i64 a.until_)]) rfl rfl rfl rfl rfl .here rfl rfl rfl ?_)
        refine Ow_nil ?_
        refine Cw_seq ?_
        refine Cw_region ?_
        refine Ow_q rfl rfl rfl (Qt_loadA (m := 3) (cs := Mem.cells m) rfl rfl rfl rfl ⟨rfl, Rdc.blk (.tail _ (.head _)) rfl⟩) ?_
        refine Ow_q rfl rfl rfl (Qt_loadA (m := 5) (cs := Access.cells a) rfl rfl rfl rfl ⟨rfl, Rdc.blk (.head _) rfl⟩) ?_
        refine Ow_cons rfl (OpW_call rfl Try.call34 rfl rfl (c_apply m a _ _ hm8) ?_)
        rintro _ K40 _ hK41 ⟨m38, b39, rfl, rfl, hm42, hb43, he44⟩
        have he441 : m38.abs = (applyS m.abs a).1 := by rw [← he44]
        have he442 : b39.abs = (applyS m.abs a).2 := by rw [← he44]
        have hs45 := hs28.mono hK41
        have hs46 := hs29.mono hK41
        have hs47 := hs30.mono hK41
        have hs48 := hs31.mono hK41
        have hs49 := hs32.mono hK41
        have hs50 := hm8.mono hK41
        have hm42w := Sl.le hm42.w
        have hm42l := Sl.le hm42.l
        have hm42zw := hm42.zw
        have hm42zl := hm42.zl
        refine Ow_q rfl rfl rfl (Qt_move rfl) ?_
        refine Ow_q rfl rfl rfl (Qt_extract rfl rfl) ?_
        refine Ow_q rfl rfl rfl (Qt_extract rfl rfl) ?_
        refine Ow_q rfl rfl rfl (Qt_extract rfl rfl) ?_
        refine Ow_cons rfl (OpW_alloc (cs := [(.slice none 0 0), (.slice none 0 0), (.int .i64 0)]) rfl rfl rfl rfl (fun b51 => ?_))
        refine Ow_cons rfl (OpW_alloc (cs := [(.int .u64 0), (.bool false), (.bool false), (.slice none 0 0)]) rfl rfl rfl rfl (fun b52 => ?_))
        refine Ow_cons rfl (OpW_store (vs := [(.slice m38.words.A m38.words.l.length m38.words.cp), (.slice m38.lists.A m38.lists.l.length m38.lists.cp), (.int .i64 m38.tick)]) (all' := [(.slice m38.words.A m38.words.l.length m38.words.cp), (.slice m38.lists.A m38.lists.l.length m38.lists.cp), (.int .i64 m38.tick)]) rfl rfl rfl rfl rfl (.there .here) rfl rfl rfl ?_)
        refine Ow_cons rfl (OpW_store (vs := [(.int .u64 b39.value), (.bool b39.ok), (.bool b39.late), (.slice b39.list.A b39.list.l.length b39.list.cp)]) (all' := [(.int .u64 b39.value), (.bool b39.ok), (.bool b39.late), (.slice b39.list.A b39.list.l.length b39.list.cp)]) rfl rfl rfl rfl rfl .here rfl rfl rfl ?_)
        refine Ow_q rfl rfl rfl (Qt_assign rfl) ?_
        refine Ow_nil ?_
        refine Cw_seq ?_
        refine Cw_region ?_
        refine Ow_q rfl rfl rfl (Qt_loadA (m := 3) (cs := Mem.cells m) rfl rfl rfl rfl ⟨rfl, Rdc.blk (.tail _ (.tail _ (.tail _ (.head _)))) rfl⟩) ?_
        refine Ow_q rfl rfl rfl (Qt_loadA (m := 5) (cs := Access.cells a) rfl rfl rfl rfl ⟨rfl, Rdc.blk (.tail _ (.tail _ (.head _))) rfl⟩) ?_
        refine Ow_cons rfl (OpW_call rfl Try.call35 rfl rfl (c_applyR m a _ _ hs50) ?_)
        rintro _ K55 _ hK56 ⟨m53, b54, rfl, rfl, hm57, hb58, he59⟩
        have he591 : m53.abs = (applyS m.abs a).1 := by rw [← he59]
        have he592 : b54.abs = (applyS m.abs a).2 := by rw [← he59]
        have hs60 := hs45.mono hK56
        have hs61 := hs46.mono hK56
        have hs62 := hs47.mono hK56
        have hs63 := hs48.mono hK56
        have hs64 := hs49.mono hK56
        have hs65 := hs50.mono hK56
        have hs66 := hb43.mono hK56
        have hs67 := hm42.mono hK56
        have hm57w := Sl.le hm57.w
        have hm57l := Sl.le hm57.l
        have hm57zw := hm57.zw
        have hm57zl := hm57.zl
        refine Ow_q rfl rfl rfl (Qt_move rfl) ?_
        refine Ow_q rfl rfl rfl (Qt_extract rfl rfl) ?_
        refine Ow_q rfl rfl rfl (Qt_extract rfl rfl) ?_
        refine Ow_q rfl rfl rfl (Qt_extract rfl rfl) ?_
        refine Ow_cons rfl (OpW_alloc (cs := [(.slice none 0 0), (.slice none 0 0), (.int .i64 0)]) rfl rfl rfl rfl (fun b68 => ?_))
        refine Ow_cons rfl (OpW_alloc (cs := [(.int .u64 0), (.bool false), (.bool false), (.slice none 0 0)]) rfl rfl rfl rfl (fun b69 => ?_))
        refine Ow_cons rfl (OpW_store (vs := [(.slice m53.words.A m53.words.l.length m53.words.cp), (.slice m53.lists.A m53.lists.l.length m53.lists.cp), (.int .i64 m53.tick)]) (all' := [(.slice m53.words.A m53.words.l.length m53.words.cp), (.slice m53.lists.A m53.lists.l.length m53.lists.cp), (.int .i64 m53.tick)]) rfl rfl rfl rfl rfl (.there .here) rfl rfl rfl ?_)
        refine Ow_cons rfl (OpW_store (vs := [(.int .u64 b54.value), (.bool b54.ok), (.bool b54.late), (.slice b54.list.A b54.list.l.length b54.list.cp)]) (all' := [(.int .u64 b54.value), (.bool b54.ok), (.bool b54.late), (.slice b54.list.A b54.list.l.length b54.list.cp)]) rfl rfl rfl rfl rfl .here rfl rfl rfl ?_)
        refine Ow_q rfl rfl rfl (Qt_assign rfl) ?_
        refine Ow_nil ?_
        refine Cw_seq ?_
        refine Cw_seq ?_
        refine Cw_region_any [.blk b69 40 [(.int .u64 b54.value), (.bool b54.ok), (.bool b54.late), (.slice b54.list.A b54.list.l.length b54.list.cp)], .blk b68 49 [(.slice m53.words.A m53.words.l.length m53.words.cp), (.slice m53.lists.A m53.lists.l.length m53.lists.cp), (.int .i64 m53.tick)], .blk b52 40 [(.int .u64 b39.value), (.bool b39.ok), (.bool b39.late), (.slice b39.list.A b39.list.l.length b39.list.cp)], .blk b51 49 [(.slice m38.words.A m38.words.l.length m38.words.cp), (.slice m38.lists.A m38.lists.l.length m38.lists.cp), (.int .i64 m38.tick)], .blk b36 24 [(.int .i64 a.kind), (.int .i64 a.address), (.int .u64 a.old), (.int .u64 a.new), (.int .i64 a.until_)], .blk b25 49 [(.slice m.words.A m.words.l.length m.words.cp), (.slice m.lists.A m.lists.l.length m.lists.cp), (.int .i64 m.tick)], .blk b10 70 [(.slice A ((Cd.mk (Cd.mk (Cd.mk (Cd.mk (cl.take 120) 0 0).list at13 (Cd.mk (cl.take 120) 0 0).value).list at1 (Cd.mk (Cd.mk (cl.take 120) 0 0).list at13 (Cd.mk (cl.take 120) 0 0).value).value).list at35 (Cd.mk (Cd.mk (Cd.mk (cl.take 120) 0 0).list at13 (Cd.mk (cl.take 120) 0 0).value).list at1 (Cd.mk (Cd.mk (cl.take 120) 0 0).list at13 (Cd.mk (cl.take 120) 0 0).value).value).value).list.length) cp), (.int .i64 (((Cd.mk (Cd.mk (Cd.mk (Cd.mk (cl.take 120) 0 0).list at13 (Cd.mk (cl.take 120) 0 0).value).list at1 (Cd.mk (Cd.mk (cl.take 120) 0 0).list at13 (Cd.mk (cl.take 120) 0 0).value).value).list at35 (Cd.mk (Cd.mk (Cd.mk (cl.take 120) 0 0).list at13 (Cd.mk (cl.take 120) 0 0).value).list at1 (Cd.mk (Cd.mk (cl.take 120) 0 0).list at13 (Cd.mk (cl.take 120) 0 0).value).value).value).at_ : Nat) : Int)), (.int .u64 ((Cd.mk (Cd.mk (Cd.mk (Cd.mk (cl.take 120) 0 0).list at13 (Cd.mk (cl.take 120) 0 0).value).list at1 (Cd.mk (Cd.mk (cl.take 120) 0 0).list at13 (Cd.mk (cl.take 120) 0 0).value).value).list at35 (Cd.mk (Cd.mk (Cd.mk (cl.take 120) 0 0).list at13 (Cd.mk (cl.take 120) 0 0).value).list at1 (Cd.mk (Cd.mk (cl.take 120) 0 0).list at13 (Cd.mk (cl.take 120) 0 0).value).value).value).value))], .blk b2 24 [(.int .i64 a.kind), (.int .i64 a.address), (.int .u64 a.old), (.int .u64 a.new), (.int .i64 a.until_)], .blk b1 49 [(.slice raw.words.A raw.words.l.length raw.words.cp), (.slice raw.lists.A raw.lists.l.length raw.lists.cp), (.int .i64 raw.tick)]] rfl (Inc.cons (.head _) (Inc.cons (.tail _ (.head _)) (Inc.cons (.tail _ (.tail _ (.head _))) (Inc.cons (.tail _ (.tail _ (.tail _ (.head _)))) (Inc.cons (.tail _ (.tail _ (.tail _ (.tail _ (.head _))))) (Inc.cons (.tail _ (.tail _ (.tail _ (.tail _ (.tail _ (.head _)))))) (Inc.cons (.tail _ (.tail _ (.tail _ (.tail _ (.tail _ (.tail _ (.head _))))))) (Inc.cons (.tail _ (.tail _ (.tail _ (.tail _ (.tail _ (.tail _ (.tail _ (.head _)))))))) (Inc.cons (.tail _ (.tail _ (.tail _ (.tail _ (.tail _ (.tail _ (.tail _ (.tail _ (.head _))))))))) Inc.nil))))))))) ?_
        refine Aw_q 0 rfl (by kernel_rfl) (by kernel_rfl) (by kernel_rfl) rfl rfl rfl (Qt_loadA (m := 3) (cs := Mem.cells m) rfl rfl rfl rfl ⟨rfl, Rdc.blk (.tail _ (.tail _ (.tail _ (.tail _ (.tail _ (.head _)))))) rfl⟩) ?_
        refine Aw_q 1 rfl (by kernel_rfl) (by kernel_rfl) (by kernel_rfl) rfl rfl rfl (Qt_loadA (m := 5) (cs := Access.cells a) rfl rfl rfl rfl ⟨rfl, Rdc.blk (.tail _ (.tail _ (.tail _ (.tail _ (.head _))))) rfl⟩) ?_
        refine Aw_q 3 rfl (by kernel_rfl) (by kernel_rfl) (by kernel_rfl) rfl rfl rfl (Qt_loadA (m := 3) (cs := Mem.cells m) rfl rfl rfl rfl ⟨rfl, Rdc.blk (.tail _ (.tail _ (.tail _ (.tail _ (.tail _ (.head _)))))) rfl⟩) ?_
        refine Aw_q 4 rfl (by kernel_rfl) (by kernel_rfl) (by kernel_rfl) rfl rfl rfl (Qt_loadA (m := 5) (cs := Access.cells a) rfl rfl rfl rfl ⟨rfl, Rdc.blk (.tail _ (.tail _ (.tail _ (.tail _ (.head _))))) rfl⟩) ?_
        refine Aw_one 2 (by kernel_rfl) (Ax_mk rfl rfl (OpW_callP (v0 := (.bool (grantedS m.abs a))) rfl Try.call36 rfl rfl (c_granted m a _ _ hs65) ⟨(Inc.cons (.head _) (Inc.cons (.tail _ (.head _)) (Inc.cons (.tail _ (.tail _ (.head _))) (Inc.cons (.tail _ (.tail _ (.tail _ (.head _)))) (Inc.cons (.tail _ (.tail _ (.tail _ (.tail _ (.head _))))) (Inc.cons (.tail _ (.tail _ (.tail _ (.tail _ (.tail _ (.head _)))))) (Inc.cons (.tail _ (.tail _ (.tail _ (.tail _ (.tail _ (.tail _ (.head _))))))) (Inc.cons (.tail _ (.tail _ (.tail _ (.tail _ (.tail _ (.tail _ (.tail _ (.head _)))))))) (Inc.cons (.tail _ (.tail _ (.tail _ (.tail _ (.tail _ (.tail _ (.tail _ (.tail _ (.head _))))))))) Inc.nil))))))))), ?_⟩))
        refine Aw_one 5 (by kernel_rfl) (Ax_mk rfl rfl (OpW_callP (v0 := (.bool (grantedS m.abs a))) rfl Try.call37 rfl rfl (c_grantedR m a _ _ hs65) ⟨(Inc.cons (.head _) (Inc.cons (.tail _ (.head _)) (Inc.cons (.tail _ (.tail _ (.head _))) (Inc.cons (.tail _ (.tail _ (.tail _ (.head _)))) (Inc.cons (.tail _ (.tail _ (.tail _ (.tail _ (.head _))))) (Inc.cons (.tail _ (.tail _ (.tail _ (.tail _ (.tail _ (.head _)))))) (Inc.cons (.tail _ (.tail _ (.tail _ (.tail _ (.tail _ (.tail _ (.head _))))))) (Inc.cons (.tail _ (.tail _ (.tail _ (.tail _ (.tail _ (.tail _ (.tail _ (.head _)))))))) (Inc.cons (.tail _ (.tail _ (.tail _ (.tail _ (.tail _ (.tail _ (.tail _ (.tail _ (.head _))))))))) Inc.nil))))))))), ?_⟩))
        refine Aw_q 6 rfl (by kernel_rfl) (by kernel_rfl) (by kernel_rfl) rfl rfl rfl (Qt_neB rfl rfl rfl) ?_
        refine Aw_q 7 rfl (by kernel_rfl) (by kernel_rfl) (by kernel_rfl) rfl rfl rfl (Qt_move rfl) ?_
        refine Aw.known (d := 62) rfl (nt_mf (beq_self_eq_true _)) ?_
        refine Aw_qw 8 rfl (by kernel_rfl) (by kernel_rfl) (by kernel_rfl) rfl rfl rfl rfl rfl rfl (Qt_move rfl) ?_
        refine Aw_qw 9 rfl (by kernel_rfl) (by kernel_rfl) (by kernel_rfl) rfl rfl rfl rfl rfl rfl (Qt_move rfl) ?_
        refine Aw_qw 10 rfl (by kernel_rfl) (by kernel_rfl) (by kernel_rfl) rfl rfl rfl rfl rfl rfl (Qt_neB rfl rfl rfl) ?_
        refine Aw_q 11 rfl (by kernel_rfl) (by kernel_rfl) (by kernel_rfl) rfl rfl rfl (Qt_pick_f rfl rfl) ?_
        refine Aw_q 12 rfl (by kernel_rfl) (by kernel_rfl) (by kernel_rfl) rfl rfl rfl (Qt_move rfl) ?_
        refine Aw.known (d := 67) rfl (nt_mf (beq_self_eq_true _)) ?_
        refine Aw_qw 13 rfl (by kernel_rfl) (by kernel_rfl) (by kernel_rfl) rfl rfl rfl rfl rfl rfl (Qt_loadA (m := 3) (cs := Mem.cells m38) rfl rfl rfl rfl ⟨rfl, Rdc.blk (.tail _ (.tail _ (.tail _ (.head _)))) rfl⟩) ?_
        refine Aw_qw 14 rfl (by kernel_rfl) (by kernel_rfl) (by kernel_rfl) rfl rfl rfl rfl rfl rfl (Qt_loadA (m := 3) (cs := Mem.cells m53) rfl rfl rfl rfl ⟨rfl, Rdc.blk (.tail _ (.head _)) rfl⟩) ?_
        refine Aw_one 15 (by kernel_rfl) (Ax_mkw rfl rfl rfl rfl rfl (OpW_callP (v0 := (.bool (decide (m38.abs = m53.abs)))) rfl Try.call38 rfl rfl (c_sameMem m38 m53 _ _ hs67 hm57) ⟨(Inc.cons (.head _) (Inc.cons (.tail _ (.head _)) (Inc.cons (.tail _ (.tail _ (.head _))) (Inc.cons (.tail _ (.tail _ (.tail _ (.head _)))) (Inc.cons (.tail _ (.tail _ (.tail _ (.tail _ (.head _))))) (Inc.cons (.tail _ (.tail _ (.tail _ (.tail _ (.tail _ (.head _)))))) (Inc.cons (.tail _ (.tail _ (.tail _ (.tail _ (.tail _ (.tail _ (.head _))))))) (Inc.cons (.tail _ (.tail _ (.tail _ (.tail _ (.tail _ (.tail _ (.tail _ (.head _)))))))) (Inc.cons (.tail _ (.tail _ (.tail _ (.tail _ (.tail _ (.tail _ (.tail _ (.tail _ (.head _))))))))) Inc.nil))))))))), ?_⟩))
        refine Aw_qw 16 rfl (by kernel_rfl) (by kernel_rfl) (by kernel_rfl) rfl rfl rfl rfl rfl rfl (Qt_not rfl) ?_
        refine Aw_q 17 rfl (by kernel_rfl) (by kernel_rfl) (by kernel_rfl) rfl rfl rfl (Qt_pick_f rfl rfl) ?_
        refine Aw_q 18 rfl (by kernel_rfl) (by kernel_rfl) (by kernel_rfl) rfl rfl rfl (Qt_move rfl) ?_
        refine Aw.known (d := 73) rfl (nt_mf (decide_eq_true (he441.trans he591.symm))) ?_
        refine Aw_qw 19 rfl (by kernel_rfl) (by kernel_rfl) (by kernel_rfl) rfl rfl rfl rfl rfl rfl (Qt_loadA (m := 4) (cs := Answer.cells b39) rfl rfl rfl rfl ⟨rfl, Rdc.blk (.tail _ (.tail _ (.head _))) rfl⟩) ?_
        refine Aw_qw 20 rfl (by kernel_rfl) (by kernel_rfl) (by kernel_rfl) rfl rfl rfl rfl rfl rfl (Qt_loadA (m := 4) (cs := Answer.cells b54) rfl rfl rfl rfl ⟨rfl, Rdc.blk (.head _) rfl⟩) ?_
        refine Aw_one 21 (by kernel_rfl) (Ax_mkw rfl rfl rfl rfl rfl (OpW_callP (v0 := (.bool (decide (b39.abs = b54.abs)))) rfl Try.call39 rfl rfl (c_sameAns b39 b54 _ _ hs66 hb58) ⟨(Inc.cons (.head _) (Inc.cons (.tail _ (.head _)) (Inc.cons (.tail _ (.tail _ (.head _))) (Inc.cons (.tail _ (.tail _ (.tail _ (.head _)))) (Inc.cons (.tail _ (.tail _ (.tail _ (.tail _ (.head _))))) (Inc.cons (.tail _ (.tail _ (.tail _ (.tail _ (.tail _ (.head _)))))) (Inc.cons (.tail _ (.tail _ (.tail _ (.tail _ (.tail _ (.tail _ (.head _))))))) (Inc.cons (.tail _ (.tail _ (.tail _ (.tail _ (.tail _ (.tail _ (.tail _ (.head _)))))))) (Inc.cons (.tail _ (.tail _ (.tail _ (.tail _ (.tail _ (.tail _ (.tail _ (.tail _ (.head _))))))))) Inc.nil))))))))), ?_⟩))
        refine Aw_qw 22 rfl (by kernel_rfl) (by kernel_rfl) (by kernel_rfl) rfl rfl rfl rfl rfl rfl (Qt_not rfl) ?_
        refine Aw_q 23 rfl (by kernel_rfl) (by kernel_rfl) (by kernel_rfl) rfl rfl rfl (Qt_pick_f rfl rfl) ?_
        refine Aw_done (by kernel_rfl) ?_
        refine Cw_cond_kf rfl (nt_mf (decide_eq_true (he442.trans he592.symm))) ?_
        refine Cw_skip ?_
        refine Cw_region ?_
        refine Ow_q rfl rfl rfl (Qt_loadA (m := 3) (cs := Mem.cells m53) rfl rfl rfl rfl ⟨rfl, Rdc.blk (.tail _ (.head _)) rfl⟩) ?_
        refine Ow_cons rfl (OpW_store (vs := [(.slice m53.words.A m53.words.l.length m53.words.cp), (.slice m53.lists.A m53.lists.l.length m53.lists.cp), (.int .i64 m53.tick)]) (all' := [(.slice m53.words.A m53.words.l.length m53.words.cp), (.slice m53.lists.A m53.lists.l.length m53.lists.cp), (.int .i64 m53.tick)]) rfl rfl rfl rfl rfl (.there (.there (.there (.there (.there .here))))) rfl rfl rfl ?_)
        refine Ow_nil ?_
        refine Cw_region ?_
        refine Ow_q rfl rfl rfl (Qt_move rfl) ?_
        refine Ow_q rfl rfl rfl (Qt_arith (e := (((k : Nat) : Int) + 1)) rfl rfl rfl (wrap_eq (by omega) (by omega))) ?_
        refine Ow_q rfl rfl rfl (Qt_assign rfl) ?_
        refine Ow_nil ?_
        refine ⟨_, [(3, (.pointer (some ((⟨b1, 0, none⟩ : Addr).add 0)))), (4, (.pointer (some ((⟨b2, 0, none⟩ : Addr).add 0)))), (7, (.pointer (some ((⟨b10, 0, none⟩ : Addr).add 0)))), (8, (.pointer (some ((⟨b25, 0, none⟩ : Addr).add 0)))), (9, (.int .i64 (((k + 1) : Nat) : Int)))], .blk b25 49 [(.slice m53.words.A m53.words.l.length m53.words.cp), (.slice m53.lists.A m53.lists.l.length m53.lists.cp), (.int .i64 m53.tick)] :: .blk b10 70 [(.slice A ((Cd.mk (Cd.mk (Cd.mk (cl.take 120) 0 0).list at13 (Cd.mk (cl.take 120) 0 0).value).list ((Cd.mk (Cd.mk (Cd.mk (Cd.mk (cl.take 120) 0 0).list at13 (Cd.mk (cl.take 120) 0 0).value).list at1 (Cd.mk (Cd.mk (cl.take 120) 0 0).list at13 (Cd.mk (cl.take 120) 0 0).value).value).list at35 (Cd.mk (Cd.mk (Cd.mk (cl.take 120) 0 0).list at13 (Cd.mk (cl.take 120) 0 0).value).list at1 (Cd.mk (Cd.mk (cl.take 120) 0 0).list at13 (Cd.mk (cl.take 120) 0 0).value).value).value).at_) (Cd.mk (Cd.mk (cl.take 120) 0 0).list at13 (Cd.mk (cl.take 120) 0 0).value).value).list.length) cp), (.int .i64 (((Cd.mk (Cd.mk (Cd.mk (cl.take 120) 0 0).list at13 (Cd.mk (cl.take 120) 0 0).value).list ((Cd.mk (Cd.mk (Cd.mk (Cd.mk (cl.take 120) 0 0).list at13 (Cd.mk (cl.take 120) 0 0).value).list at1 (Cd.mk (Cd.mk (cl.take 120) 0 0).list at13 (Cd.mk (cl.take 120) 0 0).value).value).list at35 (Cd.mk (Cd.mk (Cd.mk (cl.take 120) 0 0).list at13 (Cd.mk (cl.take 120) 0 0).value).list at1 (Cd.mk (Cd.mk (cl.take 120) 0 0).list at13 (Cd.mk (cl.take 120) 0 0).value).value).value).at_) (Cd.mk (Cd.mk (cl.take 120) 0 0).list at13 (Cd.mk (cl.take 120) 0 0).value).value).at_ : Nat) : Int)), (.int .u64 ((Cd.mk (Cd.mk (Cd.mk (cl.take 120) 0 0).list at13 (Cd.mk (cl.take 120) 0 0).value).list ((Cd.mk (Cd.mk (Cd.mk (Cd.mk (cl.take 120) 0 0).list at13 (Cd.mk (cl.take 120) 0 0).value).list at1 (Cd.mk (Cd.mk (cl.take 120) 0 0).list at13 (Cd.mk (cl.take 120) 0 0).value).value).list at35 (Cd.mk (Cd.mk (Cd.mk (cl.take 120) 0 0).list at13 (Cd.mk (cl.take 120) 0 0).value).list at1 (Cd.mk (Cd.mk (cl.take 120) 0 0).list at13 (Cd.mk (cl.take 120) 0 0).value).value).value).at_) (Cd.mk (Cd.mk (cl.take 120) 0 0).list at13 (Cd.mk (cl.take 120) 0 0).value).value).value))] :: .blk b2 24 [(.int .i64 a.kind), (.int .i64 a.address), (.int .u64 a.old), (.int .u64 a.new), (.int .i64 a.until_)] :: .blk b1 49 [(.slice raw.words.A raw.words.l.length raw.words.cp), (.slice raw.lists.A raw.lists.l.length raw.lists.cp), (.int .i64 raw.tick)] :: G, ⟨rfl, rfl, rfl, rfl, rfl, trivial⟩, (.cons _ (.cons _ (.cons _ (.cons _ (.cons _ (.cons_cons _ (.cons_cons _ (.cons_cons _ (.cons_cons _ (.refl _)))))))))), (by first | omega | (simp only [List.length_append, List.length_cons, List.length_nil]; omega)), (k + 1), m53, (Cd.mk (Cd.mk (Cd.mk (Cd.mk (cl.take 120) 0 0).list at13 (Cd.mk (cl.take 120) 0 0).value).list at1 (Cd.mk (Cd.mk (cl.take 120) 0 0).list at13 (Cd.mk (cl.take 120) 0 0).value).value).list at35 (Cd.mk (Cd.mk (Cd.mk (cl.take 120) 0 0).list at13 (Cd.mk (cl.take 120) 0 0).value).list at1 (Cd.mk (Cd.mk (cl.take 120) 0 0).list at13 (Cd.mk (cl.take 120) 0 0).value).value).value).at_, rfl, rfl, rfl, (by omega), hm57⟩
      · intro h37
        have h37 := dcd_f (h37)
        refine Cw_skip ?_
        refine Cw_seq ?_
        refine Cw_region ?_
        refine Ow_q rfl rfl rfl (Qt_loadA (m := 3) (cs := Mem.cells m) rfl rfl rfl rfl ⟨rfl, Rdc.blk (.tail _ (.head _)) rfl⟩) ?_
        refine Ow_q rfl rfl rfl (Qt_loadA (m := 5) (cs := Access.cells a34) rfl rfl rfl rfl ⟨rfl, Rdc.blk (.head _) rfl⟩) ?_
        refine Ow_cons rfl (OpW_call rfl Try.call34 rfl rfl (c_apply m a34 _ _ hm8) ?_)
        rintro _ K72 _ hK73 ⟨m70, b71, rfl, rfl, hm74, hb75, he76⟩
        have he761 : m70.abs = (applyS m.abs a34).1 := by rw [← he76]
        have he762 : b71.abs = (applyS m.abs a34).2 := by rw [← he76]
        have hs77 := hs28.mono hK73
        have hs78 := hs29.mono hK73
        have hs79 := hs30.mono hK73
        have hs80 := hs31.mono hK73
        have hs81 := hs32.mono hK73
        have hs82 := hm8.mono hK73
        have hm74w := Sl.le hm74.w
        have hm74l := Sl.le hm74.l
        have hm74zw := hm74.zw
        have hm74zl := hm74.zl
        refine Ow_q rfl rfl rfl (Qt_move rfl) ?_
        refine Ow_q rfl rfl rfl (Qt_extract rfl rfl) ?_
        refine Ow_q rfl rfl rfl (Qt_extract rfl rfl) ?_
        refine Ow_q rfl rfl rfl (Qt_extract rfl rfl) ?_
        refine Ow_cons rfl (OpW_alloc (cs := [(.slice none 0 0), (.slice none 0 0), (.int .i64 0)]) rfl rfl rfl rfl (fun b83 => ?_))
        refine Ow_cons rfl (OpW_alloc (cs := [(.int .u64 0), (.bool false), (.bool false), (.slice none 0 0)]) rfl rfl rfl rfl (fun b84 => ?_))
        refine Ow_cons rfl (OpW_store (vs := [(.slice m70.words.A m70.words.l.length m70.words.cp), (.slice m70.lists.A m70.lists.l.length m70.lists.cp), (.int .i64 m70.tick)]) (all' := [(.slice m70.words.A m70.words.l.length m70.words.cp), (.slice m70.lists.A m70.lists.l.length m70.lists.cp), (.int .i64 m70.tick)]) rfl rfl rfl rfl rfl (.there .here) rfl rfl rfl ?_)
        refine Ow_cons rfl (OpW_store (vs := [(.int .u64 b71.value), (.bool b71.ok), (.bool b71.late), (.slice b71.list.A b71.list.l.length b71.list.cp)]) (all' := [(.int .u64 b71.value), (.bool b71.ok), (.bool b71.late), (.slice b71.list.A b71.list.l.length b71.list.cp)]) rfl rfl rfl rfl rfl .here rfl rfl rfl ?_)
        refine Ow_q rfl rfl rfl (Qt_assign rfl) ?_
        refine Ow_nil ?_
        refine Cw_seq ?_
        refine Cw_region ?_
        refine Ow_q rfl rfl rfl (Qt_loadA (m := 3) (cs := Mem.cells m) rfl rfl rfl rfl ⟨rfl, Rdc.blk (.tail _ (.tail _ (.tail _ (.head _)))) rfl⟩) ?_
        refine Ow_q rfl rfl rfl (Qt_loadA (m := 5) (cs := Access.cells a34) rfl rfl rfl rfl ⟨rfl, Rdc.blk (.tail _ (.tail _ (.head _))) rfl⟩) ?_
        refine Ow_cons rfl (OpW_call rfl Try.call35 rfl rfl (c_applyR m a34 _ _ hs82) ?_)
        rintro _ K87 _ hK88 ⟨m85, b86, rfl, rfl, hm89, hb90, he91⟩
        have he911 : m85.abs = (applyS m.abs a34).1 := by rw [← he91]
        have he912 : b86.abs = (applyS m.abs a34).2 := by rw [← he91]
        have hs92 := hs77.mono hK88
        have hs93 := hs78.mono hK88
        have hs94 := hs79.mono hK88
        have hs95 := hs80.mono hK88
        have hs96 := hs81.mono hK88
        have hs97 := hs82.mono hK88
        have hs98 := hb75.mono hK88
        have hs99 := hm74.mono hK88
        have hm89w := Sl.le hm89.w
        have hm89l := Sl.le hm89.l
        have hm89zw := hm89.zw
        have hm89zl := hm89.zl
        refine Ow_q rfl rfl rfl (Qt_move rfl) ?_
        refine Ow_q rfl rfl rfl (Qt_extract rfl rfl) ?_
        refine Ow_q rfl rfl rfl (Qt_extract rfl rfl) ?_
        refine Ow_q rfl rfl rfl (Qt_extract rfl rfl) ?_
        refine Ow_cons rfl (OpW_alloc (cs := [(.slice none 0 0), (.slice none 0 0), (.int .i64 0)]) rfl rfl rfl rfl (fun b100 => ?_))
        refine Ow_cons rfl (OpW_alloc (cs := [(.int .u64 0), (.bool false), (.bool false), (.slice none 0 0)]) rfl rfl rfl rfl (fun b101 => ?_))
        refine Ow_cons rfl (OpW_store (vs := [(.slice m85.words.A m85.words.l.length m85.words.cp), (.slice m85.lists.A m85.lists.l.length m85.lists.cp), (.int .i64 m85.tick)]) (all' := [(.slice m85.words.A m85.words.l.length m85.words.cp), (.slice m85.lists.A m85.lists.l.length m85.lists.cp), (.int .i64 m85.tick)]) rfl rfl rfl rfl rfl (.there .here) rfl rfl rfl ?_)
        refine Ow_cons rfl (OpW_store (vs := [(.int .u64 b86.value), (.bool b86.ok), (.bool b86.late), (.slice b86.list.A b86.list.l.length b86.list.cp)]) (all' := [(.int .u64 b86.value), (.bool b86.ok), (.bool b86.late), (.slice b86.list.A b86.list.l.length b86.list.cp)]) rfl rfl rfl rfl rfl .here rfl rfl rfl ?_)
        refine Ow_q rfl rfl rfl (Qt_assign rfl) ?_
        refine Ow_nil ?_
        refine Cw_seq ?_
        refine Cw_seq ?_
        refine Cw_region_any [.blk b101 40 [(.int .u64 b86.value), (.bool b86.ok), (.bool b86.late), (.slice b86.list.A b86.list.l.length b86.list.cp)], .blk b100 49 [(.slice m85.words.A m85.words.l.length m85.words.cp), (.slice m85.lists.A m85.lists.l.length m85.lists.cp), (.int .i64 m85.tick)], .blk b84 40 [(.int .u64 b71.value), (.bool b71.ok), (.bool b71.late), (.slice b71.list.A b71.list.l.length b71.list.cp)], .blk b83 49 [(.slice m70.words.A m70.words.l.length m70.words.cp), (.slice m70.lists.A m70.lists.l.length m70.lists.cp), (.int .i64 m70.tick)], .blk b36 24 [(.int .i64 a34.kind), (.int .i64 a34.address), (.int .u64 a34.old), (.int .u64 a34.new), (.int .i64 a34.until_)], .blk b25 49 [(.slice m.words.A m.words.l.length m.words.cp), (.slice m.lists.A m.lists.l.length m.lists.cp), (.int .i64 m.tick)], .blk b10 70 [(.slice A ((Cd.mk (Cd.mk (Cd.mk (Cd.mk (cl.take 120) 0 0).list at13 (Cd.mk (cl.take 120) 0 0).value).list at1 (Cd.mk (Cd.mk (cl.take 120) 0 0).list at13 (Cd.mk (cl.take 120) 0 0).value).value).list at35 (Cd.mk (Cd.mk (Cd.mk (cl.take 120) 0 0).list at13 (Cd.mk (cl.take 120) 0 0).value).list at1 (Cd.mk (Cd.mk (cl.take 120) 0 0).list at13 (Cd.mk (cl.take 120) 0 0).value).value).value).list.length) cp), (.int .i64 (((Cd.mk (Cd.mk (Cd.mk (Cd.mk (cl.take 120) 0 0).list at13 (Cd.mk (cl.take 120) 0 0).value).list at1 (Cd.mk (Cd.mk (cl.take 120) 0 0).list at13 (Cd.mk (cl.take 120) 0 0).value).value).list at35 (Cd.mk (Cd.mk (Cd.mk (cl.take 120) 0 0).list at13 (Cd.mk (cl.take 120) 0 0).value).list at1 (Cd.mk (Cd.mk (cl.take 120) 0 0).list at13 (Cd.mk (cl.take 120) 0 0).value).value).value).at_ : Nat) : Int)), (.int .u64 ((Cd.mk (Cd.mk (Cd.mk (Cd.mk (cl.take 120) 0 0).list at13 (Cd.mk (cl.take 120) 0 0).value).list at1 (Cd.mk (Cd.mk (cl.take 120) 0 0).list at13 (Cd.mk (cl.take 120) 0 0).value).value).list at35 (Cd.mk (Cd.mk (Cd.mk (cl.take 120) 0 0).list at13 (Cd.mk (cl.take 120) 0 0).value).list at1 (Cd.mk (Cd.mk (cl.take 120) 0 0).list at13 (Cd.mk (cl.take 120) 0 0).value).value).value).value))], .blk b2 24 [(.int .i64 a.kind), (.int .i64 a.address), (.int .u64 a.old), (.int .u64 a.new), (.int .i64 a.until_)], .blk b1 49 [(.slice raw.words.A raw.words.l.length raw.words.cp), (.slice raw.lists.A raw.lists.l.length raw.lists.cp), (.int .i64 raw.tick)]] rfl (Inc.cons (.head _) (Inc.cons (.tail _ (.head _)) (Inc.cons (.tail _ (.tail _ (.head _))) (Inc.cons (.tail _ (.tail _ (.tail _ (.head _)))) (Inc.cons (.tail _ (.tail _ (.tail _ (.tail _ (.head _))))) (Inc.cons (.tail _ (.tail _ (.tail _ (.tail _ (.tail _ (.head _)))))) (Inc.cons (.tail _ (.tail _ (.tail _ (.tail _ (.tail _ (.tail _ (.head _))))))) (Inc.cons (.tail _ (.tail _ (.tail _ (.tail _ (.tail _ (.tail _ (.tail _ (.head _)))))))) (Inc.cons (.tail _ (.tail _ (.tail _ (.tail _ (.tail _ (.tail _ (.tail _ (.tail _ (.head _))))))))) Inc.nil))))))))) ?_
        refine Aw_q 0 rfl (by kernel_rfl) (by kernel_rfl) (by kernel_rfl) rfl rfl rfl (Qt_loadA (m := 3) (cs := Mem.cells m) rfl rfl rfl rfl ⟨rfl, Rdc.blk (.tail _ (.tail _ (.tail _ (.tail _ (.tail _ (.head _)))))) rfl⟩) ?_
        refine Aw_q 1 rfl (by kernel_rfl) (by kernel_rfl) (by kernel_rfl) rfl rfl rfl (Qt_loadA (m := 5) (cs := Access.cells a34) rfl rfl rfl rfl ⟨rfl, Rdc.blk (.tail _ (.tail _ (.tail _ (.tail _ (.head _))))) rfl⟩) ?_
        refine Aw_q 3 rfl (by kernel_rfl) (by kernel_rfl) (by kernel_rfl) rfl rfl rfl (Qt_loadA (m := 3) (cs := Mem.cells m) rfl rfl rfl rfl ⟨rfl, Rdc.blk (.tail _ (.tail _ (.tail _ (.tail _ (.tail _ (.head _)))))) rfl⟩) ?_
        refine Aw_q 4 rfl (by kernel_rfl) (by kernel_rfl) (by kernel_rfl) rfl rfl rfl (Qt_loadA (m := 5) (cs := Access.cells a34) rfl rfl rfl rfl ⟨rfl, Rdc.blk (.tail _ (.tail _ (.tail _ (.tail _ (.head _))))) rfl⟩) ?_
        refine Aw_one 2 (by kernel_rfl) (Ax_mk rfl rfl (OpW_callP (v0 := (.bool (grantedS m.abs a34))) rfl Try.call36 rfl rfl (c_granted m a34 _ _ hs97) ⟨(Inc.cons (.head _) (Inc.cons (.tail _ (.head _)) (Inc.cons (.tail _ (.tail _ (.head _))) (Inc.cons (.tail _ (.tail _ (.tail _ (.head _)))) (Inc.cons (.tail _ (.tail _ (.tail _ (.tail _ (.head _))))) (Inc.cons (.tail _ (.tail _ (.tail _ (.tail _ (.tail _ (.head _)))))) (Inc.cons (.tail _ (.tail _ (.tail _ (.tail _ (.tail _ (.tail _ (.head _))))))) (Inc.cons (.tail _ (.tail _ (.tail _ (.tail _ (.tail _ (.tail _ (.tail _ (.head _)))))))) (Inc.cons (.tail _ (.tail _ (.tail _ (.tail _ (.tail _ (.tail _ (.tail _ (.tail _ (.head _))))))))) Inc.nil))))))))), ?_⟩))
        refine Aw_one 5 (by kernel_rfl) (Ax_mk rfl rfl (OpW_callP (v0 := (.bool (grantedS m.abs a34))) rfl Try.call37 rfl rfl (c_grantedR m a34 _ _ hs97) ⟨(Inc.cons (.head _) (Inc.cons (.tail _ (.head _)) (Inc.cons (.tail _ (.tail _ (.head _))) (Inc.cons (.tail _ (.tail _ (.tail _ (.head _)))) (Inc.cons (.tail _ (.tail _ (.tail _ (.tail _ (.head _))))) (Inc.cons (.tail _ (.tail _ (.tail _ (.tail _ (.tail _ (.head _)))))) (Inc.cons (.tail _ (.tail _ (.tail _ (.tail _ (.tail _ (.tail _ (.head _))))))) (Inc.cons (.tail _ (.tail _ (.tail _ (.tail _ (.tail _ (.tail _ (.tail _ (.head _)))))))) (Inc.cons (.tail _ (.tail _ (.tail _ (.tail _ (.tail _ (.tail _ (.tail _ (.tail _ (.head _))))))))) Inc.nil))))))))), ?_⟩))
        refine Aw_q 6 rfl (by kernel_rfl) (by kernel_rfl) (by kernel_rfl) rfl rfl rfl (Qt_neB rfl rfl rfl) ?_
        refine Aw_q 7 rfl (by kernel_rfl) (by kernel_rfl) (by kernel_rfl) rfl rfl rfl (Qt_move rfl) ?_
        refine Aw.known (d := 62) rfl (nt_mf (beq_self_eq_true _)) ?_
        refine Aw_qw 8 rfl (by kernel_rfl) (by kernel_rfl) (by kernel_rfl) rfl rfl rfl rfl rfl rfl (Qt_move rfl) ?_
        refine Aw_qw 9 rfl (by kernel_rfl) (by kernel_rfl) (by kernel_rfl) rfl rfl rfl rfl rfl rfl (Qt_move rfl) ?_
        refine Aw_qw 10 rfl (by kernel_rfl) (by kernel_rfl) (by kernel_rfl) rfl rfl rfl rfl rfl rfl (Qt_neB rfl rfl rfl) ?_
        refine Aw_q 11 rfl (by kernel_rfl) (by kernel_rfl) (by kernel_rfl) rfl rfl rfl (Qt_pick_f rfl rfl) ?_
        refine Aw_q 12 rfl (by kernel_rfl) (by kernel_rfl) (by kernel_rfl) rfl rfl rfl (Qt_move rfl) ?_
        refine Aw.known (d := 67) rfl (nt_mf (beq_self_eq_true _)) ?_
        refine Aw_qw 13 rfl (by kernel_rfl) (by kernel_rfl) (by kernel_rfl) rfl rfl rfl rfl rfl rfl (Qt_loadA (m := 3) (cs := Mem.cells m70) rfl rfl rfl rfl ⟨rfl, Rdc.blk (.tail _ (.tail _ (.tail _ (.head _)))) rfl⟩) ?_
        refine Aw_qw 14 rfl (by kernel_rfl) (by kernel_rfl) (by kernel_rfl) rfl rfl rfl rfl rfl rfl (Qt_loadA (m := 3) (cs := Mem.cells m85) rfl rfl rfl rfl ⟨rfl, Rdc.blk (.tail _ (.head _)) rfl⟩) ?_
        refine Aw_one 15 (by kernel_rfl) (Ax_mkw rfl rfl rfl rfl rfl (OpW_callP (v0 := (.bool (decide (m70.abs = m85.abs)))) rfl Try.call38 rfl rfl (c_sameMem m70 m85 _ _ hs99 hm89) ⟨(Inc.cons (.head _) (Inc.cons (.tail _ (.head _)) (Inc.cons (.tail _ (.tail _ (.head _))) (Inc.cons (.tail _ (.tail _ (.tail _ (.head _)))) (Inc.cons (.tail _ (.tail _ (.tail _ (.tail _ (.head _))))) (Inc.cons (.tail _ (.tail _ (.tail _ (.tail _ (.tail _ (.head _)))))) (Inc.cons (.tail _ (.tail _ (.tail _ (.tail _ (.tail _ (.tail _ (.head _))))))) (Inc.cons (.tail _ (.tail _ (.tail _ (.tail _ (.tail _ (.tail _ (.tail _ (.head _)))))))) (Inc.cons (.tail _ (.tail _ (.tail _ (.tail _ (.tail _ (.tail _ (.tail _ (.tail _ (.head _))))))))) Inc.nil))))))))), ?_⟩))
        refine Aw_qw 16 rfl (by kernel_rfl) (by kernel_rfl) (by kernel_rfl) rfl rfl rfl rfl rfl rfl (Qt_not rfl) ?_
        refine Aw_q 17 rfl (by kernel_rfl) (by kernel_rfl) (by kernel_rfl) rfl rfl rfl (Qt_pick_f rfl rfl) ?_
        refine Aw_q 18 rfl (by kernel_rfl) (by kernel_rfl) (by kernel_rfl) rfl rfl rfl (Qt_move rfl) ?_
        refine Aw.known (d := 73) rfl (nt_mf (decide_eq_true (he761.trans he911.symm))) ?_
        refine Aw_qw 19 rfl (by kernel_rfl) (by kernel_rfl) (by kernel_rfl) rfl rfl rfl rfl rfl rfl (Qt_loadA (m := 4) (cs := Answer.cells b71) rfl rfl rfl rfl ⟨rfl, Rdc.blk (.tail _ (.tail _ (.head _))) rfl⟩) ?_
        refine Aw_qw 20 rfl (by kernel_rfl) (by kernel_rfl) (by kernel_rfl) rfl rfl rfl rfl rfl rfl (Qt_loadA (m := 4) (cs := Answer.cells b86) rfl rfl rfl rfl ⟨rfl, Rdc.blk (.head _) rfl⟩) ?_
        refine Aw_one 21 (by kernel_rfl) (Ax_mkw rfl rfl rfl rfl rfl (OpW_callP (v0 := (.bool (decide (b71.abs = b86.abs)))) rfl Try.call39 rfl rfl (c_sameAns b71 b86 _ _ hs98 hb90) ⟨(Inc.cons (.head _) (Inc.cons (.tail _ (.head _)) (Inc.cons (.tail _ (.tail _ (.head _))) (Inc.cons (.tail _ (.tail _ (.tail _ (.head _)))) (Inc.cons (.tail _ (.tail _ (.tail _ (.tail _ (.head _))))) (Inc.cons (.tail _ (.tail _ (.tail _ (.tail _ (.tail _ (.head _)))))) (Inc.cons (.tail _ (.tail _ (.tail _ (.tail _ (.tail _ (.tail _ (.head _))))))) (Inc.cons (.tail _ (.tail _ (.tail _ (.tail _ (.tail _ (.tail _ (.tail _ (.head _)))))))) (Inc.cons (.tail _ (.tail _ (.tail _ (.tail _ (.tail _ (.tail _ (.tail _ (.tail _ (.head _))))))))) Inc.nil))))))))), ?_⟩))
        refine Aw_qw 22 rfl (by kernel_rfl) (by kernel_rfl) (by kernel_rfl) rfl rfl rfl rfl rfl rfl (Qt_not rfl) ?_
        refine Aw_q 23 rfl (by kernel_rfl) (by kernel_rfl) (by kernel_rfl) rfl rfl rfl (Qt_pick_f rfl rfl) ?_
        refine Aw_done (by kernel_rfl) ?_
        refine Cw_cond_kf rfl (nt_mf (decide_eq_true (he762.trans he912.symm))) ?_
        refine Cw_skip ?_
        refine Cw_region ?_
        refine Ow_q rfl rfl rfl (Qt_loadA (m := 3) (cs := Mem.cells m85) rfl rfl rfl rfl ⟨rfl, Rdc.blk (.tail _ (.head _)) rfl⟩) ?_
        refine Ow_cons rfl (OpW_store (vs := [(.slice m85.words.A m85.words.l.length m85.words.cp), (.slice m85.lists.A m85.lists.l.length m85.lists.cp), (.int .i64 m85.tick)]) (all' := [(.slice m85.words.A m85.words.l.length m85.words.cp), (.slice m85.lists.A m85.lists.l.length m85.lists.cp), (.int .i64 m85.tick)]) rfl rfl rfl rfl rfl (.there (.there (.there (.there (.there .here))))) rfl rfl rfl ?_)
        refine Ow_nil ?_
        refine Cw_region ?_
        refine Ow_q rfl rfl rfl (Qt_move rfl) ?_
        refine Ow_q rfl rfl rfl (Qt_arith (e := (((k : Nat) : Int) + 1)) rfl rfl rfl (wrap_eq (by omega) (by omega))) ?_
        refine Ow_q rfl rfl rfl (Qt_assign rfl) ?_
        refine Ow_nil ?_
        refine ⟨_, [(3, (.pointer (some ((⟨b1, 0, none⟩ : Addr).add 0)))), (4, (.pointer (some ((⟨b2, 0, none⟩ : Addr).add 0)))), (7, (.pointer (some ((⟨b10, 0, none⟩ : Addr).add 0)))), (8, (.pointer (some ((⟨b25, 0, none⟩ : Addr).add 0)))), (9, (.int .i64 (((k + 1) : Nat) : Int)))], .blk b25 49 [(.slice m85.words.A m85.words.l.length m85.words.cp), (.slice m85.lists.A m85.lists.l.length m85.lists.cp), (.int .i64 m85.tick)] :: .blk b10 70 [(.slice A ((Cd.mk (Cd.mk (Cd.mk (cl.take 120) 0 0).list at13 (Cd.mk (cl.take 120) 0 0).value).list ((Cd.mk (Cd.mk (Cd.mk (Cd.mk (cl.take 120) 0 0).list at13 (Cd.mk (cl.take 120) 0 0).value).list at1 (Cd.mk (Cd.mk (cl.take 120) 0 0).list at13 (Cd.mk (cl.take 120) 0 0).value).value).list at35 (Cd.mk (Cd.mk (Cd.mk (cl.take 120) 0 0).list at13 (Cd.mk (cl.take 120) 0 0).value).list at1 (Cd.mk (Cd.mk (cl.take 120) 0 0).list at13 (Cd.mk (cl.take 120) 0 0).value).value).value).at_) (Cd.mk (Cd.mk (cl.take 120) 0 0).list at13 (Cd.mk (cl.take 120) 0 0).value).value).list.length) cp), (.int .i64 (((Cd.mk (Cd.mk (Cd.mk (cl.take 120) 0 0).list at13 (Cd.mk (cl.take 120) 0 0).value).list ((Cd.mk (Cd.mk (Cd.mk (Cd.mk (cl.take 120) 0 0).list at13 (Cd.mk (cl.take 120) 0 0).value).list at1 (Cd.mk (Cd.mk (cl.take 120) 0 0).list at13 (Cd.mk (cl.take 120) 0 0).value).value).list at35 (Cd.mk (Cd.mk (Cd.mk (cl.take 120) 0 0).list at13 (Cd.mk (cl.take 120) 0 0).value).list at1 (Cd.mk (Cd.mk (cl.take 120) 0 0).list at13 (Cd.mk (cl.take 120) 0 0).value).value).value).at_) (Cd.mk (Cd.mk (cl.take 120) 0 0).list at13 (Cd.mk (cl.take 120) 0 0).value).value).at_ : Nat) : Int)), (.int .u64 ((Cd.mk (Cd.mk (Cd.mk (cl.take 120) 0 0).list at13 (Cd.mk (cl.take 120) 0 0).value).list ((Cd.mk (Cd.mk (Cd.mk (Cd.mk (cl.take 120) 0 0).list at13 (Cd.mk (cl.take 120) 0 0).value).list at1 (Cd.mk (Cd.mk (cl.take 120) 0 0).list at13 (Cd.mk (cl.take 120) 0 0).value).value).list at35 (Cd.mk (Cd.mk (Cd.mk (cl.take 120) 0 0).list at13 (Cd.mk (cl.take 120) 0 0).value).list at1 (Cd.mk (Cd.mk (cl.take 120) 0 0).list at13 (Cd.mk (cl.take 120) 0 0).value).value).value).at_) (Cd.mk (Cd.mk (cl.take 120) 0 0).list at13 (Cd.mk (cl.take 120) 0 0).value).value).value))] :: .blk b2 24 [(.int .i64 a.kind), (.int .i64 a.address), (.int .u64 a.old), (.int .u64 a.new), (.int .i64 a.until_)] :: .blk b1 49 [(.slice raw.words.A raw.words.l.length raw.words.cp), (.slice raw.lists.A raw.lists.l.length raw.lists.cp), (.int .i64 raw.tick)] :: G, ⟨rfl, rfl, rfl, rfl, rfl, trivial⟩, (.cons _ (.cons _ (.cons _ (.cons _ (.cons _ (.cons_cons _ (.cons_cons _ (.cons_cons _ (.cons_cons _ (.refl _)))))))))), (by first | omega | (simp only [List.length_append, List.length_cons, List.length_nil]; omega)), (k + 1), m85, (Cd.mk (Cd.mk (Cd.mk (Cd.mk (cl.take 120) 0 0).list at13 (Cd.mk (cl.take 120) 0 0).value).list at1 (Cd.mk (Cd.mk (cl.take 120) 0 0).list at13 (Cd.mk (cl.take 120) 0 0).value).value).list at35 (Cd.mk (Cd.mk (Cd.mk (cl.take 120) 0 0).list at13 (Cd.mk (cl.take 120) 0 0).value).list at1 (Cd.mk (Cd.mk (cl.take 120) 0 0).list at13 (Cd.mk (cl.take 120) 0 0).value).value).value).at_, rfl, rfl, rfl, (by omega), hm89⟩
    · intro h33
      have h33 := dcd_f (h33)
      refine Cw_exit ?_
      refine Cw_seq ?_
      refine Cw_region ?_
      refine Ow_q rfl rfl rfl (Qt_loadA (m := 3) (cs := Mem.cells raw) rfl rfl rfl rfl ⟨rfl, Rdc.blk (.tail _ (.tail _ (.tail _ (.head _)))) rfl⟩) ?_
      refine Ow_q rfl rfl rfl (Qt_loadA (m := 5) (cs := Access.cells a) rfl rfl rfl rfl ⟨rfl, Rdc.blk (.tail _ (.tail _ (.head _))) rfl⟩) ?_
      refine Ow_cons rfl (OpW_call rfl Try.call34 rfl rfl (c_apply raw a _ _ hs30) ?_)
      rintro _ K104 _ hK105 ⟨m102, b103, rfl, rfl, hm106, hb107, he108⟩
      have he1081 : m102.abs = (applyS raw.abs a).1 := by rw [← he108]
      have he1082 : b103.abs = (applyS raw.abs a).2 := by rw [← he108]
      have hs109 := hs28.mono hK105
      have hs110 := hs29.mono hK105
      have hs111 := hs30.mono hK105
      have hs112 := hs31.mono hK105
      have hs113 := hs32.mono hK105
      have hs114 := hm8.mono hK105
      have hm106w := Sl.le hm106.w
      have hm106l := Sl.le hm106.l
      have hm106zw := hm106.zw
      have hm106zl := hm106.zl
      refine Ow_q rfl rfl rfl (Qt_move rfl) ?_
      refine Ow_q rfl rfl rfl (Qt_extract rfl rfl) ?_
      refine Ow_q rfl rfl rfl (Qt_extract rfl rfl) ?_
      refine Ow_q rfl rfl rfl (Qt_extract rfl rfl) ?_
      refine Ow_cons rfl (OpW_alloc (cs := [(.slice none 0 0), (.slice none 0 0), (.int .i64 0)]) rfl rfl rfl rfl (fun b115 => ?_))
      refine Ow_cons rfl (OpW_alloc (cs := [(.int .u64 0), (.bool false), (.bool false), (.slice none 0 0)]) rfl rfl rfl rfl (fun b116 => ?_))
      refine Ow_cons rfl (OpW_store (vs := [(.slice m102.words.A m102.words.l.length m102.words.cp), (.slice m102.lists.A m102.lists.l.length m102.lists.cp), (.int .i64 m102.tick)]) (all' := [(.slice m102.words.A m102.words.l.length m102.words.cp), (.slice m102.lists.A m102.lists.l.length m102.lists.cp), (.int .i64 m102.tick)]) rfl rfl rfl rfl rfl (.there .here) rfl rfl rfl ?_)
      refine Ow_cons rfl (OpW_store (vs := [(.int .u64 b103.value), (.bool b103.ok), (.bool b103.late), (.slice b103.list.A b103.list.l.length b103.list.cp)]) (all' := [(.int .u64 b103.value), (.bool b103.ok), (.bool b103.late), (.slice b103.list.A b103.list.l.length b103.list.cp)]) rfl rfl rfl rfl rfl .here rfl rfl rfl ?_)
      refine Ow_q rfl rfl rfl (Qt_assign rfl) ?_
      refine Ow_nil ?_
      refine Cw_seq ?_
      refine Cw_region ?_
      refine Ow_q rfl rfl rfl (Qt_loadA (m := 3) (cs := Mem.cells raw) rfl rfl rfl rfl ⟨rfl, Rdc.blk (.tail _ (.tail _ (.tail _ (.tail _ (.tail _ (.head _)))))) rfl⟩) ?_
      refine Ow_q rfl rfl rfl (Qt_loadA (m := 5) (cs := Access.cells a) rfl rfl rfl rfl ⟨rfl, Rdc.blk (.tail _ (.tail _ (.tail _ (.tail _ (.head _))))) rfl⟩) ?_
      refine Ow_cons rfl (OpW_call rfl Try.call35 rfl rfl (c_applyR raw a _ _ hs111) ?_)
      rintro _ K119 _ hK120 ⟨m117, b118, rfl, rfl, hm121, hb122, he123⟩
      have he1231 : m117.abs = (applyS raw.abs a).1 := by rw [← he123]
      have he1232 : b118.abs = (applyS raw.abs a).2 := by rw [← he123]
      have hs124 := hs109.mono hK120
      have hs125 := hs110.mono hK120
      have hs126 := hs111.mono hK120
      have hs127 := hs112.mono hK120
      have hs128 := hs113.mono hK120
      have hs129 := hs114.mono hK120
      have hs130 := hb107.mono hK120
      have hs131 := hm106.mono hK120
      have hm121w := Sl.le hm121.w
      have hm121l := Sl.le hm121.l
      have hm121zw := hm121.zw
      have hm121zl := hm121.zl
      refine Ow_q rfl rfl rfl (Qt_move rfl) ?_
      refine Ow_q rfl rfl rfl (Qt_extract rfl rfl) ?_
      refine Ow_q rfl rfl rfl (Qt_extract rfl rfl) ?_
      refine Ow_q rfl rfl rfl (Qt_extract rfl rfl) ?_
      refine Ow_cons rfl (OpW_alloc (cs := [(.slice none 0 0), (.slice none 0 0), (.int .i64 0)]) rfl rfl rfl rfl (fun b132 => ?_))
      refine Ow_cons rfl (OpW_alloc (cs := [(.int .u64 0), (.bool false), (.bool false), (.slice none 0 0)]) rfl rfl rfl rfl (fun b133 => ?_))
      refine Ow_cons rfl (OpW_store (vs := [(.slice m117.words.A m117.words.l.length m117.words.cp), (.slice m117.lists.A m117.lists.l.length m117.lists.cp), (.int .i64 m117.tick)]) (all' := [(.slice m117.words.A m117.words.l.length m117.words.cp), (.slice m117.lists.A m117.lists.l.length m117.lists.cp), (.int .i64 m117.tick)]) rfl rfl rfl rfl rfl (.there .here) rfl rfl rfl ?_)
      refine Ow_cons rfl (OpW_store (vs := [(.int .u64 b118.value), (.bool b118.ok), (.bool b118.late), (.slice b118.list.A b118.list.l.length b118.list.cp)]) (all' := [(.int .u64 b118.value), (.bool b118.ok), (.bool b118.late), (.slice b118.list.A b118.list.l.length b118.list.cp)]) rfl rfl rfl rfl rfl .here rfl rfl rfl ?_)
      refine Ow_q rfl rfl rfl (Qt_assign rfl) ?_
      refine Ow_nil ?_
      refine Cw_seq ?_
      refine Cw_region_any [.blk b133 40 [(.int .u64 b118.value), (.bool b118.ok), (.bool b118.late), (.slice b118.list.A b118.list.l.length b118.list.cp)], .blk b132 49 [(.slice m117.words.A m117.words.l.length m117.words.cp), (.slice m117.lists.A m117.lists.l.length m117.lists.cp), (.int .i64 m117.tick)], .blk b116 40 [(.int .u64 b103.value), (.bool b103.ok), (.bool b103.late), (.slice b103.list.A b103.list.l.length b103.list.cp)], .blk b115 49 [(.slice m102.words.A m102.words.l.length m102.words.cp), (.slice m102.lists.A m102.lists.l.length m102.lists.cp), (.int .i64 m102.tick)], .blk b25 49 [(.slice m.words.A m.words.l.length m.words.cp), (.slice m.lists.A m.lists.l.length m.lists.cp), (.int .i64 m.tick)], .blk b10 70 [(.slice A ((Cd.mk (Cd.mk (Cd.mk (cl.take 120) 0 0).list at13 (Cd.mk (cl.take 120) 0 0).value).list at1 (Cd.mk (Cd.mk (cl.take 120) 0 0).list at13 (Cd.mk (cl.take 120) 0 0).value).value).list.length) cp), (.int .i64 (((Cd.mk (Cd.mk (Cd.mk (cl.take 120) 0 0).list at13 (Cd.mk (cl.take 120) 0 0).value).list at1 (Cd.mk (Cd.mk (cl.take 120) 0 0).list at13 (Cd.mk (cl.take 120) 0 0).value).value).at_ : Nat) : Int)), (.int .u64 ((Cd.mk (Cd.mk (Cd.mk (cl.take 120) 0 0).list at13 (Cd.mk (cl.take 120) 0 0).value).list at1 (Cd.mk (Cd.mk (cl.take 120) 0 0).list at13 (Cd.mk (cl.take 120) 0 0).value).value).value))], .blk b2 24 [(.int .i64 a.kind), (.int .i64 a.address), (.int .u64 a.old), (.int .u64 a.new), (.int .i64 a.until_)], .blk b1 49 [(.slice raw.words.A raw.words.l.length raw.words.cp), (.slice raw.lists.A raw.lists.l.length raw.lists.cp), (.int .i64 raw.tick)]] rfl (Inc.cons (.head _) (Inc.cons (.tail _ (.head _)) (Inc.cons (.tail _ (.tail _ (.head _))) (Inc.cons (.tail _ (.tail _ (.tail _ (.head _)))) (Inc.cons (.tail _ (.tail _ (.tail _ (.tail _ (.head _))))) (Inc.cons (.tail _ (.tail _ (.tail _ (.tail _ (.tail _ (.head _)))))) (Inc.cons (.tail _ (.tail _ (.tail _ (.tail _ (.tail _ (.tail _ (.head _))))))) (Inc.cons (.tail _ (.tail _ (.tail _ (.tail _ (.tail _ (.tail _ (.tail _ (.head _)))))))) Inc.nil)))))))) ?_
      refine Aw_q 0 rfl (by kernel_rfl) (by kernel_rfl) (by kernel_rfl) rfl rfl rfl (Qt_move rfl) ?_
      refine Aw_q 1 rfl (by kernel_rfl) (by kernel_rfl) (by kernel_rfl) rfl rfl rfl (Qt_move rfl) ?_
      refine Aw_q 2 rfl (by kernel_rfl) (by kernel_rfl) (by kernel_rfl) rfl rfl rfl (Qt_eqB rfl rfl rfl) ?_
      refine Aw_q 3 rfl (by kernel_rfl) (by kernel_rfl) (by kernel_rfl) rfl rfl rfl (Qt_move rfl) ?_
      refine Aw.known (d := 97) rfl (beq_self_eq_true _) ?_
      refine Aw_qw 4 rfl (by kernel_rfl) (by kernel_rfl) (by kernel_rfl) rfl rfl rfl rfl rfl rfl (Qt_loadA (m := 3) (cs := Mem.cells m102) rfl rfl rfl rfl ⟨rfl, Rdc.blk (.tail _ (.tail _ (.tail _ (.head _)))) rfl⟩) ?_
      refine Aw_qw 5 rfl (by kernel_rfl) (by kernel_rfl) (by kernel_rfl) rfl rfl rfl rfl rfl rfl (Qt_loadA (m := 3) (cs := Mem.cells m117) rfl rfl rfl rfl ⟨rfl, Rdc.blk (.tail _ (.head _)) rfl⟩) ?_
      refine Aw_one 6 (by kernel_rfl) (Ax_mkw rfl rfl rfl rfl rfl (OpW_callP (v0 := (.bool (decide (m102.abs = m117.abs)))) rfl Try.call38 rfl rfl (c_sameMem m102 m117 _ _ hs131 hm121) ⟨(Inc.cons (.head _) (Inc.cons (.tail _ (.head _)) (Inc.cons (.tail _ (.tail _ (.head _))) (Inc.cons (.tail _ (.tail _ (.tail _ (.head _)))) (Inc.cons (.tail _ (.tail _ (.tail _ (.tail _ (.head _))))) (Inc.cons (.tail _ (.tail _ (.tail _ (.tail _ (.tail _ (.head _)))))) (Inc.cons (.tail _ (.tail _ (.tail _ (.tail _ (.tail _ (.tail _ (.head _))))))) (Inc.cons (.tail _ (.tail _ (.tail _ (.tail _ (.tail _ (.tail _ (.tail _ (.head _)))))))) Inc.nil)))))))), ?_⟩))
      refine Aw_q 7 rfl (by kernel_rfl) (by kernel_rfl) (by kernel_rfl) rfl rfl rfl (Qt_pick_t rfl rfl) ?_
      refine Aw_q 8 rfl (by kernel_rfl) (by kernel_rfl) (by kernel_rfl) rfl rfl rfl (Qt_move rfl) ?_
      refine Aw.known (d := 102) rfl (decide_eq_true (he1081.trans he1231.symm)) ?_
      refine Aw_qw 9 rfl (by kernel_rfl) (by kernel_rfl) (by kernel_rfl) rfl rfl rfl rfl rfl rfl (Qt_loadA (m := 4) (cs := Answer.cells b103) rfl rfl rfl rfl ⟨rfl, Rdc.blk (.tail _ (.tail _ (.head _))) rfl⟩) ?_
      refine Aw_qw 10 rfl (by kernel_rfl) (by kernel_rfl) (by kernel_rfl) rfl rfl rfl rfl rfl rfl (Qt_loadA (m := 4) (cs := Answer.cells b118) rfl rfl rfl rfl ⟨rfl, Rdc.blk (.head _) rfl⟩) ?_
      refine Aw_one 11 (by kernel_rfl) (Ax_mkw rfl rfl rfl rfl rfl (OpW_callP (v0 := (.bool (decide (b103.abs = b118.abs)))) rfl Try.call39 rfl rfl (c_sameAns b103 b118 _ _ hs130 hb122) ⟨(Inc.cons (.head _) (Inc.cons (.tail _ (.head _)) (Inc.cons (.tail _ (.tail _ (.head _))) (Inc.cons (.tail _ (.tail _ (.tail _ (.head _)))) (Inc.cons (.tail _ (.tail _ (.tail _ (.tail _ (.head _))))) (Inc.cons (.tail _ (.tail _ (.tail _ (.tail _ (.tail _ (.head _)))))) (Inc.cons (.tail _ (.tail _ (.tail _ (.tail _ (.tail _ (.tail _ (.head _))))))) (Inc.cons (.tail _ (.tail _ (.tail _ (.tail _ (.tail _ (.tail _ (.tail _ (.head _)))))))) Inc.nil)))))))), ?_⟩))
      refine Aw_q 12 rfl (by kernel_rfl) (by kernel_rfl) (by kernel_rfl) rfl rfl rfl (Qt_pick_t rfl rfl) ?_
      refine Aw_q 13 rfl (by kernel_rfl) (by kernel_rfl) (by kernel_rfl) rfl rfl rfl (Qt_move rfl) ?_
      refine Aw.known (d := 107) rfl (decide_eq_true (he1082.trans he1232.symm)) ?_
      refine Aw_qw 14 rfl (by kernel_rfl) (by kernel_rfl) (by kernel_rfl) rfl rfl rfl rfl rfl rfl (Qt_loadA (m := 3) (cs := Mem.cells raw) rfl rfl rfl rfl ⟨rfl, Rdc.blk (.tail _ (.tail _ (.tail _ (.tail _ (.tail _ (.tail _ (.tail _ (.head _)))))))) rfl⟩) ?_
      refine Aw_qw 15 rfl (by kernel_rfl) (by kernel_rfl) (by kernel_rfl) rfl rfl rfl rfl rfl rfl (Qt_loadA (m := 5) (cs := Access.cells a) rfl rfl rfl rfl ⟨rfl, Rdc.blk (.tail _ (.tail _ (.tail _ (.tail _ (.tail _ (.tail _ (.head _))))))) rfl⟩) ?_
      refine Aw_qw 17 rfl (by kernel_rfl) (by kernel_rfl) (by kernel_rfl) rfl rfl rfl rfl rfl rfl (Qt_loadA (m := 3) (cs := Mem.cells raw) rfl rfl rfl rfl ⟨rfl, Rdc.blk (.tail _ (.tail _ (.tail _ (.tail _ (.tail _ (.tail _ (.tail _ (.head _)))))))) rfl⟩) ?_
      refine Aw_qw 18 rfl (by kernel_rfl) (by kernel_rfl) (by kernel_rfl) rfl rfl rfl rfl rfl rfl (Qt_loadA (m := 5) (cs := Access.cells a) rfl rfl rfl rfl ⟨rfl, Rdc.blk (.tail _ (.tail _ (.tail _ (.tail _ (.tail _ (.tail _ (.head _))))))) rfl⟩) ?_
      refine Aw_one 16 (by kernel_rfl) (Ax_mkw rfl rfl rfl rfl rfl (OpW_callP (v0 := (.bool (grantedS raw.abs a))) rfl Try.call36 rfl rfl (c_granted raw a _ _ hs126) ⟨(Inc.cons (.head _) (Inc.cons (.tail _ (.head _)) (Inc.cons (.tail _ (.tail _ (.head _))) (Inc.cons (.tail _ (.tail _ (.tail _ (.head _)))) (Inc.cons (.tail _ (.tail _ (.tail _ (.tail _ (.head _))))) (Inc.cons (.tail _ (.tail _ (.tail _ (.tail _ (.tail _ (.head _)))))) (Inc.cons (.tail _ (.tail _ (.tail _ (.tail _ (.tail _ (.tail _ (.head _))))))) (Inc.cons (.tail _ (.tail _ (.tail _ (.tail _ (.tail _ (.tail _ (.tail _ (.head _)))))))) Inc.nil)))))))), ?_⟩))
      refine Aw_one 19 (by kernel_rfl) (Ax_mkw rfl rfl rfl rfl rfl (OpW_callP (v0 := (.bool (grantedS raw.abs a))) rfl Try.call37 rfl rfl (c_grantedR raw a _ _ hs126) ⟨(Inc.cons (.head _) (Inc.cons (.tail _ (.head _)) (Inc.cons (.tail _ (.tail _ (.head _))) (Inc.cons (.tail _ (.tail _ (.tail _ (.head _)))) (Inc.cons (.tail _ (.tail _ (.tail _ (.tail _ (.head _))))) (Inc.cons (.tail _ (.tail _ (.tail _ (.tail _ (.tail _ (.head _)))))) (Inc.cons (.tail _ (.tail _ (.tail _ (.tail _ (.tail _ (.tail _ (.head _))))))) (Inc.cons (.tail _ (.tail _ (.tail _ (.tail _ (.tail _ (.tail _ (.tail _ (.head _)))))))) Inc.nil)))))))), ?_⟩))
      refine Aw_qw 20 rfl (by kernel_rfl) (by kernel_rfl) (by kernel_rfl) rfl rfl rfl rfl rfl rfl (Qt_eqB rfl rfl rfl) ?_
      refine Aw_q 21 rfl (by kernel_rfl) (by kernel_rfl) (by kernel_rfl) rfl rfl rfl (Qt_pick_t rfl rfl) ?_
      refine Aw_q 22 rfl (by kernel_rfl) (by kernel_rfl) (by kernel_rfl) rfl rfl rfl (Qt_assign rfl) ?_
      refine Aw_done (by kernel_rfl) ?_
      refine Cw_ret ?_
      refine ⟨(by first | exact .inl rfl | exact .inr rfl), [(.bool ((grantedS raw.abs a) == (grantedS raw.abs a)))], G, ⟨(.bool ((grantedS raw.abs a) == (grantedS raw.abs a))), _, rfl, rfl, rfl⟩, .cons _ (.cons _ (.cons _ (.cons _ (.cons _ (.cons _ (.cons _ (.cons _ (.refl _)))))))), ?_⟩
      first | rfl | (exfalso; omega) | (exfalso; simp_all; done) | (simp_all [mkRes]; done)

end Go.Ghl
