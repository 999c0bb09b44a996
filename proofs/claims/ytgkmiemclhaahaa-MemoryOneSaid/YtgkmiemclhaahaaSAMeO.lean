/- Contracts of functions, walked: printed by program. -/
import Derived.Test.YtgkmiemclhaahaaProg
import Derived.Test.YtgkmiemclhaahaaGhlMore
import Derived.Test.YtgkmiemclhaahaaSACoM
namespace Go.Ghl
open Go.Proofs
set_option linter.unusedSimpArgs false
set_option linter.unusedVariables false

theorem wordS_shape (m : Mm) (a : Access) : (wordS m a).1.w.length = m.w.length ∧ (wordS m a).1.l = m.l ∧ (wordS m a).1.t = m.t := by
  unfold wordS
  split
  · exact ⟨rfl, rfl, rfl⟩
  · (repeat' split) <;> simp
theorem listS_shape (m : Mm) (a : Access) : (listS m a).1.w = m.w ∧ (listS m a).1.l.length = m.l.length ∧ (listS m a).1.t = m.t := by
  unfold listS
  split
  · exact ⟨rfl, rfl, rfl⟩
  · split <;> simp
theorem apply_shape {m p : Mem} {b : An} {a : Access} (h : (p.abs, b) = applyS m.abs a) : p.words.l.length = m.words.l.length ∧ p.lists.l.length = m.lists.l.length ∧ p.tick = m.tick := by
  have h1 : p.abs = (applyS m.abs a).1 := by rw [← h]
  have e1 : p.abs.w.length = m.abs.w.length ∧ p.abs.l.length = m.abs.l.length ∧ p.abs.t = m.abs.t := by
    rw [h1, applyS]
    split
    · split
      · have := listS_shape m.abs a; exact ⟨by rw [this.1], this.2.1, this.2.2⟩
      · have := wordS_shape m.abs a; exact ⟨this.1, by rw [this.2.1], this.2.2⟩
    · exact ⟨rfl, rfl, rfl⟩
  simpa [Mem.abs] using e1
theorem apply_word {m p : Mem} {b : Answer} {a : Access} {i : Nat} {x y : Int} (h : (p.abs, b.abs) = applyS m.abs a) (hx : p.words.l[i]? = some x) (hy : m.words.l[i]? = some y) (hne : ¬ x = y) : (i : Int) = a.address ∧ a.kind < 7 ∧ writes a.kind = true ∧ (a.kind = 3 → b.ok = true) := by
  have h1 : p.words.l = (applyS m.abs a).1.w := by rw [← h]; rfl
  have h2 : b.ok = (applyS m.abs a).2.ok := by rw [← h]; rfl
  have hy' : m.abs.w[i]? = some y := hy
  rw [h1, applyS] at hx
  rw [applyS] at h2
  split at hx
  · rename_i hg
    rw [if_pos hg] at h2
    split at hx
    · rw [(listS_shape m.abs a).1, hy'] at hx; cases hx; exact absurd rfl hne
    · rename_i hk
      rw [if_neg hk] at h2
      unfold wordS at hx h2
      split at hx
      · rw [hy'] at hx; cases hx; exact absurd rfl hne
      · rename_i w hw
        simp only [hw] at h2
        have h0 := getI_get hw
        have key : ∀ z, (m.abs.w.set a.address.toNat z)[i]? = some x → (i : Int) = a.address := by
          intro z hz
          rw [List.getElem?_set] at hz
          split at hz
          · omega
          · rw [hy'] at hz; cases hz; exact absurd rfl hne
        split at hx
        · rename_i hk2
          exact ⟨key _ hx, by omega, by unfold writes; rcases hk2 with e | e <;> simp [e], fun e => by omega⟩
        · rename_i hk2
          rw [if_neg hk2] at h2
          split at hx
          · rename_i hk3
            rw [if_pos hk3] at h2
            exact ⟨key _ hx, by omega, by unfold writes; simp [hk3.1], fun _ => h2⟩
          · split at hx <;> (rw [hy'] at hx; cases hx; exact absurd rfl hne)
  · rw [hy'] at hx; cases hx; exact absurd rfl hne
theorem apply_list {m p : Mem} {b : Answer} {a : Access} {i : Nat} {x y : SI} (h : (p.abs, b.abs) = applyS m.abs a) (hx : p.lists.l[i]? = some x) (hy : m.lists.l[i]? = some y) (hne : ¬ x.l = y.l) : (i : Int) = a.address ∧ a.kind ≥ 7 ∧ writes a.kind = true ∧ (a.kind = 3 → b.ok = true) := by
  have h1 : p.lists.l.map SI.l = (applyS m.abs a).1.l := by rw [← h]; rfl
  have hx' : (applyS m.abs a).1.l[i]? = some x.l := by rw [← h1]; simp [hx]
  have hy' : m.abs.l[i]? = some y.l := by simp [Mem.abs, hy]
  rw [applyS] at hx'
  split at hx'
  · rename_i hg
    split at hx'
    · rename_i hk
      have hle := granted_le hg
      unfold listS at hx'
      split at hx'
      · rw [hy', Option.some.injEq] at hx'; exact absurd hx'.symm hne
      · split at hx'
        · rw [hy', Option.some.injEq] at hx'; exact absurd hx'.symm hne
        · rename_i l hl hk7
          have h0 := getI_get hl
          have hi : (i : Int) = a.address := by
            rw [List.getElem?_set] at hx'
            split at hx'
            · omega
            · rw [hy', Option.some.injEq] at hx'; exact absurd hx'.symm hne
          exact ⟨hi, by omega, by unfold writes; rcases (show a.kind = 8 ∨ a.kind = 9 by omega) with e | e <;> simp [e], fun e => by omega⟩
    · rw [(wordS_shape m.abs a).2.1, hy', Option.some.injEq] at hx'; exact absurd hx'.symm hne
  · rw [hy', Option.some.injEq] at hx'; exact absurd hx'.symm hne

set_option maxHeartbeats 1000000 in
theorem c_memoryOne (A : Option Addr) (cp : Nat) (cl : List UInt8) (K : Kp) (G : List Ent) (hcl : Sl K (.slice A cl.length cp) 1 (cl.map u8c)) :
    Fc Try.prog 9 #[(.slice A cl.length cp)] K G (fun v K' G' => v = .bool true) := by
  refine Fc_of Try.func9 rfl Try.ntmps9 Try.results9 rfl ?_
  refine Cw_seq ?_
  refine Cw_region ?_
  refine Ow_q rfl rfl rfl (Qt_assign rfl) ?_
  refine Ow_nil ?_
  refine Cw_seq ?_
  refine Cw_seq ?_
  refine Cw_region ?_
  refine Ow_cons rfl (OpW_call rfl Try.call30 rfl rfl (c_awake4 _ _) ?_)
  rintro _ K1 _ hK2 ⟨rfl, rfl⟩
  have hs3 := hcl.mono hK2
  refine Ow_q rfl rfl rfl (Qt_not rfl) ?_
  refine Ow_nil ?_
  refine Cw_cond_f rfl ?_
  refine Cw_skip ?_
  refine Cw_seq ?_
  refine Cw_region ?_
  refine Ow_q rfl rfl rfl (Qt_move rfl) ?_
  have hs5 := Sl.takeN 60 hs3
  refine Ow_cons rfl (OpW_call rfl Try.call14 rfl rfl (c_new A cp cl 60 _ _ hs3) ?_)
  rintro _ _ _ - ⟨b4, rfl, rfl, rfl⟩
  refine Ow_q rfl rfl rfl (Qt_assign rfl) ?_
  refine Ow_nil ?_
  refine Cw_seq ?_
  refine Cw_region ?_
  refine Ow_q rfl rfl rfl (Qt_move rfl) ?_
  refine Ow_cons rfl (OpW_call rfl Try.call32 rfl rfl (Fc.move [] (G) rfl fun G1 => c_memory b4 A cp (Cd.mk (cl.take 60) 0 0) _ G1 hs5) ?_)
  rintro _ K8 _ hK9 ⟨_, _, rfl, m6, at7, rfl, rfl, rfl, hm10, hz11, hz12, hz13, hz14⟩
  have hs15 := hs3.mono hK9
  have hs16 := hs5.mono hK9
  have hm10w := Sl.le hm10.w
  have hm10l := Sl.le hm10.l
  have hm10zw := hm10.zw
  have hm10zl := hm10.zl
  refine Ow_cons rfl (OpW_alloc (cs := [(.slice none 0 0), (.slice none 0 0), (.int .i64 0)]) rfl rfl rfl rfl (fun b17 => ?_))
  refine Ow_cons rfl (OpW_store (vs := [(.slice m6.words.A m6.words.l.length m6.words.cp), (.slice m6.lists.A m6.lists.l.length m6.lists.cp), (.int .i64 m6.tick)]) (all' := [(.slice m6.words.A m6.words.l.length m6.words.cp), (.slice m6.lists.A m6.lists.l.length m6.lists.cp), (.int .i64 m6.tick)]) rfl rfl rfl rfl rfl .here rfl rfl rfl ?_)
  refine Ow_nil ?_
  refine Cw_seq ?_
  refine Cw_region ?_
  refine Ow_q rfl rfl rfl (Qt_move rfl) ?_
  refine Ow_q rfl rfl rfl (Qt_loadA (m := 3) (cs := Mem.cells m6) rfl rfl rfl rfl ⟨rfl, Rdc.blk (.head _) rfl⟩) ?_
  refine Ow_cons rfl (OpW_call rfl Try.call33 rfl rfl (Fc.move [.blk b17 49 [(.slice m6.words.A m6.words.l.length m6.words.cp), (.slice m6.lists.A m6.lists.l.length m6.lists.cp), (.int .i64 m6.tick)]] (G) rfl fun G1 => c_access b4 A cp (Cd.mk (Cd.mk (cl.take 60) 0 0).list at7 (Cd.mk (cl.take 60) 0 0).value) m6 _ G1 hs16 hm10) ?_)
  rintro _ _ _ - ⟨_, _, rfl, a18, at19, rfl, rfl, rfl, rfl⟩
  refine Ow_cons rfl (OpW_alloc (cs := [(.int .i64 0), (.int .i64 0), (.int .u64 0), (.int .u64 0), (.int .i64 0)]) rfl rfl rfl rfl (fun b20 => ?_))
  refine Ow_cons rfl (OpW_store (vs := [(.int .i64 a18.kind), (.int .i64 a18.address), (.int .u64 a18.old), (.int .u64 a18.new), (.int .i64 a18.until_)]) (all' := [(.int .i64 a18.kind), (.int .i64 a18.address), (.int .u64 a18.old), (.int .u64 a18.new), (.int .i64 a18.until_)]) rfl rfl rfl rfl rfl .here rfl rfl rfl ?_)
  refine Ow_nil ?_
  refine Cw_seq ?_
  refine Cw_region ?_
  refine Ow_q rfl rfl rfl (Qt_loadA (m := 3) (cs := Mem.cells m6) rfl rfl rfl rfl ⟨rfl, Rdc.blk (.tail _ (.head _)) rfl⟩) ?_
  refine Ow_q rfl rfl rfl (Qt_loadA (m := 5) (cs := Access.cells a18) rfl rfl rfl rfl ⟨rfl, Rdc.blk (.head _) rfl⟩) ?_
  refine Ow_cons rfl (OpW_call rfl Try.call34 rfl rfl (c_apply m6 a18 _ _ hm10) ?_)
  rintro _ K23 _ hK24 ⟨m21, b22, rfl, rfl, hm25, hb26, he27⟩
  have he271 : m21.abs = (applyS m6.abs a18).1 := by rw [← he27]
  have he272 : b22.abs = (applyS m6.abs a18).2 := by rw [← he27]
  have hs28 := hs15.mono hK24
  have hs29 := hs16.mono hK24
  have hs30 := hm10.mono hK24
  have hm25w := Sl.le hm25.w
  have hm25l := Sl.le hm25.l
  have hm25zw := hm25.zw
  have hm25zl := hm25.zl
  refine Ow_q rfl rfl rfl (Qt_move rfl) ?_
  refine Ow_q rfl rfl rfl (Qt_extract rfl rfl) ?_
  refine Ow_q rfl rfl rfl (Qt_extract rfl rfl) ?_
  refine Ow_q rfl rfl rfl (Qt_extract rfl rfl) ?_
  refine Ow_cons rfl (OpW_alloc (cs := [(.slice none 0 0), (.slice none 0 0), (.int .i64 0)]) rfl rfl rfl rfl (fun b31 => ?_))
  refine Ow_cons rfl (OpW_alloc (cs := [(.int .u64 0), (.bool false), (.bool false), (.slice none 0 0)]) rfl rfl rfl rfl (fun b32 => ?_))
  refine Ow_cons rfl (OpW_store (vs := [(.slice m21.words.A m21.words.l.length m21.words.cp), (.slice m21.lists.A m21.lists.l.length m21.lists.cp), (.int .i64 m21.tick)]) (all' := [(.slice m21.words.A m21.words.l.length m21.words.cp), (.slice m21.lists.A m21.lists.l.length m21.lists.cp), (.int .i64 m21.tick)]) rfl rfl rfl rfl rfl (.there .here) rfl rfl rfl ?_)
  refine Ow_cons rfl (OpW_store (vs := [(.int .u64 b22.value), (.bool b22.ok), (.bool b22.late), (.slice b22.list.A b22.list.l.length b22.list.cp)]) (all' := [(.int .u64 b22.value), (.bool b22.ok), (.bool b22.late), (.slice b22.list.A b22.list.l.length b22.list.cp)]) rfl rfl rfl rfl rfl .here rfl rfl rfl ?_)
  refine Ow_q rfl rfl rfl (Qt_assign rfl) ?_
  refine Ow_nil ?_
  refine Cw_seq ?_
  refine Cw_seq ?_
  have hsh := apply_shape he27
  obtain ⟨hsh1, hsh2, hsh3⟩ := hsh
  refine Cw_region ?_
  refine Ow_q rfl rfl rfl (Qt_fieldAddr (m := 0) rfl rfl rfl rfl rfl) ?_
  refine Ow_q rfl rfl rfl (Qt_load1 (v := (.slice m21.words.A m21.words.l.length m21.words.cp)) rfl rfl rfl (Rdc.blk (.tail _ (.head _)) rfl)) ?_
  refine Ow_q rfl rfl rfl (Qt_len rfl rfl) ?_
  refine Ow_q rfl rfl rfl (Qt_fieldAddr (m := 0) rfl rfl rfl rfl rfl) ?_
  refine Ow_q rfl rfl rfl (Qt_load1 (v := (.slice m6.words.A m6.words.l.length m6.words.cp)) rfl rfl rfl (Rdc.blk (.tail _ (.tail _ (.tail _ (.head _)))) rfl)) ?_
  refine Ow_q rfl rfl rfl (Qt_len rfl rfl) ?_
  refine Ow_q rfl rfl rfl (Qt_cmp rfl rfl rfl) ?_
  refine Ow_q rfl rfl rfl (Qt_move rfl) ?_
  refine Ow_caseG rfl rfl rfl ?_ ?_
  · intro h33
    have h33 := dcd_f (nt_t (h33))
    refine Ow_pass rfl rfl rfl rfl rfl rfl rfl ?_
    refine Ow_pass rfl rfl rfl rfl rfl rfl rfl ?_
    refine Ow_pass rfl rfl rfl rfl rfl rfl rfl ?_
    refine Ow_pass rfl rfl rfl rfl rfl rfl rfl ?_
    refine Ow_pass rfl rfl rfl rfl rfl rfl rfl ?_
    refine Ow_pass rfl rfl rfl rfl rfl rfl rfl ?_
    refine Ow_pass rfl rfl rfl rfl rfl rfl rfl ?_
    refine Ow_q rfl rfl rfl (Qt_pick_t rfl rfl) ?_
    refine Ow_q rfl rfl rfl (Qt_move rfl) ?_
    refine Ow_pass rfl rfl rfl rfl rfl rfl rfl ?_
    refine Ow_pass rfl rfl rfl rfl rfl rfl rfl ?_
    refine Ow_pass rfl rfl rfl rfl rfl rfl rfl ?_
    refine Ow_pass rfl rfl rfl rfl rfl rfl rfl ?_
    refine Ow_pass rfl rfl rfl rfl rfl rfl rfl ?_
    refine Ow_q rfl rfl rfl (Qt_pick_t rfl rfl) ?_
    refine Ow_nil ?_
    refine Cw_cond_t rfl ?_
    refine Cw_seq ?_
    refine Cw_region ?_
    refine Ow_q rfl rfl rfl (Qt_assign rfl) ?_
    refine Ow_nil ?_
    refine Cw_ret ?_
    refine ⟨(by first | exact .inl rfl | exact .inr rfl), [(.bool false)], G, ⟨(.bool false), _, rfl, rfl, rfl⟩, .cons _ (.cons _ (.cons _ (.cons _ (.cons _ (.refl _))))), ?_⟩
    first | rfl | (exfalso; omega) | (rcases hn with hn | ⟨hn1, hn2, hn3⟩ <;> first | (exfalso; omega) | (simp_all [mkRes, dcd_eq]; done) | (simp_all [mkRes, dcd_eq]; omega))
  · intro h33
    have h33 := dcd_t (nt_f (h33))
    refine Ow_qw rfl rfl rfl rfl rfl rfl (Qt_fieldAddr (m := 1) rfl rfl rfl rfl rfl) ?_
    refine Ow_qw rfl rfl rfl rfl rfl rfl (Qt_load1 (v := (.slice m21.lists.A m21.lists.l.length m21.lists.cp)) rfl rfl rfl (Rdc.blk (.tail _ (.head _)) rfl)) ?_
    refine Ow_qw rfl rfl rfl rfl rfl rfl (Qt_len rfl rfl) ?_
    refine Ow_qw rfl rfl rfl rfl rfl rfl (Qt_fieldAddr (m := 1) rfl rfl rfl rfl rfl) ?_
    refine Ow_qw rfl rfl rfl rfl rfl rfl (Qt_load1 (v := (.slice m6.lists.A m6.lists.l.length m6.lists.cp)) rfl rfl rfl (Rdc.blk (.tail _ (.tail _ (.tail _ (.head _)))) rfl)) ?_
    refine Ow_qw rfl rfl rfl rfl rfl rfl (Qt_len rfl rfl) ?_
    refine Ow_qw rfl rfl rfl rfl rfl rfl (Qt_cmp rfl rfl rfl) ?_
    refine Ow_q rfl rfl rfl (Qt_pick_f rfl rfl) ?_
    refine Ow_q rfl rfl rfl (Qt_move rfl) ?_
    refine Ow_caseG rfl rfl rfl ?_ ?_
    · intro h34
      have h34 := dcd_f (nt_t (h34))
      refine Ow_pass rfl rfl rfl rfl rfl rfl rfl ?_
      refine Ow_pass rfl rfl rfl rfl rfl rfl rfl ?_
      refine Ow_pass rfl rfl rfl rfl rfl rfl rfl ?_
      refine Ow_pass rfl rfl rfl rfl rfl rfl rfl ?_
      refine Ow_pass rfl rfl rfl rfl rfl rfl rfl ?_
      refine Ow_q rfl rfl rfl (Qt_pick_t rfl rfl) ?_
      refine Ow_nil ?_
      refine Cw_cond_t rfl ?_
      refine Cw_seq ?_
      refine Cw_region ?_
      refine Ow_q rfl rfl rfl (Qt_assign rfl) ?_
      refine Ow_nil ?_
      refine Cw_ret ?_
      refine ⟨(by first | exact .inl rfl | exact .inr rfl), [(.bool false)], G, ⟨(.bool false), _, rfl, rfl, rfl⟩, .cons _ (.cons _ (.cons _ (.cons _ (.cons _ (.refl _))))), ?_⟩
      first | rfl | (exfalso; omega) | (rcases hn with hn | ⟨hn1, hn2, hn3⟩ <;> first | (exfalso; omega) | (simp_all [mkRes, dcd_eq]; done) | (simp_all [mkRes, dcd_eq]; omega))
    · intro h34
      have h34 := dcd_t (nt_f (h34))
      refine Ow_qw rfl rfl rfl rfl rfl rfl (Qt_fieldAddr (m := 2) rfl rfl rfl rfl rfl) ?_
      refine Ow_qw rfl rfl rfl rfl rfl rfl (Qt_load1 (v := (.int .i64 m21.tick)) rfl rfl rfl (Rdc.blk (.tail _ (.head _)) rfl)) ?_
      refine Ow_qw rfl rfl rfl rfl rfl rfl (Qt_fieldAddr (m := 2) rfl rfl rfl rfl rfl) ?_
      refine Ow_qw rfl rfl rfl rfl rfl rfl (Qt_load1 (v := (.int .i64 m6.tick)) rfl rfl rfl (Rdc.blk (.tail _ (.tail _ (.tail _ (.head _)))) rfl)) ?_
      refine Ow_qw rfl rfl rfl rfl rfl rfl (Qt_cmp rfl rfl rfl) ?_
      refine Ow_q rfl rfl rfl (Qt_pick_f rfl rfl) ?_
      refine Ow_nil ?_
      refine Cw_cond rfl ?_ ?_
      · intro h35
        have h35 := dcd_f (nt_t (h35))
        refine Cw_seq ?_
        refine Cw_region ?_
        refine Ow_q rfl rfl rfl (Qt_assign rfl) ?_
        refine Ow_nil ?_
        refine Cw_ret ?_
        refine ⟨(by first | exact .inl rfl | exact .inr rfl), [(.bool false)], G, ⟨(.bool false), _, rfl, rfl, rfl⟩, .cons _ (.cons _ (.cons _ (.cons _ (.cons _ (.refl _))))), ?_⟩
        first | rfl | (exfalso; omega) | (rcases hn with hn | ⟨hn1, hn2, hn3⟩ <;> first | (exfalso; omega) | (simp_all [mkRes, dcd_eq]; done) | (simp_all [mkRes, dcd_eq]; omega))
      · intro h35
        have h35 := dcd_t (nt_f (h35))
        refine Cw_skip ?_
        refine Cw_seq ?_
        refine Cw_region ?_
        refine Ow_q rfl rfl rfl (Qt_assign rfl) ?_
        refine Ow_nil ?_
        refine Cw_seq ?_
        refine Cw_seq ?_
        refine Cw_region ?_
        refine Ow_q rfl rfl rfl (Qt_fieldAddr (m := 0) rfl rfl rfl rfl rfl) ?_
        refine Ow_q rfl rfl rfl (Qt_load1 (v := (.slice m6.words.A m6.words.l.length m6.words.cp)) rfl rfl rfl (Rdc.blk (.tail _ (.tail _ (.tail _ (.head _)))) rfl)) ?_
        refine Ow_q rfl rfl rfl (Qt_len rfl rfl) ?_
        refine Ow_q rfl rfl rfl (Qt_move rfl) ?_
        refine Ow_nil ?_
        refine Cw_block ?_
        refine Cw_loop (S := Nat) (fun s env' K' G' => ∃ (k : Nat) (n : Nat), m6.words.l.length - k = s ∧ [(4, (.pointer (some ((⟨b17, 0, none⟩ : Addr).add 0)))), (5, (.pointer (some ((⟨b20, 0, none⟩ : Addr).add 0)))), (6, (.pointer (some ((⟨b31, 0, none⟩ : Addr).add 0)))), (7, (.pointer (some ((⟨b32, 0, none⟩ : Addr).add 0)))), (53, (.int .i64 ((m6.words.l.length : Nat) : Int))), (54, (.int .i64 ((k : Nat) : Int))), (9, (.int .i64 ((n : Nat) : Int)))] = env' ∧ K23 = K' ∧ .blk b32 40 [(.int .u64 b22.value), (.bool b22.ok), (.bool b22.late), (.slice b22.list.A b22.list.l.length b22.list.cp)] :: .blk b31 49 [(.slice m21.words.A m21.words.l.length m21.words.cp), (.slice m21.lists.A m21.lists.l.length m21.lists.cp), (.int .i64 m21.tick)] :: .blk b20 24 [(.int .i64 a18.kind), (.int .i64 a18.address), (.int .u64 a18.old), (.int .u64 a18.new), (.int .i64 a18.until_)] :: .blk b17 49 [(.slice m6.words.A m6.words.l.length m6.words.cp), (.slice m6.lists.A m6.lists.l.length m6.lists.cp), (.int .i64 m6.tick)] :: G = G' ∧ k ≤ m6.words.l.length ∧ (n = 0 ∨ (n = 1 ∧ a18.address < ((k : Nat) : Int) ∧ a18.kind < 7 ∧ writes a18.kind = true ∧ (a18.kind = 3 → b22.ok = true)))) (fun s => s) (m6.words.l.length - 0) [(4, (.pointer (some ((⟨b17, 0, none⟩ : Addr).add 0)))), (5, (.pointer (some ((⟨b20, 0, none⟩ : Addr).add 0)))), (6, (.pointer (some ((⟨b31, 0, none⟩ : Addr).add 0)))), (7, (.pointer (some ((⟨b32, 0, none⟩ : Addr).add 0)))), (53, (.int .i64 ((m6.words.l.length : Nat) : Int))), (54, (.int .i64 ((0 : Nat) : Int))), (9, (.int .i64 ((0 : Nat) : Int)))] (.blk b32 40 [(.int .u64 b22.value), (.bool b22.ok), (.bool b22.late), (.slice b22.list.A b22.list.l.length b22.list.cp)] :: .blk b31 49 [(.slice m21.words.A m21.words.l.length m21.words.cp), (.slice m21.lists.A m21.lists.l.length m21.lists.cp), (.int .i64 m21.tick)] :: .blk b20 24 [(.int .i64 a18.kind), (.int .i64 a18.address), (.int .u64 a18.old), (.int .u64 a18.new), (.int .i64 a18.until_)] :: .blk b17 49 [(.slice m6.words.A m6.words.l.length m6.words.cp), (.slice m6.lists.A m6.lists.l.length m6.lists.cp), (.int .i64 m6.tick)] :: G)
          ⟨0, 0, rfl, rfl, rfl, rfl, (Nat.zero_le _), (.inl rfl)⟩ ⟨rfl, rfl, rfl, rfl, rfl, rfl, rfl, trivial⟩ (.cons_cons _ (.cons_cons _ (.cons_cons _ (.cons_cons _ (.cons _ (.refl _)))))) ?_
        rintro s _ _ _ - ⟨k, n, rfl, rfl, rfl, rfl, hk, hn⟩
        refine Cw_seq ?_
        refine Cw_region ?_
        refine Ow_q rfl rfl rfl (Qt_cmp rfl rfl rfl) ?_
        refine Ow_nil ?_
        refine Cw_seq ?_
        refine Cw_cond rfl ?_ ?_
        · intro h36
          have h36 := dcd_t (h36)
          refine Cw_skip ?_
          refine Cw_seq ?_
          refine Cw_block ?_
          refine Cw_seq ?_
          refine Cw_region ?_
          refine Ow_q rfl rfl rfl (Qt_move rfl) ?_
          refine Ow_q rfl rfl rfl (Qt_assign rfl) ?_
          refine Ow_nil ?_
          refine Cw_seq ?_
          refine Cw_region_any [.blk b32 40 [(.int .u64 b22.value), (.bool b22.ok), (.bool b22.late), (.slice b22.list.A b22.list.l.length b22.list.cp)], .blk b31 49 [(.slice m21.words.A m21.words.l.length m21.words.cp), (.slice m21.lists.A m21.lists.l.length m21.lists.cp), (.int .i64 m21.tick)], .blk b20 24 [(.int .i64 a18.kind), (.int .i64 a18.address), (.int .u64 a18.old), (.int .u64 a18.new), (.int .i64 a18.until_)], .blk b17 49 [(.slice m6.words.A m6.words.l.length m6.words.cp), (.slice m6.lists.A m6.lists.l.length m6.lists.cp), (.int .i64 m6.tick)]] rfl (Inc.cons (.head _) (Inc.cons (.tail _ (.head _)) (Inc.cons (.tail _ (.tail _ (.head _))) (Inc.cons (.tail _ (.tail _ (.tail _ (.head _)))) Inc.nil)))) ?_
          refine Aw_q 0 rfl (by kernel_rfl) (by kernel_rfl) (by kernel_rfl) rfl rfl rfl (Qt_fieldAddr (m := 0) rfl rfl rfl rfl rfl) ?_
          refine Aw_q 1 rfl (by kernel_rfl) (by kernel_rfl) (by kernel_rfl) rfl rfl rfl (Qt_load1 (v := (.slice m21.words.A m21.words.l.length m21.words.cp)) rfl rfl rfl (Rdc.blk (.tail _ (.head _)) rfl)) ?_
          refine Aw_q 2 rfl (by kernel_rfl) (by kernel_rfl) (by kernel_rfl) rfl rfl rfl (Qt_move rfl) ?_
          obtain ⟨x37, hx38⟩ : ∃ x, m21.words.l[k]? = some x := ⟨_, List.getElem?_eq_getElem (by first | omega | (simp only [List.length_append, List.length_cons, List.length_nil, List.length_replicate, List.length_set]; omega) | (simp; omega))⟩
          refine Aw_q 3 rfl (by kernel_rfl) (by kernel_rfl) (by kernel_rfl) rfl rfl rfl (Qt_ixK (q := k) rfl rfl rfl rfl rfl hm25.w rfl (map_get hx38)) ?_
          refine Aw_q 4 rfl (by kernel_rfl) (by kernel_rfl) (by kernel_rfl) rfl rfl rfl (Qt_load1 (v := (.int .u64 x37)) rfl rfl rfl (Rdc.k (Sl.at hm25.w (map_get hx38)) rfl)) ?_
          refine Aw_q 5 rfl (by kernel_rfl) (by kernel_rfl) (by kernel_rfl) rfl rfl rfl (Qt_fieldAddr (m := 0) rfl rfl rfl rfl rfl) ?_
          refine Aw_q 6 rfl (by kernel_rfl) (by kernel_rfl) (by kernel_rfl) rfl rfl rfl (Qt_load1 (v := (.slice m6.words.A m6.words.l.length m6.words.cp)) rfl rfl rfl (Rdc.blk (.tail _ (.tail _ (.tail _ (.head _)))) rfl)) ?_
          refine Aw_q 7 rfl (by kernel_rfl) (by kernel_rfl) (by kernel_rfl) rfl rfl rfl (Qt_move rfl) ?_
          obtain ⟨x39, hx40⟩ : ∃ x, m6.words.l[k]? = some x := ⟨_, List.getElem?_eq_getElem (by first | omega | (simp only [List.length_append, List.length_cons, List.length_nil, List.length_replicate, List.length_set]; omega) | (simp; omega))⟩
          refine Aw_q 8 rfl (by kernel_rfl) (by kernel_rfl) (by kernel_rfl) rfl rfl rfl (Qt_ixK (q := k) rfl rfl rfl rfl rfl hs30.w rfl (map_get hx40)) ?_
          refine Aw_q 9 rfl (by kernel_rfl) (by kernel_rfl) (by kernel_rfl) rfl rfl rfl (Qt_load1 (v := (.int .u64 x39)) rfl rfl rfl (Rdc.k (Sl.at hs30.w (map_get hx40)) rfl)) ?_
          refine Aw_q 10 rfl (by kernel_rfl) (by kernel_rfl) (by kernel_rfl) rfl rfl rfl (Qt_cmp rfl rfl rfl) ?_
          refine Aw_done (by kernel_rfl) ?_
          refine Cw_cond rfl ?_ ?_
          · intro h41
            have h41 := dcd_f (nt_t (h41))
            refine Cw_seq ?_
            refine Cw_region ?_
            refine Ow_q rfl rfl rfl (Qt_move rfl) ?_
            refine Ow_q rfl rfl rfl (Qt_arith (e := (((n : Nat) : Int) + 1)) rfl rfl rfl (wrap_eq (by omega) (by omega))) ?_
            refine Ow_q rfl rfl rfl (Qt_assign rfl) ?_
            refine Ow_nil ?_
            refine Cw_seq ?_
            refine Cw_region ?_
            refine Ow_q rfl rfl rfl (Qt_move rfl) ?_
            refine Ow_q rfl rfl rfl (Qt_fieldAddr (m := 1) rfl rfl rfl rfl rfl) ?_
            refine Ow_q rfl rfl rfl (Qt_load1 (v := (.int .i64 a18.address)) rfl rfl rfl (Rdc.blk (.tail _ (.tail _ (.head _))) rfl)) ?_
            refine Ow_q rfl rfl rfl (Qt_cmp rfl rfl rfl) ?_
            refine Ow_q rfl rfl rfl (Qt_move rfl) ?_
            refine Ow_caseG rfl rfl rfl ?_ ?_
            · intro h42
              have h42 := dcd_f (nt_t (h42))
              refine Ow_pass rfl rfl rfl rfl rfl rfl rfl ?_
              refine Ow_pass rfl rfl rfl rfl rfl rfl rfl ?_
              refine Ow_pass rfl rfl rfl rfl rfl rfl rfl ?_
              refine Ow_q rfl rfl rfl (Qt_pick_t rfl rfl) ?_
              refine Ow_nil ?_
              refine Cw_cond_t rfl ?_
              refine Cw_seq ?_
              refine Cw_region ?_
              refine Ow_q rfl rfl rfl (Qt_assign rfl) ?_
              refine Ow_nil ?_
              refine Cw_ret ?_
              refine ⟨(by first | exact .inl rfl | exact .inr rfl), [(.bool false)], G, ⟨(.bool false), _, rfl, rfl, rfl⟩, .cons _ (.cons _ (.cons _ (.cons _ (.refl _)))), ?_⟩
              exfalso
              have w := apply_word he27 hx38 hx40 (by first | assumption | (intro e; simp_all))
              first | omega | (rcases hn with hn | ⟨hn1, hn2, hn3⟩ <;> omega)
            · intro h42
              have h42 := dcd_t (nt_f (h42))
              refine Ow_qw rfl rfl rfl rfl rfl rfl (Qt_fieldAddr (m := 0) rfl rfl rfl rfl rfl) ?_
              refine Ow_qw rfl rfl rfl rfl rfl rfl (Qt_load1 (v := (.int .i64 a18.kind)) rfl rfl rfl (Rdc.blk (.tail _ (.tail _ (.head _))) rfl)) ?_
              refine Ow_qw rfl rfl rfl rfl rfl rfl (Qt_cmp rfl rfl rfl) ?_
              refine Ow_q rfl rfl rfl (Qt_pick_f rfl rfl) ?_
              refine Ow_nil ?_
              refine Cw_cond rfl ?_ ?_
              · intro h43
                have h43 := dcd_t (h43)
                refine Cw_seq ?_
                refine Cw_region ?_
                refine Ow_q rfl rfl rfl (Qt_assign rfl) ?_
                refine Ow_nil ?_
                refine Cw_ret ?_
                refine ⟨(by first | exact .inl rfl | exact .inr rfl), [(.bool false)], G, ⟨(.bool false), _, rfl, rfl, rfl⟩, .cons _ (.cons _ (.cons _ (.cons _ (.refl _)))), ?_⟩
                exfalso
                have w := apply_word he27 hx38 hx40 (by first | assumption | (intro e; simp_all))
                first | omega | (rcases hn with hn | ⟨hn1, hn2, hn3⟩ <;> omega)
              · intro h43
                have h43 := dcd_f (h43)
                refine Cw_skip ?_
                refine Cw_region ?_
                refine Ow_q rfl rfl rfl (Qt_arith (e := (((k : Nat) : Int) + 1)) rfl rfl rfl (wrap_eq (by omega) (by omega))) ?_
                refine Ow_q rfl rfl rfl (Qt_move rfl) ?_
                refine Ow_nil ?_
                refine ⟨_, [(4, (.pointer (some ((⟨b17, 0, none⟩ : Addr).add 0)))), (5, (.pointer (some ((⟨b20, 0, none⟩ : Addr).add 0)))), (6, (.pointer (some ((⟨b31, 0, none⟩ : Addr).add 0)))), (7, (.pointer (some ((⟨b32, 0, none⟩ : Addr).add 0)))), (53, (.int .i64 ((m6.words.l.length : Nat) : Int))), (54, (.int .i64 (((k + 1) : Nat) : Int))), (9, (.int .i64 (((n + 1) : Nat) : Int)))], .blk b32 40 [(.int .u64 b22.value), (.bool b22.ok), (.bool b22.late), (.slice b22.list.A b22.list.l.length b22.list.cp)] :: .blk b31 49 [(.slice m21.words.A m21.words.l.length m21.words.cp), (.slice m21.lists.A m21.lists.l.length m21.lists.cp), (.int .i64 m21.tick)] :: .blk b20 24 [(.int .i64 a18.kind), (.int .i64 a18.address), (.int .u64 a18.old), (.int .u64 a18.new), (.int .i64 a18.until_)] :: .blk b17 49 [(.slice m6.words.A m6.words.l.length m6.words.cp), (.slice m6.lists.A m6.lists.l.length m6.lists.cp), (.int .i64 m6.tick)] :: G, ⟨rfl, rfl, rfl, rfl, rfl, rfl, rfl, trivial⟩, (.cons_cons _ (.cons_cons _ (.cons_cons _ (.cons_cons _ (.refl _))))), (by first | omega | (simp only [List.length_append, List.length_cons, List.length_nil]; omega)), (k + 1), (n + 1), rfl, rfl, rfl, rfl, (by omega), (by have w := apply_word he27 hx38 hx40 (by first | assumption | (intro e; simp_all)); rcases hn with hn | ⟨hn1, hn2, hn3⟩ <;> first | (exfalso; omega) | exact .inr ⟨by omega, by omega, w.2.1, w.2.2⟩ | exact .inr ⟨by omega, .inr (by omega), w.2.2⟩)⟩
          · intro h41
            have h41 := dcd_t (nt_f (h41))
            refine Cw_skip ?_
            refine Cw_region ?_
            refine Ow_q rfl rfl rfl (Qt_arith (e := (((k : Nat) : Int) + 1)) rfl rfl rfl (wrap_eq (by omega) (by omega))) ?_
            refine Ow_q rfl rfl rfl (Qt_move rfl) ?_
            refine Ow_nil ?_
            refine ⟨_, [(4, (.pointer (some ((⟨b17, 0, none⟩ : Addr).add 0)))), (5, (.pointer (some ((⟨b20, 0, none⟩ : Addr).add 0)))), (6, (.pointer (some ((⟨b31, 0, none⟩ : Addr).add 0)))), (7, (.pointer (some ((⟨b32, 0, none⟩ : Addr).add 0)))), (53, (.int .i64 ((m6.words.l.length : Nat) : Int))), (54, (.int .i64 (((k + 1) : Nat) : Int))), (9, (.int .i64 ((n : Nat) : Int)))], .blk b32 40 [(.int .u64 b22.value), (.bool b22.ok), (.bool b22.late), (.slice b22.list.A b22.list.l.length b22.list.cp)] :: .blk b31 49 [(.slice m21.words.A m21.words.l.length m21.words.cp), (.slice m21.lists.A m21.lists.l.length m21.lists.cp), (.int .i64 m21.tick)] :: .blk b20 24 [(.int .i64 a18.kind), (.int .i64 a18.address), (.int .u64 a18.old), (.int .u64 a18.new), (.int .i64 a18.until_)] :: .blk b17 49 [(.slice m6.words.A m6.words.l.length m6.words.cp), (.slice m6.lists.A m6.lists.l.length m6.lists.cp), (.int .i64 m6.tick)] :: G, ⟨rfl, rfl, rfl, rfl, rfl, rfl, rfl, trivial⟩, (.cons_cons _ (.cons_cons _ (.cons_cons _ (.cons_cons _ (.refl _))))), (by first | omega | (simp only [List.length_append, List.length_cons, List.length_nil]; omega)), (k + 1), n, rfl, rfl, rfl, rfl, (by omega), (by rcases hn with hn | ⟨hn1, hn2, hn3⟩ <;> first | exact .inl hn | exact .inr ⟨hn1, by omega, hn3⟩ | exact .inr ⟨hn1, by omega, hn3.1, hn3.2⟩)⟩
        · intro h36
          have h36 := dcd_f (h36)
          refine Cw_exit ?_
          refine Cw_seq ?_
          refine Cw_seq ?_
          refine Cw_region ?_
          refine Ow_q rfl rfl rfl (Qt_fieldAddr (m := 1) rfl rfl rfl rfl rfl) ?_
          refine Ow_q rfl rfl rfl (Qt_load1 (v := (.slice m6.lists.A m6.lists.l.length m6.lists.cp)) rfl rfl rfl (Rdc.blk (.tail _ (.tail _ (.tail _ (.head _)))) rfl)) ?_
          refine Ow_q rfl rfl rfl (Qt_len rfl rfl) ?_
          refine Ow_q rfl rfl rfl (Qt_move rfl) ?_
          refine Ow_nil ?_
          refine Cw_block ?_
          refine Cw_loop (S := Nat) (fun s env' K' G' => ∃ (k : Nat) (n : Nat), m6.lists.l.length - k = s ∧ [(4, (.pointer (some ((⟨b17, 0, none⟩ : Addr).add 0)))), (5, (.pointer (some ((⟨b20, 0, none⟩ : Addr).add 0)))), (6, (.pointer (some ((⟨b31, 0, none⟩ : Addr).add 0)))), (7, (.pointer (some ((⟨b32, 0, none⟩ : Addr).add 0)))), (82, (.int .i64 ((m6.lists.l.length : Nat) : Int))), (83, (.int .i64 ((k : Nat) : Int))), (9, (.int .i64 ((n : Nat) : Int)))] = env' ∧ K23 = K' ∧ .blk b32 40 [(.int .u64 b22.value), (.bool b22.ok), (.bool b22.late), (.slice b22.list.A b22.list.l.length b22.list.cp)] :: .blk b31 49 [(.slice m21.words.A m21.words.l.length m21.words.cp), (.slice m21.lists.A m21.lists.l.length m21.lists.cp), (.int .i64 m21.tick)] :: .blk b20 24 [(.int .i64 a18.kind), (.int .i64 a18.address), (.int .u64 a18.old), (.int .u64 a18.new), (.int .i64 a18.until_)] :: .blk b17 49 [(.slice m6.words.A m6.words.l.length m6.words.cp), (.slice m6.lists.A m6.lists.l.length m6.lists.cp), (.int .i64 m6.tick)] :: G = G' ∧ k ≤ m6.lists.l.length ∧ (n = 0 ∨ (n = 1 ∧ (a18.kind < 7 ∨ a18.address < ((k : Nat) : Int)) ∧ writes a18.kind = true ∧ (a18.kind = 3 → b22.ok = true)))) (fun s => s) (m6.lists.l.length - 0) [(4, (.pointer (some ((⟨b17, 0, none⟩ : Addr).add 0)))), (5, (.pointer (some ((⟨b20, 0, none⟩ : Addr).add 0)))), (6, (.pointer (some ((⟨b31, 0, none⟩ : Addr).add 0)))), (7, (.pointer (some ((⟨b32, 0, none⟩ : Addr).add 0)))), (82, (.int .i64 ((m6.lists.l.length : Nat) : Int))), (83, (.int .i64 ((0 : Nat) : Int))), (9, (.int .i64 ((n : Nat) : Int)))] (.blk b32 40 [(.int .u64 b22.value), (.bool b22.ok), (.bool b22.late), (.slice b22.list.A b22.list.l.length b22.list.cp)] :: .blk b31 49 [(.slice m21.words.A m21.words.l.length m21.words.cp), (.slice m21.lists.A m21.lists.l.length m21.lists.cp), (.int .i64 m21.tick)] :: .blk b20 24 [(.int .i64 a18.kind), (.int .i64 a18.address), (.int .u64 a18.old), (.int .u64 a18.new), (.int .i64 a18.until_)] :: .blk b17 49 [(.slice m6.words.A m6.words.l.length m6.words.cp), (.slice m6.lists.A m6.lists.l.length m6.lists.cp), (.int .i64 m6.tick)] :: G)
            ⟨0, n, rfl, rfl, rfl, rfl, (Nat.zero_le _), (by rcases hn with hn | ⟨hn1, hn2, hn3, hn4⟩ <;> first | exact .inl hn | exact .inr ⟨hn1, .inl hn3, hn4⟩)⟩ ⟨rfl, rfl, rfl, rfl, rfl, rfl, rfl, trivial⟩ (.cons_cons _ (.cons_cons _ (.cons_cons _ (.cons_cons _ (.refl _))))) ?_
          rintro s _ _ _ - ⟨k, n, rfl, rfl, rfl, rfl, hk, hn⟩
          refine Cw_seq ?_
          refine Cw_region ?_
          refine Ow_q rfl rfl rfl (Qt_cmp rfl rfl rfl) ?_
          refine Ow_nil ?_
          refine Cw_seq ?_
          refine Cw_cond rfl ?_ ?_
          · intro h44
            have h44 := dcd_t (h44)
            refine Cw_skip ?_
            refine Cw_seq ?_
            refine Cw_block ?_
            refine Cw_seq ?_
            refine Cw_region ?_
            refine Ow_q rfl rfl rfl (Qt_move rfl) ?_
            refine Ow_q rfl rfl rfl (Qt_assign rfl) ?_
            refine Ow_nil ?_
            refine Cw_seq ?_
            refine Cw_region_any [.blk b32 40 [(.int .u64 b22.value), (.bool b22.ok), (.bool b22.late), (.slice b22.list.A b22.list.l.length b22.list.cp)], .blk b31 49 [(.slice m21.words.A m21.words.l.length m21.words.cp), (.slice m21.lists.A m21.lists.l.length m21.lists.cp), (.int .i64 m21.tick)], .blk b20 24 [(.int .i64 a18.kind), (.int .i64 a18.address), (.int .u64 a18.old), (.int .u64 a18.new), (.int .i64 a18.until_)], .blk b17 49 [(.slice m6.words.A m6.words.l.length m6.words.cp), (.slice m6.lists.A m6.lists.l.length m6.lists.cp), (.int .i64 m6.tick)]] rfl (Inc.cons (.head _) (Inc.cons (.tail _ (.head _)) (Inc.cons (.tail _ (.tail _ (.head _))) (Inc.cons (.tail _ (.tail _ (.tail _ (.head _)))) Inc.nil)))) ?_
            refine Aw_q 0 rfl (by kernel_rfl) (by kernel_rfl) (by kernel_rfl) rfl rfl rfl (Qt_fieldAddr (m := 1) rfl rfl rfl rfl rfl) ?_
            refine Aw_q 1 rfl (by kernel_rfl) (by kernel_rfl) (by kernel_rfl) rfl rfl rfl (Qt_load1 (v := (.slice m21.lists.A m21.lists.l.length m21.lists.cp)) rfl rfl rfl (Rdc.blk (.tail _ (.head _)) rfl)) ?_
            refine Aw_q 2 rfl (by kernel_rfl) (by kernel_rfl) (by kernel_rfl) rfl rfl rfl (Qt_move rfl) ?_
            obtain ⟨x45, hx46⟩ : ∃ x, m21.lists.l[k]? = some x := ⟨_, List.getElem?_eq_getElem (by first | omega | (simp only [List.length_append, List.length_cons, List.length_nil, List.length_replicate, List.length_set]; omega) | (simp; omega))⟩
            have hs_x45 := (hm25.x _ (List.mem_of_getElem? hx46)).1
            have hz47 := (hm25.x _ (List.mem_of_getElem? hx46)).2
            have hl48 := Sl.le hs_x45
            refine Aw_q 3 rfl (by kernel_rfl) (by kernel_rfl) (by kernel_rfl) rfl rfl rfl (Qt_ixK (q := k) rfl rfl rfl rfl rfl hm25.l rfl (map_get hx46)) ?_
            refine Aw_q 4 rfl (by kernel_rfl) (by kernel_rfl) (by kernel_rfl) rfl rfl rfl (Qt_load1 (v := (.slice x45.A x45.l.length x45.cp)) rfl rfl rfl (Rdc.k (Sl.at hm25.l (map_get hx46)) rfl)) ?_
            refine Aw_q 5 rfl (by kernel_rfl) (by kernel_rfl) (by kernel_rfl) rfl rfl rfl (Qt_fieldAddr (m := 1) rfl rfl rfl rfl rfl) ?_
            refine Aw_q 6 rfl (by kernel_rfl) (by kernel_rfl) (by kernel_rfl) rfl rfl rfl (Qt_load1 (v := (.slice m6.lists.A m6.lists.l.length m6.lists.cp)) rfl rfl rfl (Rdc.blk (.tail _ (.tail _ (.tail _ (.head _)))) rfl)) ?_
            refine Aw_q 7 rfl (by kernel_rfl) (by kernel_rfl) (by kernel_rfl) rfl rfl rfl (Qt_move rfl) ?_
            obtain ⟨x49, hx50⟩ : ∃ x, m6.lists.l[k]? = some x := ⟨_, List.getElem?_eq_getElem (by first | omega | (simp only [List.length_append, List.length_cons, List.length_nil, List.length_replicate, List.length_set]; omega) | (simp; omega))⟩
            have hs_x49 := (hs30.x _ (List.mem_of_getElem? hx50)).1
            have hz51 := (hs30.x _ (List.mem_of_getElem? hx50)).2
            have hl52 := Sl.le hs_x49
            refine Aw_q 8 rfl (by kernel_rfl) (by kernel_rfl) (by kernel_rfl) rfl rfl rfl (Qt_ixK (q := k) rfl rfl rfl rfl rfl hs30.l rfl (map_get hx50)) ?_
            refine Aw_q 9 rfl (by kernel_rfl) (by kernel_rfl) (by kernel_rfl) rfl rfl rfl (Qt_load1 (v := (.slice x49.A x49.l.length x49.cp)) rfl rfl rfl (Rdc.k (Sl.at hs30.l (map_get hx50)) rfl)) ?_
            refine Aw_one 10 (by kernel_rfl) (Ax_mk rfl rfl (OpW_callP (v0 := (.bool (decide (x45.l = x49.l)))) rfl Try.call41 rfl rfl (c_same2 x45.A x45.cp x45.l x49.A x49.cp x49.l _ _ hs_x45 hs_x49) ⟨(Inc.cons (.head _) (Inc.cons (.tail _ (.head _)) (Inc.cons (.tail _ (.tail _ (.head _))) (Inc.cons (.tail _ (.tail _ (.tail _ (.head _)))) Inc.nil)))), ?_⟩))
            refine Aw_q 11 rfl (by kernel_rfl) (by kernel_rfl) (by kernel_rfl) rfl rfl rfl (Qt_not rfl) ?_
            refine Aw_done (by kernel_rfl) ?_
            refine Cw_cond rfl ?_ ?_
            · intro h53
              have h53 := nt_t (h53)
              refine Cw_seq ?_
              refine Cw_region ?_
              refine Ow_q rfl rfl rfl (Qt_move rfl) ?_
              refine Ow_q rfl rfl rfl (Qt_arith (e := (((n : Nat) : Int) + 1)) rfl rfl rfl (wrap_eq (by omega) (by omega))) ?_
              refine Ow_q rfl rfl rfl (Qt_assign rfl) ?_
              refine Ow_nil ?_
              refine Cw_seq ?_
              refine Cw_region ?_
              refine Ow_q rfl rfl rfl (Qt_move rfl) ?_
              refine Ow_q rfl rfl rfl (Qt_fieldAddr (m := 1) rfl rfl rfl rfl rfl) ?_
              refine Ow_q rfl rfl rfl (Qt_load1 (v := (.int .i64 a18.address)) rfl rfl rfl (Rdc.blk (.tail _ (.tail _ (.head _))) rfl)) ?_
              refine Ow_q rfl rfl rfl (Qt_cmp rfl rfl rfl) ?_
              refine Ow_q rfl rfl rfl (Qt_move rfl) ?_
              refine Ow_caseG rfl rfl rfl ?_ ?_
              · intro h54
                have h54 := dcd_f (nt_t (h54))
                refine Ow_pass rfl rfl rfl rfl rfl rfl rfl ?_
                refine Ow_pass rfl rfl rfl rfl rfl rfl rfl ?_
                refine Ow_pass rfl rfl rfl rfl rfl rfl rfl ?_
                refine Ow_q rfl rfl rfl (Qt_pick_t rfl rfl) ?_
                refine Ow_nil ?_
                refine Cw_cond_t rfl ?_
                refine Cw_seq ?_
                refine Cw_region ?_
                refine Ow_q rfl rfl rfl (Qt_assign rfl) ?_
                refine Ow_nil ?_
                refine Cw_ret ?_
                refine ⟨(by first | exact .inl rfl | exact .inr rfl), [(.bool false)], G, ⟨(.bool false), _, rfl, rfl, rfl⟩, .cons _ (.cons _ (.cons _ (.cons _ (.refl _)))), ?_⟩
                exfalso
                have w := apply_list he27 hx46 hx50 (by first | assumption | (intro e; simp_all))
                first | omega | (rcases hn with hn | ⟨hn1, hn2, hn3⟩ <;> omega)
              · intro h54
                have h54 := dcd_t (nt_f (h54))
                refine Ow_qw rfl rfl rfl rfl rfl rfl (Qt_fieldAddr (m := 0) rfl rfl rfl rfl rfl) ?_
                refine Ow_qw rfl rfl rfl rfl rfl rfl (Qt_load1 (v := (.int .i64 a18.kind)) rfl rfl rfl (Rdc.blk (.tail _ (.tail _ (.head _))) rfl)) ?_
                refine Ow_qw rfl rfl rfl rfl rfl rfl (Qt_cmp rfl rfl rfl) ?_
                refine Ow_q rfl rfl rfl (Qt_pick_f rfl rfl) ?_
                refine Ow_nil ?_
                refine Cw_cond rfl ?_ ?_
                · intro h55
                  have h55 := dcd_t (h55)
                  refine Cw_seq ?_
                  refine Cw_region ?_
                  refine Ow_q rfl rfl rfl (Qt_assign rfl) ?_
                  refine Ow_nil ?_
                  refine Cw_ret ?_
                  refine ⟨(by first | exact .inl rfl | exact .inr rfl), [(.bool false)], G, ⟨(.bool false), _, rfl, rfl, rfl⟩, .cons _ (.cons _ (.cons _ (.cons _ (.refl _)))), ?_⟩
                  exfalso
                  have w := apply_list he27 hx46 hx50 (by first | assumption | (intro e; simp_all))
                  first | omega | (rcases hn with hn | ⟨hn1, hn2, hn3⟩ <;> omega)
                · intro h55
                  have h55 := dcd_f (h55)
                  refine Cw_skip ?_
                  refine Cw_region ?_
                  refine Ow_q rfl rfl rfl (Qt_arith (e := (((k : Nat) : Int) + 1)) rfl rfl rfl (wrap_eq (by omega) (by omega))) ?_
                  refine Ow_q rfl rfl rfl (Qt_move rfl) ?_
                  refine Ow_nil ?_
                  refine ⟨_, [(4, (.pointer (some ((⟨b17, 0, none⟩ : Addr).add 0)))), (5, (.pointer (some ((⟨b20, 0, none⟩ : Addr).add 0)))), (6, (.pointer (some ((⟨b31, 0, none⟩ : Addr).add 0)))), (7, (.pointer (some ((⟨b32, 0, none⟩ : Addr).add 0)))), (82, (.int .i64 ((m6.lists.l.length : Nat) : Int))), (83, (.int .i64 (((k + 1) : Nat) : Int))), (9, (.int .i64 (((n + 1) : Nat) : Int)))], .blk b32 40 [(.int .u64 b22.value), (.bool b22.ok), (.bool b22.late), (.slice b22.list.A b22.list.l.length b22.list.cp)] :: .blk b31 49 [(.slice m21.words.A m21.words.l.length m21.words.cp), (.slice m21.lists.A m21.lists.l.length m21.lists.cp), (.int .i64 m21.tick)] :: .blk b20 24 [(.int .i64 a18.kind), (.int .i64 a18.address), (.int .u64 a18.old), (.int .u64 a18.new), (.int .i64 a18.until_)] :: .blk b17 49 [(.slice m6.words.A m6.words.l.length m6.words.cp), (.slice m6.lists.A m6.lists.l.length m6.lists.cp), (.int .i64 m6.tick)] :: G, ⟨rfl, rfl, rfl, rfl, rfl, rfl, rfl, trivial⟩, (.cons_cons _ (.cons_cons _ (.cons_cons _ (.cons_cons _ (.refl _))))), (by first | omega | (simp only [List.length_append, List.length_cons, List.length_nil]; omega)), (k + 1), (n + 1), rfl, rfl, rfl, rfl, (by omega), (by have w := apply_list he27 hx46 hx50 (by first | assumption | (intro e; simp_all)); rcases hn with hn | ⟨hn1, hn2, hn3⟩ <;> first | (exfalso; omega) | exact .inr ⟨by omega, by omega, w.2.1, w.2.2⟩ | exact .inr ⟨by omega, .inr (by omega), w.2.2⟩)⟩
            · intro h53
              have h53 := nt_f (h53)
              refine Cw_skip ?_
              refine Cw_region ?_
              refine Ow_q rfl rfl rfl (Qt_arith (e := (((k : Nat) : Int) + 1)) rfl rfl rfl (wrap_eq (by omega) (by omega))) ?_
              refine Ow_q rfl rfl rfl (Qt_move rfl) ?_
              refine Ow_nil ?_
              refine ⟨_, [(4, (.pointer (some ((⟨b17, 0, none⟩ : Addr).add 0)))), (5, (.pointer (some ((⟨b20, 0, none⟩ : Addr).add 0)))), (6, (.pointer (some ((⟨b31, 0, none⟩ : Addr).add 0)))), (7, (.pointer (some ((⟨b32, 0, none⟩ : Addr).add 0)))), (82, (.int .i64 ((m6.lists.l.length : Nat) : Int))), (83, (.int .i64 (((k + 1) : Nat) : Int))), (9, (.int .i64 ((n : Nat) : Int)))], .blk b32 40 [(.int .u64 b22.value), (.bool b22.ok), (.bool b22.late), (.slice b22.list.A b22.list.l.length b22.list.cp)] :: .blk b31 49 [(.slice m21.words.A m21.words.l.length m21.words.cp), (.slice m21.lists.A m21.lists.l.length m21.lists.cp), (.int .i64 m21.tick)] :: .blk b20 24 [(.int .i64 a18.kind), (.int .i64 a18.address), (.int .u64 a18.old), (.int .u64 a18.new), (.int .i64 a18.until_)] :: .blk b17 49 [(.slice m6.words.A m6.words.l.length m6.words.cp), (.slice m6.lists.A m6.lists.l.length m6.lists.cp), (.int .i64 m6.tick)] :: G, ⟨rfl, rfl, rfl, rfl, rfl, rfl, rfl, trivial⟩, (.cons_cons _ (.cons_cons _ (.cons_cons _ (.cons_cons _ (.refl _))))), (by first | omega | (simp only [List.length_append, List.length_cons, List.length_nil]; omega)), (k + 1), n, rfl, rfl, rfl, rfl, (by omega), (by rcases hn with hn | ⟨hn1, hn2, hn3⟩ <;> first | exact .inl hn | exact .inr ⟨hn1, by omega, hn3⟩ | exact .inr ⟨hn1, by omega, hn3.1, hn3.2⟩)⟩
          · intro h44
            have h44 := dcd_f (h44)
            refine Cw_exit ?_
            refine Cw_seq ?_
            refine Cw_region ?_
            refine Ow_q rfl rfl rfl (Qt_move rfl) ?_
            refine Ow_q rfl rfl rfl (Qt_cmp rfl rfl rfl) ?_
            refine Ow_q rfl rfl rfl (Qt_move rfl) ?_
            refine Ow_caseG rfl rfl rfl ?_ ?_
            · intro h56
              have h56 := dcd_t (h56)
              refine Ow_pass rfl rfl rfl rfl rfl rfl rfl ?_
              refine Ow_pass rfl rfl rfl rfl rfl rfl rfl ?_
              refine Ow_pass rfl rfl rfl rfl rfl rfl rfl ?_
              refine Ow_passU rfl rfl rfl rfl rfl ?_
              refine Ow_passU rfl rfl rfl rfl rfl ?_
              refine Ow_passU rfl rfl rfl rfl rfl ?_
              refine Ow_pass rfl rfl rfl rfl rfl rfl rfl ?_
              refine Ow_pass rfl rfl rfl rfl rfl rfl rfl ?_
              refine Ow_passU rfl rfl rfl rfl rfl ?_
              refine Ow_passU rfl rfl rfl rfl rfl ?_
              refine Ow_passU rfl rfl rfl rfl rfl ?_
              refine Ow_passU rfl rfl rfl rfl rfl ?_
              refine Ow_passU rfl rfl rfl rfl rfl ?_
              refine Ow_passU rfl rfl rfl rfl rfl ?_
              refine Ow_passU rfl rfl rfl rfl rfl ?_
              refine Ow_pass rfl rfl rfl rfl rfl rfl rfl ?_
              refine Ow_q rfl rfl rfl (Qt_pick_t rfl rfl) ?_
              refine Ow_q rfl rfl rfl (Qt_assign rfl) ?_
              refine Ow_nil ?_
              refine Cw_ret ?_
              refine ⟨(by first | exact .inl rfl | exact .inr rfl), [(.bool true)], G, ⟨(.bool true), _, rfl, rfl, rfl⟩, .cons _ (.cons _ (.cons _ (.cons _ (.refl _)))), ?_⟩
              first | rfl | (exfalso; omega) | (rcases hn with hn | ⟨hn1, hn2, hn3⟩ <;> first | (exfalso; omega) | (simp_all [mkRes, dcd_eq]; done) | (simp_all [mkRes, dcd_eq]; omega))
            · intro h56
              have h56 := dcd_f (h56)
              refine Ow_qw rfl rfl rfl rfl rfl rfl (Qt_move rfl) ?_
              refine Ow_qw rfl rfl rfl rfl rfl rfl (Qt_cmp rfl rfl rfl) ?_
              refine Ow_qw rfl rfl rfl rfl rfl rfl (Qt_move rfl) ?_
              refine Ow_caseG rfl rfl rfl ?_ ?_
              · intro h57
                have h57 := dcd_t (h57)
                refine Ow_qw rfl rfl rfl rfl rfl rfl (Qt_fieldAddr (m := 0) rfl rfl rfl rfl rfl) ?_
                refine Ow_qw rfl rfl rfl rfl rfl rfl (Qt_load1 (v := (.int .i64 a18.kind)) rfl rfl rfl (Rdc.blk (.tail _ (.tail _ (.head _))) rfl)) ?_
                refine Ow_want rfl rfl rfl rfl (OpW_callP (v0 := (.bool (writes a18.kind))) rfl Try.call42 rfl rfl (c_writes a18.kind _ _) ?_)
                refine Ow_qw rfl rfl rfl rfl rfl rfl (Qt_pick_t rfl rfl) ?_
                refine Ow_qw rfl rfl rfl rfl rfl rfl (Qt_move rfl) ?_
                refine Ow_caseG rfl rfl rfl ?_ ?_
                · intro h58
                  refine Ow_qw rfl rfl rfl rfl rfl rfl (Qt_fieldAddr (m := 0) rfl rfl rfl rfl rfl) ?_
                  refine Ow_qw rfl rfl rfl rfl rfl rfl (Qt_load1 (v := (.int .i64 a18.kind)) rfl rfl rfl (Rdc.blk (.tail _ (.tail _ (.head _))) rfl)) ?_
                  refine Ow_qw rfl rfl rfl rfl rfl rfl (Qt_cmp rfl rfl rfl) ?_
                  refine Ow_qw rfl rfl rfl rfl rfl rfl (Qt_move rfl) ?_
                  refine Ow_caseG rfl rfl rfl ?_ ?_
                  · intro h59
                    have h59 := dcd_f (nt_t (h59))
                    refine Ow_pass rfl rfl rfl rfl rfl rfl rfl ?_
                    refine Ow_pass rfl rfl rfl rfl rfl rfl rfl ?_
                    refine Ow_qw rfl rfl rfl rfl rfl rfl (Qt_pick_t rfl rfl) ?_
                    refine Ow_qw rfl rfl rfl rfl rfl rfl (Qt_pick_t rfl rfl) ?_
                    refine Ow_q rfl rfl rfl (Qt_pick_f rfl rfl) ?_
                    refine Ow_q rfl rfl rfl (Qt_assign rfl) ?_
                    refine Ow_nil ?_
                    refine Cw_ret ?_
                    refine ⟨(by first | exact .inl rfl | exact .inr rfl), [(.bool true)], G, ⟨(.bool true), _, rfl, rfl, rfl⟩, .cons _ (.cons _ (.cons _ (.cons _ (.refl _)))), ?_⟩
                    first | rfl | (exfalso; omega) | (rcases hn with hn | ⟨hn1, hn2, hn3⟩ <;> first | (exfalso; omega) | (simp_all [mkRes, dcd_eq]; done) | (simp_all [mkRes, dcd_eq]; omega))
                  · intro h59
                    have h59 := dcd_t (nt_f (h59))
                    refine Ow_qw rfl rfl rfl rfl rfl rfl (Qt_fieldAddr (m := 1) rfl rfl rfl rfl rfl) ?_
                    refine Ow_qw rfl rfl rfl rfl rfl rfl (Qt_load1 (v := (.bool b22.ok)) rfl rfl rfl (Rdc.blk (.head _) rfl)) ?_
                    refine Ow_qw rfl rfl rfl rfl rfl rfl (Qt_pick_f rfl rfl) ?_
                    refine Ow_qw rfl rfl rfl rfl rfl rfl (Qt_pick_t rfl rfl) ?_
                    refine Ow_q rfl rfl rfl (Qt_pick_f rfl rfl) ?_
                    refine Ow_q rfl rfl rfl (Qt_assign rfl) ?_
                    refine Ow_nil ?_
                    refine Cw_ret ?_
                    refine ⟨(by first | exact .inl rfl | exact .inr rfl), [(.bool b22.ok)], G, ⟨(.bool b22.ok), _, rfl, rfl, rfl⟩, .cons _ (.cons _ (.cons _ (.cons _ (.refl _)))), ?_⟩
                    first | rfl | (exfalso; omega) | (rcases hn with hn | ⟨hn1, hn2, hn3⟩ <;> first | (exfalso; omega) | (simp_all [mkRes, dcd_eq]; done) | (simp_all [mkRes, dcd_eq]; omega))
                · intro h58
                  refine Ow_pass rfl rfl rfl rfl rfl rfl rfl ?_
                  refine Ow_pass rfl rfl rfl rfl rfl rfl rfl ?_
                  refine Ow_pass rfl rfl rfl rfl rfl rfl rfl ?_
                  refine Ow_pass rfl rfl rfl rfl rfl rfl rfl ?_
                  refine Ow_passU rfl rfl rfl rfl rfl ?_
                  refine Ow_passU rfl rfl rfl rfl rfl ?_
                  refine Ow_pass rfl rfl rfl rfl rfl rfl rfl ?_
                  refine Ow_qw rfl rfl rfl rfl rfl rfl (Qt_pick_f rfl rfl) ?_
                  refine Ow_q rfl rfl rfl (Qt_pick_f rfl rfl) ?_
                  refine Ow_q rfl rfl rfl (Qt_assign rfl) ?_
                  refine Ow_nil ?_
                  refine Cw_ret ?_
                  refine ⟨(by first | exact .inl rfl | exact .inr rfl), [(.bool false)], G, ⟨(.bool false), _, rfl, rfl, rfl⟩, .cons _ (.cons _ (.cons _ (.cons _ (.refl _)))), ?_⟩
                  first | rfl | (exfalso; omega) | (rcases hn with hn | ⟨hn1, hn2, hn3⟩ <;> first | (exfalso; omega) | (simp_all [mkRes, dcd_eq]; done) | (simp_all [mkRes, dcd_eq]; omega))
              · intro h57
                have h57 := dcd_f (h57)
                refine Ow_pass rfl rfl rfl rfl rfl rfl rfl ?_
                refine Ow_pass rfl rfl rfl rfl rfl rfl rfl ?_
                refine Ow_pass rfl rfl rfl rfl rfl rfl rfl ?_
                refine Ow_qw rfl rfl rfl rfl rfl rfl (Qt_pick_f rfl rfl) ?_
                refine Ow_qw rfl rfl rfl rfl rfl rfl (Qt_move rfl) ?_
                refine Ow_pass rfl rfl rfl rfl rfl rfl rfl ?_
                refine Ow_pass rfl rfl rfl rfl rfl rfl rfl ?_
                refine Ow_pass rfl rfl rfl rfl rfl rfl rfl ?_
                refine Ow_pass rfl rfl rfl rfl rfl rfl rfl ?_
                refine Ow_passU rfl rfl rfl rfl rfl ?_
                refine Ow_passU rfl rfl rfl rfl rfl ?_
                refine Ow_pass rfl rfl rfl rfl rfl rfl rfl ?_
                refine Ow_qw rfl rfl rfl rfl rfl rfl (Qt_pick_f rfl rfl) ?_
                refine Ow_q rfl rfl rfl (Qt_pick_f rfl rfl) ?_
                refine Ow_q rfl rfl rfl (Qt_assign rfl) ?_
                refine Ow_nil ?_
                refine Cw_ret ?_
                refine ⟨(by first | exact .inl rfl | exact .inr rfl), [(.bool false)], G, ⟨(.bool false), _, rfl, rfl, rfl⟩, .cons _ (.cons _ (.cons _ (.cons _ (.refl _)))), ?_⟩
                first | rfl | (exfalso; omega) | (rcases hn with hn | ⟨hn1, hn2, hn3⟩ <;> first | (exfalso; omega) | (simp_all [mkRes, dcd_eq]; done) | (simp_all [mkRes, dcd_eq]; omega))

end Go.Ghl
