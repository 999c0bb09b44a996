/- Contracts of functions, walked: printed by program. -/
import Derived.Test.YtgkmiemclhaahaaProg
import Derived.Test.YtgkmiemclhaahaaGhlMore
import Derived.Test.YtgkmiemclhaahaaSACoM
namespace Go.Ghl
open Go.Proofs
set_option linter.unusedSimpArgs false
set_option linter.unusedVariables false

theorem Qt_min2 {P : Program} {n : Nat} {env : Env} {K : Kp} {G : List Ent} {dd : Option Tmp} {ty : TypeId} {pos : String} {af : Array Edge} {g : Option (Nat × Bool)} {x y : Operand} {k k' : IntKind} {p q : Int} {ts : Array TypeId}
    (hx : ev env x = some (.int k p)) (hy : ev env y = some (.int k' q)) : Qt P n ⟨dd, .call { callee := .builtin .min, args := #[x, y], argTypes := ts }, ty, pos, af, g⟩ env K G (.int k (if q < p then q else p)) := fun w a _ ha => by
  simp [execOp, resolve, invoke, builtin, ha.ev hx, ha.ev hy, run_min_int2]
def tickN (t n : Int) : Int := if n < 1 then t else if t + n > 1099511627776 then 1099511627776 else t + n
theorem wrap_add_cases (t n : Int) (h : 0 ≤ t ∧ t ≤ 1099511627776) (hn : -9223372036854775808 ≤ n ∧ n ≤ 9223372036854775807) : IntKind.i64.wrap (t + n) = t + n ∨ (IntKind.i64.wrap (t + n) < 0 ∧ t + n > 9223372036854775807) := by
  by_cases h1 : t + n ≤ 9223372036854775807
  · exact .inl (IntWalk.i64_in _ (by omega))
  · right
    simp only [IntKind.wrap, IntKind.signed, IntKind.bits]
    simp
    omega

theorem c_tick (m : Mem) (n : Int) (ht : 0 ≤ m.tick ∧ m.tick ≤ 1099511627776) (hn : -9223372036854775808 ≤ n ∧ n ≤ 9223372036854775807) (K : Kp) (G : List Ent) (hm : MemOk K m) :
    Fc Try.prog 46 #[(Mem.val m), (.int .i64 n)] K G (fun v K' G' => v = Mem.val (Mem.mk m.words m.lists (tickN m.tick n)) ∧ K' = K ∧ G' = G) := by
  refine Fc_of Try.func46 rfl Try.ntmps46 Try.results46 rfl ?_
  have hmw := Sl.le hm.w
  have hml := Sl.le hm.l
  have hmzw := hm.zw
  have hmzl := hm.zl
  refine Cw_seq ?_
  refine Cw_region ?_
  refine Ow_cons rfl (OpW_box (cs := [(.slice m.words.A m.words.l.length m.words.cp), (.slice m.lists.A m.lists.l.length m.lists.cp), (.int .i64 m.tick)]) rfl rfl rfl (fun b1 => ?_))
  refine Ow_cons rfl (OpW_alloc (cs := [(.slice none 0 0), (.slice none 0 0), (.int .i64 0)]) rfl rfl rfl rfl (fun b2 => ?_))
  refine Ow_nil ?_
  refine Cw_seq ?_
  refine Cw_seq ?_
  refine Cw_region ?_
  refine Ow_q rfl rfl rfl (Qt_move rfl) ?_
  refine Ow_q rfl rfl rfl (Qt_cmp rfl rfl rfl) ?_
  refine Ow_nil ?_
  refine Cw_cond rfl ?_ ?_
  · intro h3
    have h3 := dcd_t (h3)
    refine Cw_seq ?_
    refine Cw_region ?_
    refine Ow_q rfl rfl rfl (Qt_loadA (m := 3) (cs := Mem.cells m) rfl rfl rfl rfl ⟨rfl, Rdc.blk (.tail _ (.head _)) rfl⟩) ?_
    refine Ow_cons rfl (OpW_store (vs := [(.slice m.words.A m.words.l.length m.words.cp), (.slice m.lists.A m.lists.l.length m.lists.cp), (.int .i64 m.tick)]) (all' := [(.slice m.words.A m.words.l.length m.words.cp), (.slice m.lists.A m.lists.l.length m.lists.cp), (.int .i64 m.tick)]) rfl rfl rfl rfl rfl .here rfl rfl rfl ?_)
    refine Ow_nil ?_
    refine Cw_ret ?_
    refine ⟨(by first | exact .inl rfl | exact .inr rfl), [(Mem.val m)], G, ⟨(Mem.val m), _, rfl, ⟨_, 3, Mem.cells m, rfl, rfl, rfl, rfl, ⟨rfl, Rdc.blk (.head _) rfl⟩, rfl⟩, rfl⟩, .cons _ (.cons _ (.refl _)), ?_⟩
    have e : m.tick = tickN m.tick n := by
      unfold tickN
      rcases wrap_add_cases m.tick n (by omega) (by omega) with hw | hw <;> (repeat' split) <;> omega
    exact ⟨by simp only [mkRes]; rw [← e], rfl, rfl⟩
  · intro h3
    have h3 := dcd_f (h3)
    refine Cw_skip ?_
    refine Cw_seq ?_
    refine Cw_region ?_
    refine Ow_q rfl rfl rfl (Qt_fieldAddr (m := 2) rfl rfl rfl rfl rfl) ?_
    refine Ow_q rfl rfl rfl (Qt_load1 (v := (.int .i64 m.tick)) rfl rfl rfl (Rdc.blk (.tail _ (.head _)) rfl)) ?_
    refine Ow_q rfl rfl rfl (Qt_move rfl) ?_
    refine Ow_q rfl rfl rfl (Qt_arith (e := IntKind.i64.wrap (m.tick + n)) rfl rfl rfl rfl) ?_
    refine Ow_q rfl rfl rfl (Qt_assign rfl) ?_
    refine Ow_nil ?_
    refine Cw_seq ?_
    refine Cw_seq ?_
    refine Cw_region ?_
    refine Ow_q rfl rfl rfl (Qt_move rfl) ?_
    refine Ow_q rfl rfl rfl (Qt_fieldAddr (m := 2) rfl rfl rfl rfl rfl) ?_
    refine Ow_q rfl rfl rfl (Qt_load1 (v := (.int .i64 m.tick)) rfl rfl rfl (Rdc.blk (.tail _ (.head _)) rfl)) ?_
    refine Ow_q rfl rfl rfl (Qt_cmp rfl rfl rfl) ?_
    refine Ow_nil ?_
    refine Cw_cond rfl ?_ ?_
    · intro h4
      have h4 := dcd_t (h4)
      refine Cw_region ?_
      refine Ow_q rfl rfl rfl (Qt_assign rfl) ?_
      refine Ow_nil ?_
      refine Cw_seq ?_
      refine Cw_region ?_
      refine Ow_q rfl rfl rfl (Qt_move rfl) ?_
      refine Ow_q rfl rfl rfl (Qt_min2 rfl rfl) ?_
      refine Ow_q rfl rfl rfl (Qt_fieldAddr (m := 2) rfl rfl rfl rfl rfl) ?_
      refine Ow_cons rfl (OpW_store (vs := [(.int .i64 (if 1099511627776 < 1099511627776 then 1099511627776 else 1099511627776))]) (all' := [(.slice m.words.A m.words.l.length m.words.cp), (.slice m.lists.A m.lists.l.length m.lists.cp), (.int .i64 (if 1099511627776 < 1099511627776 then 1099511627776 else 1099511627776))]) rfl rfl rfl rfl rfl (.there .here) rfl rfl rfl ?_)
      refine Ow_nil ?_
      refine Cw_seq ?_
      refine Cw_region ?_
      refine Ow_q rfl rfl rfl (Qt_loadA (m := 3) (cs := Mem.cells (Mem.mk m.words m.lists (if 1099511627776 < 1099511627776 then 1099511627776 else 1099511627776))) rfl rfl rfl rfl ⟨rfl, Rdc.blk (.tail _ (.head _)) rfl⟩) ?_
      refine Ow_cons rfl (OpW_store (vs := [(.slice m.words.A m.words.l.length m.words.cp), (.slice m.lists.A m.lists.l.length m.lists.cp), (.int .i64 (if 1099511627776 < 1099511627776 then 1099511627776 else 1099511627776))]) (all' := [(.slice m.words.A m.words.l.length m.words.cp), (.slice m.lists.A m.lists.l.length m.lists.cp), (.int .i64 (if 1099511627776 < 1099511627776 then 1099511627776 else 1099511627776))]) rfl rfl rfl rfl rfl .here rfl rfl rfl ?_)
      refine Ow_nil ?_
      refine Cw_ret ?_
      refine ⟨(by first | exact .inl rfl | exact .inr rfl), [(Mem.val (Mem.mk m.words m.lists (if 1099511627776 < 1099511627776 then 1099511627776 else 1099511627776)))], G, ⟨(Mem.val (Mem.mk m.words m.lists (if 1099511627776 < 1099511627776 then 1099511627776 else 1099511627776))), _, rfl, ⟨_, 3, Mem.cells (Mem.mk m.words m.lists (if 1099511627776 < 1099511627776 then 1099511627776 else 1099511627776)), rfl, rfl, rfl, rfl, ⟨rfl, Rdc.blk (.head _) rfl⟩, rfl⟩, rfl⟩, .cons _ (.cons _ (.refl _)), ?_⟩
      have e : (if 1099511627776 < 1099511627776 then 1099511627776 else 1099511627776) = tickN m.tick n := by
        unfold tickN
        rcases wrap_add_cases m.tick n (by omega) (by omega) with hw | hw <;> (repeat' split) <;> omega
      exact ⟨by simp only [mkRes]; rw [← e], rfl, rfl⟩
    · intro h4
      have h4 := dcd_f (h4)
      refine Cw_skip ?_
      refine Cw_seq ?_
      refine Cw_region ?_
      refine Ow_q rfl rfl rfl (Qt_move rfl) ?_
      refine Ow_q rfl rfl rfl (Qt_min2 rfl rfl) ?_
      refine Ow_q rfl rfl rfl (Qt_fieldAddr (m := 2) rfl rfl rfl rfl rfl) ?_
      refine Ow_cons rfl (OpW_store (vs := [(.int .i64 (if 1099511627776 < IntKind.i64.wrap (m.tick + n) then 1099511627776 else IntKind.i64.wrap (m.tick + n)))]) (all' := [(.slice m.words.A m.words.l.length m.words.cp), (.slice m.lists.A m.lists.l.length m.lists.cp), (.int .i64 (if 1099511627776 < IntKind.i64.wrap (m.tick + n) then 1099511627776 else IntKind.i64.wrap (m.tick + n)))]) rfl rfl rfl rfl rfl (.there .here) rfl rfl rfl ?_)
      refine Ow_nil ?_
      refine Cw_seq ?_
      refine Cw_region ?_
      refine Ow_q rfl rfl rfl (Qt_loadA (m := 3) (cs := Mem.cells (Mem.mk m.words m.lists (if 1099511627776 < IntKind.i64.wrap (m.tick + n) then 1099511627776 else IntKind.i64.wrap (m.tick + n)))) rfl rfl rfl rfl ⟨rfl, Rdc.blk (.tail _ (.head _)) rfl⟩) ?_
      refine Ow_cons rfl (OpW_store (vs := [(.slice m.words.A m.words.l.length m.words.cp), (.slice m.lists.A m.lists.l.length m.lists.cp), (.int .i64 (if 1099511627776 < IntKind.i64.wrap (m.tick + n) then 1099511627776 else IntKind.i64.wrap (m.tick + n)))]) (all' := [(.slice m.words.A m.words.l.length m.words.cp), (.slice m.lists.A m.lists.l.length m.lists.cp), (.int .i64 (if 1099511627776 < IntKind.i64.wrap (m.tick + n) then 1099511627776 else IntKind.i64.wrap (m.tick + n)))]) rfl rfl rfl rfl rfl .here rfl rfl rfl ?_)
      refine Ow_nil ?_
      refine Cw_ret ?_
      refine ⟨(by first | exact .inl rfl | exact .inr rfl), [(Mem.val (Mem.mk m.words m.lists (if 1099511627776 < IntKind.i64.wrap (m.tick + n) then 1099511627776 else IntKind.i64.wrap (m.tick + n))))], G, ⟨(Mem.val (Mem.mk m.words m.lists (if 1099511627776 < IntKind.i64.wrap (m.tick + n) then 1099511627776 else IntKind.i64.wrap (m.tick + n)))), _, rfl, ⟨_, 3, Mem.cells (Mem.mk m.words m.lists (if 1099511627776 < IntKind.i64.wrap (m.tick + n) then 1099511627776 else IntKind.i64.wrap (m.tick + n))), rfl, rfl, rfl, rfl, ⟨rfl, Rdc.blk (.head _) rfl⟩, rfl⟩, rfl⟩, .cons _ (.cons _ (.refl _)), ?_⟩
      have e : (if 1099511627776 < IntKind.i64.wrap (m.tick + n) then 1099511627776 else IntKind.i64.wrap (m.tick + n)) = tickN m.tick n := by
        unfold tickN
        rcases wrap_add_cases m.tick n (by omega) (by omega) with hw | hw <;> (repeat' split) <;> omega
      exact ⟨by simp only [mkRes]; rw [← e], rfl, rfl⟩

theorem c_tickR (m : Mem) (n : Int) (ht : 0 ≤ m.tick ∧ m.tick ≤ 1099511627776) (hn : -9223372036854775808 ≤ n ∧ n ≤ 9223372036854775807) (K : Kp) (G : List Ent) (hm : MemOk K m) :
    Fc Try.prog 47 #[(Mem.val m), (.int .i64 n)] K G (fun v K' G' => v = Mem.val (Mem.mk m.words m.lists (tickN m.tick n)) ∧ K' = K ∧ G' = G) := by
  refine Fc_of Try.func47 rfl Try.ntmps47 Try.results47 rfl ?_
  have hmw := Sl.le hm.w
  have hml := Sl.le hm.l
  have hmzw := hm.zw
  have hmzl := hm.zl
  refine Cw_seq ?_
  refine Cw_region ?_
  refine Ow_cons rfl (OpW_box (cs := [(.slice m.words.A m.words.l.length m.words.cp), (.slice m.lists.A m.lists.l.length m.lists.cp), (.int .i64 m.tick)]) rfl rfl rfl (fun b1 => ?_))
  refine Ow_cons rfl (OpW_alloc (cs := [(.slice none 0 0), (.slice none 0 0), (.int .i64 0)]) rfl rfl rfl rfl (fun b2 => ?_))
  refine Ow_nil ?_
  refine Cw_seq ?_
  refine Cw_seq ?_
  refine Cw_region ?_
  refine Ow_q rfl rfl rfl (Qt_move rfl) ?_
  refine Ow_q rfl rfl rfl (Qt_cmp rfl rfl rfl) ?_
  refine Ow_nil ?_
  refine Cw_cond rfl ?_ ?_
  · intro h3
    have h3 := dcd_t (h3)
    refine Cw_seq ?_
    refine Cw_region ?_
    refine Ow_q rfl rfl rfl (Qt_loadA (m := 3) (cs := Mem.cells m) rfl rfl rfl rfl ⟨rfl, Rdc.blk (.tail _ (.head _)) rfl⟩) ?_
    refine Ow_cons rfl (OpW_store (vs := [(.slice m.words.A m.words.l.length m.words.cp), (.slice m.lists.A m.lists.l.length m.lists.cp), (.int .i64 m.tick)]) (all' := [(.slice m.words.A m.words.l.length m.words.cp), (.slice m.lists.A m.lists.l.length m.lists.cp), (.int .i64 m.tick)]) rfl rfl rfl rfl rfl .here rfl rfl rfl ?_)
    refine Ow_nil ?_
    refine Cw_ret ?_
    refine ⟨(by first | exact .inl rfl | exact .inr rfl), [(Mem.val m)], G, ⟨(Mem.val m), _, rfl, ⟨_, 3, Mem.cells m, rfl, rfl, rfl, rfl, ⟨rfl, Rdc.blk (.head _) rfl⟩, rfl⟩, rfl⟩, .cons _ (.cons _ (.refl _)), ?_⟩
    have e : m.tick = tickN m.tick n := by
      unfold tickN
      rcases wrap_add_cases m.tick n (by omega) (by omega) with hw | hw <;> (repeat' split) <;> omega
    exact ⟨by simp only [mkRes]; rw [← e], rfl, rfl⟩
  · intro h3
    have h3 := dcd_f (h3)
    refine Cw_skip ?_
    refine Cw_seq ?_
    refine Cw_seq ?_
    refine Cw_region ?_
    refine Ow_q rfl rfl rfl (Qt_move rfl) ?_
    refine Ow_q rfl rfl rfl (Qt_fieldAddr (m := 2) rfl rfl rfl rfl rfl) ?_
    refine Ow_q rfl rfl rfl (Qt_load1 (v := (.int .i64 m.tick)) rfl rfl rfl (Rdc.blk (.tail _ (.head _)) rfl)) ?_
    refine Ow_q rfl rfl rfl (Qt_arith (e := 1099511627776 - m.tick) rfl rfl rfl (IntWalk.i64_in _ (by omega))) ?_
    refine Ow_q rfl rfl rfl (Qt_cmp rfl rfl rfl) ?_
    refine Ow_nil ?_
    refine Cw_cond rfl ?_ ?_
    · intro h4
      have h4 := dcd_t (h4)
      refine Cw_seq ?_
      refine Cw_region ?_
      refine Ow_q rfl rfl rfl (Qt_fieldAddr (m := 2) rfl rfl rfl rfl rfl) ?_
      refine Ow_cons rfl (OpW_store (vs := [(.int .i64 1099511627776)]) (all' := [(.slice m.words.A m.words.l.length m.words.cp), (.slice m.lists.A m.lists.l.length m.lists.cp), (.int .i64 1099511627776)]) rfl rfl rfl rfl rfl (.there .here) rfl rfl rfl ?_)
      refine Ow_nil ?_
      refine Cw_seq ?_
      refine Cw_region ?_
      refine Ow_q rfl rfl rfl (Qt_loadA (m := 3) (cs := Mem.cells (Mem.mk m.words m.lists 1099511627776)) rfl rfl rfl rfl ⟨rfl, Rdc.blk (.tail _ (.head _)) rfl⟩) ?_
      refine Ow_cons rfl (OpW_store (vs := [(.slice m.words.A m.words.l.length m.words.cp), (.slice m.lists.A m.lists.l.length m.lists.cp), (.int .i64 1099511627776)]) (all' := [(.slice m.words.A m.words.l.length m.words.cp), (.slice m.lists.A m.lists.l.length m.lists.cp), (.int .i64 1099511627776)]) rfl rfl rfl rfl rfl .here rfl rfl rfl ?_)
      refine Ow_nil ?_
      refine Cw_ret ?_
      refine ⟨(by first | exact .inl rfl | exact .inr rfl), [(Mem.val (Mem.mk m.words m.lists 1099511627776))], G, ⟨(Mem.val (Mem.mk m.words m.lists 1099511627776)), _, rfl, ⟨_, 3, Mem.cells (Mem.mk m.words m.lists 1099511627776), rfl, rfl, rfl, rfl, ⟨rfl, Rdc.blk (.head _) rfl⟩, rfl⟩, rfl⟩, .cons _ (.cons _ (.refl _)), ?_⟩
      have e : 1099511627776 = tickN m.tick n := by
        unfold tickN
        rcases wrap_add_cases m.tick n (by omega) (by omega) with hw | hw <;> (repeat' split) <;> omega
      exact ⟨by simp only [mkRes]; rw [← e], rfl, rfl⟩
    · intro h4
      have h4 := dcd_f (h4)
      refine Cw_skip ?_
      refine Cw_seq ?_
      refine Cw_region ?_
      refine Ow_q rfl rfl rfl (Qt_fieldAddr (m := 2) rfl rfl rfl rfl rfl) ?_
      refine Ow_q rfl rfl rfl (Qt_load1 (v := (.int .i64 m.tick)) rfl rfl rfl (Rdc.blk (.tail _ (.head _)) rfl)) ?_
      refine Ow_q rfl rfl rfl (Qt_move rfl) ?_
      refine Ow_q rfl rfl rfl (Qt_arith (e := m.tick + n) rfl rfl rfl (IntWalk.i64_in _ (by omega))) ?_
      refine Ow_q rfl rfl rfl (Qt_fieldAddr (m := 2) rfl rfl rfl rfl rfl) ?_
      refine Ow_cons rfl (OpW_store (vs := [(.int .i64 (m.tick + n))]) (all' := [(.slice m.words.A m.words.l.length m.words.cp), (.slice m.lists.A m.lists.l.length m.lists.cp), (.int .i64 (m.tick + n))]) rfl rfl rfl rfl rfl (.there .here) rfl rfl rfl ?_)
      refine Ow_nil ?_
      refine Cw_seq ?_
      refine Cw_region ?_
      refine Ow_q rfl rfl rfl (Qt_loadA (m := 3) (cs := Mem.cells (Mem.mk m.words m.lists (m.tick + n))) rfl rfl rfl rfl ⟨rfl, Rdc.blk (.tail _ (.head _)) rfl⟩) ?_
      refine Ow_cons rfl (OpW_store (vs := [(.slice m.words.A m.words.l.length m.words.cp), (.slice m.lists.A m.lists.l.length m.lists.cp), (.int .i64 (m.tick + n))]) (all' := [(.slice m.words.A m.words.l.length m.words.cp), (.slice m.lists.A m.lists.l.length m.lists.cp), (.int .i64 (m.tick + n))]) rfl rfl rfl rfl rfl .here rfl rfl rfl ?_)
      refine Ow_nil ?_
      refine Cw_ret ?_
      refine ⟨(by first | exact .inl rfl | exact .inr rfl), [(Mem.val (Mem.mk m.words m.lists (m.tick + n)))], G, ⟨(Mem.val (Mem.mk m.words m.lists (m.tick + n))), _, rfl, ⟨_, 3, Mem.cells (Mem.mk m.words m.lists (m.tick + n)), rfl, rfl, rfl, rfl, ⟨rfl, Rdc.blk (.head _) rfl⟩, rfl⟩, rfl⟩, .cons _ (.cons _ (.refl _)), ?_⟩
      have e : m.tick + n = tickN m.tick n := by
        unfold tickN
        rcases wrap_add_cases m.tick n (by omega) (by omega) with hw | hw <;> (repeat' split) <;> omega
      exact ⟨by simp only [mkRes]; rw [← e], rfl, rfl⟩

set_option maxHeartbeats 1000000 in
theorem c_memoryTicks (A : Option Addr) (cp : Nat) (cl : List UInt8) (n far : Int) (hn : -9223372036854775808 ≤ n ∧ n ≤ 9223372036854775807) (K : Kp) (G : List Ent) (hcl : Sl K (.slice A cl.length cp) 1 (cl.map u8c)) :
    Fc Try.prog 11 #[(.slice A cl.length cp), (.int .i64 n), (.int .i64 far)] K G (fun v K' G' => v = .bool true) := by
  refine Fc_of Try.func11 rfl Try.ntmps11 Try.results11 rfl ?_
  refine Cw_seq ?_
  refine Cw_region ?_
  refine Ow_q rfl rfl rfl (Qt_assign rfl) ?_
  refine Ow_nil ?_
  refine Cw_seq ?_
  refine Cw_seq ?_
  refine Cw_region ?_
  refine Ow_cons rfl (OpW_call rfl Try.call30 rfl rfl (c_awake4 _ _) ?_)
  rintro _ K1 _ hK2 ⟨rfl, rfl⟩
  have hs3 := hcl.mono hK2
  refine Ow_q rfl rfl rfl (Qt_not rfl) ?_
  refine Ow_nil ?_
  refine Cw_cond_f rfl ?_
  refine Cw_skip ?_
  refine Cw_seq ?_
  refine Cw_region ?_
  refine Ow_q rfl rfl rfl (Qt_move rfl) ?_
  have hs5 := Sl.takeN 60 hs3
  refine Ow_cons rfl (OpW_call rfl Try.call14 rfl rfl (c_new A cp cl 60 _ _ hs3) ?_)
  rintro _ _ _ - ⟨b4, rfl, rfl, rfl⟩
  refine Ow_cons rfl (OpW_call rfl Try.call32 rfl rfl (Fc.move [] (G) rfl fun G1 => c_memory b4 A cp (Cd.mk (cl.take 60) 0 0) _ G1 hs5) ?_)
  rintro _ K8 _ hK9 ⟨_, _, rfl, m6, at7, rfl, rfl, rfl, hm10, hz11, hz12, hz13, hz14⟩
  have hs15 := hs3.mono hK9
  have hs16 := hs5.mono hK9
  have hm10w := Sl.le hm10.w
  have hm10l := Sl.le hm10.l
  have hm10zw := hm10.zw
  have hm10zl := hm10.zl
  refine Ow_cons rfl (OpW_alloc (cs := [(.slice none 0 0), (.slice none 0 0), (.int .i64 0)]) rfl rfl rfl rfl (fun b17 => ?_))
  refine Ow_cons rfl (OpW_store (vs := [(.slice m6.words.A m6.words.l.length m6.words.cp), (.slice m6.lists.A m6.lists.l.length m6.lists.cp), (.int .i64 m6.tick)]) (all' := [(.slice m6.words.A m6.words.l.length m6.words.cp), (.slice m6.lists.A m6.lists.l.length m6.lists.cp), (.int .i64 m6.tick)]) rfl rfl rfl rfl rfl .here rfl rfl rfl ?_)
  refine Ow_nil ?_
  refine Cw_seq ?_
  refine Cw_region ?_
  refine Ow_q rfl rfl rfl (Qt_loadA (m := 3) (cs := Mem.cells m6) rfl rfl rfl rfl ⟨rfl, Rdc.blk (.head _) rfl⟩) ?_
  refine Ow_cons rfl (OpW_alloc (cs := [(.slice none 0 0), (.slice none 0 0), (.int .i64 0)]) rfl rfl rfl rfl (fun b18 => ?_))
  refine Ow_cons rfl (OpW_store (vs := [(.slice m6.words.A m6.words.l.length m6.words.cp), (.slice m6.lists.A m6.lists.l.length m6.lists.cp), (.int .i64 m6.tick)]) (all' := [(.slice m6.words.A m6.words.l.length m6.words.cp), (.slice m6.lists.A m6.lists.l.length m6.lists.cp), (.int .i64 m6.tick)]) rfl rfl rfl rfl rfl .here rfl rfl rfl ?_)
  refine Ow_nil ?_
  refine Cw_seq ?_
  refine Cw_region ?_
  refine Ow_q rfl rfl rfl (Qt_move rfl) ?_
  have hm19 : (0 : Int) < 4 ∧ (4 : Int) ≤ 9223372036854775807 := (by first | omega | (simp only [List.length_append, List.length_cons, List.length_nil, List.length_replicate, List.length_set]; omega) | (simp; omega))
  have he20 := Int.emod_nonneg far (show (4 : Int) ≠ 0 by omega)
  have he21 := Int.emod_lt_of_pos far (show (0 : Int) < 4 by omega)
  refine Ow_cons rfl (OpW_callP (v0 := (.int .i64 (far % 4))) rfl Try.call23 rfl rfl (c_mod far 4 hm19 _ _ trivial) ?_)
  refine Ow_q rfl rfl rfl (Qt_arith (e := 1099511627776 - (far % 4)) rfl rfl rfl (IntWalk.i64_in _ (by omega))) ?_
  refine Ow_q rfl rfl rfl (Qt_fieldAddr (m := 2) rfl rfl rfl rfl rfl) ?_
  refine Ow_cons rfl (OpW_store (vs := [(.int .i64 (1099511627776 - (far % 4)))]) (all' := [(.slice m6.words.A m6.words.l.length m6.words.cp), (.slice m6.lists.A m6.lists.l.length m6.lists.cp), (.int .i64 (1099511627776 - (far % 4)))]) rfl rfl rfl rfl rfl .here rfl rfl rfl ?_)
  refine Ow_nil ?_
  refine Cw_seq ?_
  refine Cw_seq ?_
  refine Cw_region ?_
  refine Ow_q rfl rfl rfl (Qt_move rfl) ?_
  refine Ow_q rfl rfl rfl (Qt_move rfl) ?_
  have hm22 : (0 : Int) < 5 ∧ (5 : Int) ≤ 9223372036854775807 := (by first | omega | (simp only [List.length_append, List.length_cons, List.length_nil, List.length_replicate, List.length_set]; omega) | (simp; omega))
  have he23 := Int.emod_nonneg n (show (5 : Int) ≠ 0 by omega)
  have he24 := Int.emod_lt_of_pos n (show (0 : Int) < 5 by omega)
  refine Ow_cons rfl (OpW_callP (v0 := (.int .i64 (n % 5))) rfl Try.call23 rfl rfl (c_mod n 5 hm22 _ _ trivial) ?_)
  refine Ow_cons rfl (OpW_buildSliceX (xs := (([n, (n % 5), (-1)]).map i64c).flatten) rfl rfl rfl rfl rfl rfl rfl rfl rfl rfl rfl (fun a25 => ?_))
  refine Ow_q rfl rfl rfl (Qt_len rfl rfl) ?_
  refine Ow_q rfl rfl rfl (Qt_move rfl) ?_
  refine Ow_nil ?_
  refine Cw_block ?_
  refine Cw.settleT Enc.i64 rfl (.here) ?_
  intro K26 hK27 hs28
  have hs29 := hs15.mono hK27
  have hs30 := hs16.mono hK27
  have hs31 := hm10.mono hK27
  have hl32 := Sl.le hs28
  have hall : ∀ x ∈ [n, (n % 5), (-1)], -9223372036854775808 ≤ x ∧ x ≤ 9223372036854775807 := by intro x hx; simp at hx; omega
  refine Cw_loop (S := Nat) (fun s env' K' G' => ∃ (i : Nat), [n, (n % 5), (-1)].length - i = s ∧ [(7, (.pointer (some ((⟨b17, 0, none⟩ : Addr).add 0)))), (8, (.pointer (some ((⟨b18, 0, none⟩ : Addr).add 0)))), (24, (.slice (some a25) 3 3)), (25, (.int .i64 3)), (26, (.int .i64 ((i : Nat) : Int)))] = env' ∧ K26 = K' ∧ .blk b18 49 [(.slice m6.words.A m6.words.l.length m6.words.cp), (.slice m6.lists.A m6.lists.l.length m6.lists.cp), (.int .i64 (1099511627776 - (far % 4)))] :: .blk b17 49 [(.slice m6.words.A m6.words.l.length m6.words.cp), (.slice m6.lists.A m6.lists.l.length m6.lists.cp), (.int .i64 m6.tick)] :: .blk b4 70 [(.slice A ((Cd.mk (Cd.mk (cl.take 60) 0 0).list at7 (Cd.mk (cl.take 60) 0 0).value).list.length) cp), (.int .i64 (((Cd.mk (Cd.mk (cl.take 60) 0 0).list at7 (Cd.mk (cl.take 60) 0 0).value).at_ : Nat) : Int)), (.int .u64 ((Cd.mk (Cd.mk (cl.take 60) 0 0).list at7 (Cd.mk (cl.take 60) 0 0).value).value))] :: G = G' ∧ i ≤ [n, (n % 5), (-1)].length) (fun s => s) ([n, (n % 5), (-1)].length - 0) [(7, (.pointer (some ((⟨b17, 0, none⟩ : Addr).add 0)))), (8, (.pointer (some ((⟨b18, 0, none⟩ : Addr).add 0)))), (24, (.slice (some a25) 3 3)), (25, (.int .i64 3)), (26, (.int .i64 ((0 : Nat) : Int)))] (.blk b18 49 [(.slice m6.words.A m6.words.l.length m6.words.cp), (.slice m6.lists.A m6.lists.l.length m6.lists.cp), (.int .i64 (1099511627776 - (far % 4)))] :: .blk b17 49 [(.slice m6.words.A m6.words.l.length m6.words.cp), (.slice m6.lists.A m6.lists.l.length m6.lists.cp), (.int .i64 m6.tick)] :: .blk b4 70 [(.slice A ((Cd.mk (Cd.mk (cl.take 60) 0 0).list at7 (Cd.mk (cl.take 60) 0 0).value).list.length) cp), (.int .i64 (((Cd.mk (Cd.mk (cl.take 60) 0 0).list at7 (Cd.mk (cl.take 60) 0 0).value).at_ : Nat) : Int)), (.int .u64 ((Cd.mk (Cd.mk (cl.take 60) 0 0).list at7 (Cd.mk (cl.take 60) 0 0).value).value))] :: G)
    ⟨0, rfl, rfl, rfl, rfl, (Nat.zero_le _)⟩ ⟨rfl, rfl, rfl, rfl, rfl, trivial⟩ (.cons_cons _ (.cons_cons _ (.cons_cons _ (.refl _)))) ?_
  rintro s _ _ _ - ⟨i, rfl, rfl, rfl, rfl, hi⟩
  refine Cw_seq ?_
  refine Cw_region ?_
  refine Ow_q rfl rfl rfl (Qt_cmp rfl rfl rfl) ?_
  refine Ow_nil ?_
  refine Cw_seq ?_
  refine Cw_cond rfl ?_ ?_
  · intro h33
    have h33 := dcd_t (h33)
    refine Cw_skip ?_
    refine Cw_seq ?_
    refine Cw_block ?_
    refine Cw_seq ?_
    refine Cw_region ?_
    obtain ⟨x34, hx35⟩ : ∃ x, [n, (n % 5), (-1)][i]? = some x := ⟨_, List.getElem?_eq_getElem (by first | omega | (simp only [List.length_append, List.length_cons, List.length_nil, List.length_replicate, List.length_set]; omega) | (simp; omega))⟩
    have hr := hall _ (List.mem_of_getElem? hx35)
    refine Ow_q rfl rfl rfl (Qt_ixK (q := i) rfl rfl rfl rfl rfl hs28 rfl (map_get hx35)) ?_
    refine Ow_q rfl rfl rfl (Qt_load1 (v := (.int .i64 x34)) rfl rfl rfl (Rdc.k (Sl.at hs28 (map_get hx35)) rfl)) ?_
    refine Ow_q rfl rfl rfl (Qt_assign rfl) ?_
    refine Ow_nil ?_
    refine Cw_seq ?_
    refine Cw_region_any [.blk b18 49 [(.slice m6.words.A m6.words.l.length m6.words.cp), (.slice m6.lists.A m6.lists.l.length m6.lists.cp), (.int .i64 (1099511627776 - (far % 4)))], .blk b17 49 [(.slice m6.words.A m6.words.l.length m6.words.cp), (.slice m6.lists.A m6.lists.l.length m6.lists.cp), (.int .i64 m6.tick)], .blk b4 70 [(.slice A ((Cd.mk (Cd.mk (cl.take 60) 0 0).list at7 (Cd.mk (cl.take 60) 0 0).value).list.length) cp), (.int .i64 (((Cd.mk (Cd.mk (cl.take 60) 0 0).list at7 (Cd.mk (cl.take 60) 0 0).value).at_ : Nat) : Int)), (.int .u64 ((Cd.mk (Cd.mk (cl.take 60) 0 0).list at7 (Cd.mk (cl.take 60) 0 0).value).value))]] rfl (Inc.cons (.head _) (Inc.cons (.tail _ (.head _)) (Inc.cons (.tail _ (.tail _ (.head _))) Inc.nil))) ?_
    refine Aw_q 0 rfl (by kernel_rfl) (by kernel_rfl) (by kernel_rfl) rfl rfl rfl (Qt_loadA (m := 3) (cs := Mem.cells m6) rfl rfl rfl rfl ⟨rfl, Rdc.blk (.tail _ (.head _)) rfl⟩) ?_
    refine Aw_q 1 rfl (by kernel_rfl) (by kernel_rfl) (by kernel_rfl) rfl rfl rfl (Qt_move rfl) ?_
    refine Aw_q 3 rfl (by kernel_rfl) (by kernel_rfl) (by kernel_rfl) rfl rfl rfl (Qt_loadA (m := 3) (cs := Mem.cells m6) rfl rfl rfl rfl ⟨rfl, Rdc.blk (.tail _ (.head _)) rfl⟩) ?_
    refine Aw_q 4 rfl (by kernel_rfl) (by kernel_rfl) (by kernel_rfl) rfl rfl rfl (Qt_move rfl) ?_
    refine Aw_one 2 (by kernel_rfl) (Ax_mk rfl rfl (OpW_callP (v0 := (Mem.val (Mem.mk m6.words m6.lists (tickN m6.tick x34)))) rfl Try.call46 rfl rfl (c_tick m6 x34 (by first | omega | (dsimp only; omega)) (by omega) _ _ hs31) ⟨(Inc.cons (.head _) (Inc.cons (.tail _ (.head _)) (Inc.cons (.tail _ (.tail _ (.head _))) Inc.nil))), ?_⟩))
    refine Aw_one 5 (by kernel_rfl) (Ax_mk rfl rfl (OpW_callP (v0 := (Mem.val (Mem.mk m6.words m6.lists (tickN m6.tick x34)))) rfl Try.call47 rfl rfl (c_tickR m6 x34 (by first | omega | (dsimp only; omega)) (by omega) _ _ hs31) ⟨(Inc.cons (.head _) (Inc.cons (.tail _ (.head _)) (Inc.cons (.tail _ (.tail _ (.head _))) Inc.nil))), ?_⟩))
    refine Aw_one 6 (by kernel_rfl) (Ax_mk rfl rfl (OpW_callP (v0 := (.bool (decide ((Mem.mk m6.words m6.lists (tickN m6.tick x34)).abs = (Mem.mk m6.words m6.lists (tickN m6.tick x34)).abs)))) rfl Try.call38 rfl rfl (c_sameMem (Mem.mk m6.words m6.lists (tickN m6.tick x34)) (Mem.mk m6.words m6.lists (tickN m6.tick x34)) _ _ ⟨hs31.w, hs31.l, hs31.x, (by first | omega | (simp only [List.length_append, List.length_cons, List.length_nil, List.length_replicate, List.length_set]; omega) | (simp; omega)), (by first | omega | (simp only [List.length_append, List.length_cons, List.length_nil, List.length_replicate, List.length_set]; omega) | (simp; omega))⟩ ⟨hs31.w, hs31.l, hs31.x, (by first | omega | (simp only [List.length_append, List.length_cons, List.length_nil, List.length_replicate, List.length_set]; omega) | (simp; omega)), (by first | omega | (simp only [List.length_append, List.length_cons, List.length_nil, List.length_replicate, List.length_set]; omega) | (simp; omega))⟩) ⟨(Inc.cons (.head _) (Inc.cons (.tail _ (.head _)) (Inc.cons (.tail _ (.tail _ (.head _))) Inc.nil))), ?_⟩))
    refine Aw_q 7 rfl (by kernel_rfl) (by kernel_rfl) (by kernel_rfl) rfl rfl rfl (Qt_not rfl) ?_
    refine Aw_q 8 rfl (by kernel_rfl) (by kernel_rfl) (by kernel_rfl) rfl rfl rfl (Qt_move rfl) ?_
    refine Aw.known (d := 38) rfl (nt_mf (decide_eq_true rfl)) ?_
    refine Aw_qw 9 rfl (by kernel_rfl) (by kernel_rfl) (by kernel_rfl) rfl rfl rfl rfl rfl rfl (Qt_loadA (m := 3) (cs := Mem.cells (Mem.mk m6.words m6.lists (1099511627776 - (far % 4)))) rfl rfl rfl rfl ⟨rfl, Rdc.blk (.head _) rfl⟩) ?_
    refine Aw_qw 10 rfl (by kernel_rfl) (by kernel_rfl) (by kernel_rfl) rfl rfl rfl rfl rfl rfl (Qt_move rfl) ?_
    refine Aw_qw 12 rfl (by kernel_rfl) (by kernel_rfl) (by kernel_rfl) rfl rfl rfl rfl rfl rfl (Qt_loadA (m := 3) (cs := Mem.cells (Mem.mk m6.words m6.lists (1099511627776 - (far % 4)))) rfl rfl rfl rfl ⟨rfl, Rdc.blk (.head _) rfl⟩) ?_
    refine Aw_qw 13 rfl (by kernel_rfl) (by kernel_rfl) (by kernel_rfl) rfl rfl rfl rfl rfl rfl (Qt_move rfl) ?_
    refine Aw_one 11 (by kernel_rfl) (Ax_mkw rfl rfl rfl rfl rfl (OpW_callP (v0 := (Mem.val (Mem.mk m6.words m6.lists (tickN (1099511627776 - (far % 4)) x34)))) rfl Try.call46 rfl rfl (c_tick (Mem.mk m6.words m6.lists (1099511627776 - (far % 4))) x34 (by first | omega | (dsimp only; omega)) (by omega) _ _ ⟨hs31.w, hs31.l, hs31.x, (by first | omega | (simp only [List.length_append, List.length_cons, List.length_nil, List.length_replicate, List.length_set]; omega) | (simp; omega)), (by first | omega | (simp only [List.length_append, List.length_cons, List.length_nil, List.length_replicate, List.length_set]; omega) | (simp; omega))⟩) ⟨(Inc.cons (.head _) (Inc.cons (.tail _ (.head _)) (Inc.cons (.tail _ (.tail _ (.head _))) Inc.nil))), ?_⟩))
    refine Aw_one 14 (by kernel_rfl) (Ax_mkw rfl rfl rfl rfl rfl (OpW_callP (v0 := (Mem.val (Mem.mk m6.words m6.lists (tickN (1099511627776 - (far % 4)) x34)))) rfl Try.call47 rfl rfl (c_tickR (Mem.mk m6.words m6.lists (1099511627776 - (far % 4))) x34 (by first | omega | (dsimp only; omega)) (by omega) _ _ ⟨hs31.w, hs31.l, hs31.x, (by first | omega | (simp only [List.length_append, List.length_cons, List.length_nil, List.length_replicate, List.length_set]; omega) | (simp; omega)), (by first | omega | (simp only [List.length_append, List.length_cons, List.length_nil, List.length_replicate, List.length_set]; omega) | (simp; omega))⟩) ⟨(Inc.cons (.head _) (Inc.cons (.tail _ (.head _)) (Inc.cons (.tail _ (.tail _ (.head _))) Inc.nil))), ?_⟩))
    refine Aw_one 15 (by kernel_rfl) (Ax_mkw rfl rfl rfl rfl rfl (OpW_callP (v0 := (.bool (decide ((Mem.mk m6.words m6.lists (tickN (1099511627776 - (far % 4)) x34)).abs = (Mem.mk m6.words m6.lists (tickN (1099511627776 - (far % 4)) x34)).abs)))) rfl Try.call38 rfl rfl (c_sameMem (Mem.mk m6.words m6.lists (tickN (1099511627776 - (far % 4)) x34)) (Mem.mk m6.words m6.lists (tickN (1099511627776 - (far % 4)) x34)) _ _ ⟨hs31.w, hs31.l, hs31.x, (by first | omega | (simp only [List.length_append, List.length_cons, List.length_nil, List.length_replicate, List.length_set]; omega) | (simp; omega)), (by first | omega | (simp only [List.length_append, List.length_cons, List.length_nil, List.length_replicate, List.length_set]; omega) | (simp; omega))⟩ ⟨hs31.w, hs31.l, hs31.x, (by first | omega | (simp only [List.length_append, List.length_cons, List.length_nil, List.length_replicate, List.length_set]; omega) | (simp; omega)), (by first | omega | (simp only [List.length_append, List.length_cons, List.length_nil, List.length_replicate, List.length_set]; omega) | (simp; omega))⟩) ⟨(Inc.cons (.head _) (Inc.cons (.tail _ (.head _)) (Inc.cons (.tail _ (.tail _ (.head _))) Inc.nil))), ?_⟩))
    refine Aw_qw 16 rfl (by kernel_rfl) (by kernel_rfl) (by kernel_rfl) rfl rfl rfl rfl rfl rfl (Qt_not rfl) ?_
    refine Aw_q 17 rfl (by kernel_rfl) (by kernel_rfl) (by kernel_rfl) rfl rfl rfl (Qt_pick_f rfl rfl) ?_
    refine Aw_done (by kernel_rfl) ?_
    refine Cw_cond_kf rfl (nt_mf (decide_eq_true rfl)) ?_
    refine Cw_skip ?_
    refine Cw_region ?_
    refine Ow_q rfl rfl rfl (Qt_arith (e := (((i : Nat) : Int) + 1)) rfl rfl rfl (wrap_eq (by omega) (by omega))) ?_
    refine Ow_q rfl rfl rfl (Qt_move rfl) ?_
    refine Ow_nil ?_
    refine ⟨_, [(7, (.pointer (some ((⟨b17, 0, none⟩ : Addr).add 0)))), (8, (.pointer (some ((⟨b18, 0, none⟩ : Addr).add 0)))), (24, (.slice (some a25) 3 3)), (25, (.int .i64 3)), (26, (.int .i64 (((i + 1) : Nat) : Int)))], .blk b18 49 [(.slice m6.words.A m6.words.l.length m6.words.cp), (.slice m6.lists.A m6.lists.l.length m6.lists.cp), (.int .i64 (1099511627776 - (far % 4)))] :: .blk b17 49 [(.slice m6.words.A m6.words.l.length m6.words.cp), (.slice m6.lists.A m6.lists.l.length m6.lists.cp), (.int .i64 m6.tick)] :: .blk b4 70 [(.slice A ((Cd.mk (Cd.mk (cl.take 60) 0 0).list at7 (Cd.mk (cl.take 60) 0 0).value).list.length) cp), (.int .i64 (((Cd.mk (Cd.mk (cl.take 60) 0 0).list at7 (Cd.mk (cl.take 60) 0 0).value).at_ : Nat) : Int)), (.int .u64 ((Cd.mk (Cd.mk (cl.take 60) 0 0).list at7 (Cd.mk (cl.take 60) 0 0).value).value))] :: G, ⟨rfl, rfl, rfl, rfl, rfl, trivial⟩, (.cons_cons _ (.cons_cons _ (.cons_cons _ (.refl _)))), (by first | omega | (simp only [List.length_append, List.length_cons, List.length_nil]; omega)), (i + 1), rfl, rfl, rfl, rfl, (by first | omega | (simp only [List.length_append, List.length_cons, List.length_nil, List.length_replicate, List.length_set]; omega) | (simp; omega))⟩
  · intro h33
    have h33 := dcd_f (h33)
    refine Cw_exit ?_
    refine Cw_seq ?_
    refine Cw_region ?_
    refine Ow_q rfl rfl rfl (Qt_assign rfl) ?_
    refine Ow_nil ?_
    refine Cw_ret ?_
    refine ⟨(by first | exact .inl rfl | exact .inr rfl), [(.bool true)], G, ⟨(.bool true), _, rfl, rfl, rfl⟩, .cons _ (.cons _ (.cons _ (.refl _))), ?_⟩
    first | rfl | (exfalso; omega) | (exfalso; simp_all; done) | (simp_all [mkRes]; done)

end Go.Ghl
