/- Contracts of functions, walked: printed by program. -/
import Derived.Test.YtgkmiemclhaahaaProg
import Derived.Test.YtgkmiemclhaahaaGhlTyped
namespace Go.Ghl
open Go.Proofs
set_option linter.unusedSimpArgs false
set_option linter.unusedVariables false

theorem tmod_range (x n : Int) (h : 0 < n) : -n < Int.tmod x n ∧ Int.tmod x n < n := by
  rw [tmod_eq_if]
  have h1 := Int.emod_nonneg x (show n ≠ 0 by omega)
  have h2 := Int.emod_lt_of_pos x h
  have h3 := Int.emod_nonneg (-x) (show n ≠ 0 by omega)
  have h4 := Int.emod_lt_of_pos (-x) h
  split <;> omega
theorem neg_emod_lemma (x n : Int) (h : 0 < n) : x % n = if (-x) % n = 0 then 0 else n - (-x) % n := by
  have h1 := Int.emod_nonneg x (show n ≠ 0 by omega)
  have h2 := Int.emod_lt_of_pos x h
  have h3 := Int.emod_nonneg (-x) (show n ≠ 0 by omega)
  have h4 := Int.emod_lt_of_pos (-x) h
  have h5 := Int.mul_ediv_add_emod x n
  have h6 := Int.mul_ediv_add_emod (-x) n
  have h7 : n * (x / n + (-x) / n) + (x % n + (-x) % n) = 0 := by rw [Int.mul_add]; omega
  have h8 : (x % n + (-x) % n) % n = 0 := by
    have : x % n + (-x) % n = n * (-(x / n + (-x) / n)) := by rw [Int.mul_neg]; omega
    rw [this]; exact Int.mul_emod_right _ _
  split
  · rename_i h0
    rw [h0, Int.add_zero, Int.emod_eq_of_lt h1 h2] at h8
    exact h8
  · rename_i h0
    by_cases hlt : x % n + (-x) % n < n
    · rw [Int.emod_eq_of_lt (by omega) hlt] at h8; omega
    · have : (x % n + (-x) % n - n) % n = 0 := by rw [Int.sub_emod, h8]; simp
      rw [Int.emod_eq_of_lt (by omega) (by omega)] at this
      omega
theorem Access.eqrun (a b : Access) (w : World) : (Op.equalIn 10000 24 (.agg a.cells.toArray) (.agg b.cells.toArray)).run Try.prog w = .ok (dcd (a = b)) w := by
  obtain ⟨a1, a2, a3, a4, a5⟩ := a
  obtain ⟨b1, b2, b3, b4, b5⟩ := b
  rw [dcd_eq]
  simp only [Access.cells]
  simp [go_sem, Op.eqFields]
  (repeat' split) <;> simp_all
theorem Item.eqrun (a b : Item) (w : World) : (Op.equalIn 10000 26 (.agg a.cells.toArray) (.agg b.cells.toArray)).run Try.prog w = .ok (dcd (a = b)) w := by
  obtain ⟨a0, ⟨a1, a2, a3, a4, a5⟩, a6, a7⟩ := a
  obtain ⟨b0, ⟨b1, b2, b3, b4, b5⟩, b6, b7⟩ := b
  rw [dcd_eq]
  simp only [Item.cells]
  simp [go_sem, Op.eqFields]
  (repeat' split) <;> simp_all
def okItem (th : Nat) (x : Item) : Prop := 0 ≤ x.thread ∧ x.thread < (th : Int) ∧ 1 ≤ x.access.kind ∧ x.access.kind ≤ 9 ∧ 0 ≤ x.access.address ∧ x.access.address < 4
theorem ok_snoc {th : Nat} {L : List Item} {x : Item} (h : ∀ y ∈ L, okItem th y) (hx : okItem th x) : ∀ y ∈ L ++ [x], okItem th y := fun y hy => by
  rcases List.mem_append.1 hy with h1 | h1
  · exact h y h1
  · simp at h1; subst h1; exact hx
theorem same_step {α : Type} {l m : List α} {k : Nat} (h : ∀ j, j < k → l[j]? = m[j]?) (hk : l[k]? = m[k]?) : ∀ j, j < k + 1 → l[j]? = m[j]? := fun j hj => by
  by_cases e : j = k
  · subst e; exact hk
  · exact h j (by omega)
theorem same_end {α : Type} {l m : List α} {k : Nat} (h : ∀ j, j < k → l[j]? = m[j]?) (hk : k = l.length) (hl : l.length = m.length) : l = m := by
  apply List.ext_getElem?
  intro j
  by_cases hj : j < k
  · exact h j hj
  · rw [List.getElem?_eq_none (by omega), List.getElem?_eq_none (by omega)]
theorem filter_lt_succ {L : List Item} (_h : ∀ x ∈ L, 0 ≤ x.thread) (t : Nat) : (L.filter fun i => decide (i.thread < ((t + 1 : Nat) : Int))).length = (L.filter fun i => decide (i.thread < ((t : Nat) : Int))).length + (L.filter fun i => decide (i.thread = ((t : Nat) : Int))).length := by
  clear _h
  induction L with
  | nil => rfl
  | cons x L ih =>
    have e1 : decide (x.thread < ((t + 1 : Nat) : Int)) = (decide (x.thread < ((t : Nat) : Int)) || decide (x.thread = ((t : Nat) : Int))) := by
      rw [Bool.eq_iff_iff]; simp; omega
    have e2 : decide (x.thread < ((t : Nat) : Int)) = true → decide (x.thread = ((t : Nat) : Int)) = false := fun h => by simp at h ⊢; omega
    simp only [List.filter_cons, e1]
    cases h1 : decide (x.thread < ((t : Nat) : Int)) <;> cases h2 : decide (x.thread = ((t : Nat) : Int)) <;> simp_all
    all_goals omega
theorem filter_lt_zero {L : List Item} (h : ∀ x ∈ L, 0 ≤ x.thread) : (L.filter fun i => decide (i.thread < ((0 : Nat) : Int))).length = 0 := by
  rw [List.length_eq_zero_iff, List.filter_eq_nil_iff]
  intro x hx
  have := h x hx
  simp; omega
theorem filter_lt_all {L : List Item} (h : ∀ x ∈ L, x.thread < ((3 : Nat) : Int)) : (L.filter fun i => decide (i.thread < ((3 : Nat) : Int))).length = L.length := by
  rw [List.filter_eq_self.2 (fun x hx => decide_eq_true (h x hx))]
theorem filter_take {α : Type} {p : α → Bool} {l : List α} {k : Nat} {x : α} (h : l[k]? = some x) : (l.take (k + 1)).filter p = (l.take k).filter p ++ if p x then [x] else [] := by
  rw [List.take_add_one, h, List.filter_append]
  simp [List.filter_cons]
def writes (k : Int) : Bool := decide (k = 2) || decide (k = 3) || decide (k = 6) || decide (k = 8) || decide (k = 9)
def place (i : Item) : Int := if i.access.address < 0 ∨ i.access.kind < 1 ∨ i.access.kind > 9 then 1099511627776 else if i.access.kind ≥ 7 then IntKind.i64.wrap (-1 - i.access.address) else i.access.address
def reads (i : Item) : Bool := decide (i.access.kind = 1) || decide (i.access.kind = 3) || decide (i.access.kind = 4) || decide (i.access.kind = 5) || decide (i.access.kind = 7) || decide (i.access.kind = 8) || decide (i.access.kind = 9)
def changes (i : Item) : Bool := writes i.access.kind && (!decide (i.access.kind = 3) || i.ok)
def plain (i : Item) : Bool := decide (i.access.kind ≥ 5) && decide (i.access.kind ≤ 9)
def conflict (a b : Item) : Bool := !decide (a.thread = b.thread) && plain a && plain b && decide (place a = place b) && (changes a || changes b)
theorem conflict_comm (a b : Item) : conflict a b = conflict b a := by
  unfold conflict
  by_cases h1 : a.thread = b.thread <;> by_cases h2 : place a = place b <;> simp [h1, h2, eq_comm, Bool.and_comm, Bool.or_comm, Bool.and_left_comm]
  all_goals simp_all [eq_comm]

theorem c_writes (k : Int) (K : Kp) (G : List Ent)  :
    Fc Try.prog 42 #[(.int .i64 k)] K G (fun v K' G' => v = (.bool (writes k)) ∧ K' = K ∧ G' = G) := by
  refine Fc_of Try.func42 rfl Try.ntmps42 Try.results42 rfl ?_
  refine Cw_seq ?_
  refine Cw_region ?_
  refine Ow_q rfl rfl rfl (Qt_assign rfl) ?_
  refine Ow_nil ?_
  refine Cw_seq ?_
  refine Cw_seq ?_
  refine Cw_region ?_
  refine Ow_q rfl rfl rfl (Qt_move rfl) ?_
  refine Ow_nil ?_
  refine Cw_block ?_
  refine Cw_seq ?_
  refine Cw_seq ?_
  refine Cw_region ?_
  refine Ow_q rfl rfl rfl (Qt_cmp rfl rfl rfl) ?_
  refine Ow_q rfl rfl rfl (Qt_assign rfl) ?_
  refine Ow_nil ?_
  refine Cw_cond rfl ?_ ?_
  · intro h1
    have h1 := dcd_t (h1)
    refine Cw_skip ?_
    refine Cw_cond_kt rfl (dcd_pos h1) ?_
    refine Cw_seq ?_
    refine Cw_region ?_
    refine Ow_q rfl rfl rfl (Qt_assign rfl) ?_
    refine Ow_nil ?_
    refine Cw_ret ?_
    refine ⟨(by first | exact .inl rfl | exact .inr rfl), [(.bool true)], G, ⟨(.bool true), _, rfl, rfl, rfl⟩, .refl _, ?_⟩
    exact ⟨by first | (simp [mkRes, dcd_eq, writes, writes, *]; done) | (simp_all [mkRes, dcd_eq, writes, writes]; done), rfl, rfl⟩
  · intro h1
    have h1 := dcd_f (h1)
    refine Cw_seq ?_
    refine Cw_region ?_
    refine Ow_q rfl rfl rfl (Qt_cmp rfl rfl rfl) ?_
    refine Ow_q rfl rfl rfl (Qt_assign rfl) ?_
    refine Ow_nil ?_
    refine Cw_cond rfl ?_ ?_
    · intro h2
      have h2 := dcd_t (h2)
      refine Cw_skip ?_
      refine Cw_cond_kt rfl (dcd_pos h2) ?_
      refine Cw_seq ?_
      refine Cw_region ?_
      refine Ow_q rfl rfl rfl (Qt_assign rfl) ?_
      refine Ow_nil ?_
      refine Cw_ret ?_
      refine ⟨(by first | exact .inl rfl | exact .inr rfl), [(.bool true)], G, ⟨(.bool true), _, rfl, rfl, rfl⟩, .refl _, ?_⟩
      exact ⟨by first | (simp [mkRes, dcd_eq, writes, writes, *]; done) | (simp_all [mkRes, dcd_eq, writes, writes]; done), rfl, rfl⟩
    · intro h2
      have h2 := dcd_f (h2)
      refine Cw_seq ?_
      refine Cw_region ?_
      refine Ow_q rfl rfl rfl (Qt_cmp rfl rfl rfl) ?_
      refine Ow_q rfl rfl rfl (Qt_assign rfl) ?_
      refine Ow_nil ?_
      refine Cw_cond rfl ?_ ?_
      · intro h3
        have h3 := dcd_t (h3)
        refine Cw_skip ?_
        refine Cw_cond_kt rfl (dcd_pos h3) ?_
        refine Cw_seq ?_
        refine Cw_region ?_
        refine Ow_q rfl rfl rfl (Qt_assign rfl) ?_
        refine Ow_nil ?_
        refine Cw_ret ?_
        refine ⟨(by first | exact .inl rfl | exact .inr rfl), [(.bool true)], G, ⟨(.bool true), _, rfl, rfl, rfl⟩, .refl _, ?_⟩
        exact ⟨by first | (simp [mkRes, dcd_eq, writes, writes, *]; done) | (simp_all [mkRes, dcd_eq, writes, writes]; done), rfl, rfl⟩
      · intro h3
        have h3 := dcd_f (h3)
        refine Cw_seq ?_
        refine Cw_region ?_
        refine Ow_q rfl rfl rfl (Qt_cmp rfl rfl rfl) ?_
        refine Ow_q rfl rfl rfl (Qt_assign rfl) ?_
        refine Ow_nil ?_
        refine Cw_cond rfl ?_ ?_
        · intro h4
          have h4 := dcd_t (h4)
          refine Cw_skip ?_
          refine Cw_cond_kt rfl (dcd_pos h4) ?_
          refine Cw_seq ?_
          refine Cw_region ?_
          refine Ow_q rfl rfl rfl (Qt_assign rfl) ?_
          refine Ow_nil ?_
          refine Cw_ret ?_
          refine ⟨(by first | exact .inl rfl | exact .inr rfl), [(.bool true)], G, ⟨(.bool true), _, rfl, rfl, rfl⟩, .refl _, ?_⟩
          exact ⟨by first | (simp [mkRes, dcd_eq, writes, writes, *]; done) | (simp_all [mkRes, dcd_eq, writes, writes]; done), rfl, rfl⟩
        · intro h4
          have h4 := dcd_f (h4)
          refine Cw_region ?_
          refine Ow_q rfl rfl rfl (Qt_cmp rfl rfl rfl) ?_
          refine Ow_q rfl rfl rfl (Qt_assign rfl) ?_
          refine Ow_nil ?_
          refine Cw_cond rfl ?_ ?_
          · intro h5
            have h5 := dcd_t (h5)
            refine Cw_seq ?_
            refine Cw_region ?_
            refine Ow_q rfl rfl rfl (Qt_assign rfl) ?_
            refine Ow_nil ?_
            refine Cw_ret ?_
            refine ⟨(by first | exact .inl rfl | exact .inr rfl), [(.bool true)], G, ⟨(.bool true), _, rfl, rfl, rfl⟩, .refl _, ?_⟩
            exact ⟨by first | (simp [mkRes, dcd_eq, writes, writes, *]; done) | (simp_all [mkRes, dcd_eq, writes, writes]; done), rfl, rfl⟩
          · intro h5
            have h5 := dcd_f (h5)
            refine Cw_skip ?_
            refine Cw_seq ?_
            refine Cw_region ?_
            refine Ow_q rfl rfl rfl (Qt_assign rfl) ?_
            refine Ow_nil ?_
            refine Cw_ret ?_
            refine ⟨(by first | exact .inl rfl | exact .inr rfl), [(.bool false)], G, ⟨(.bool false), _, rfl, rfl, rfl⟩, .refl _, ?_⟩
            exact ⟨by first | (simp [mkRes, dcd_eq, writes, writes, *]; done) | (simp_all [mkRes, dcd_eq, writes, writes]; done), rfl, rfl⟩

theorem c_writesR (k : Int) (K : Kp) (G : List Ent)  :
    Fc Try.prog 45 #[(.int .i64 k)] K G (fun v K' G' => v = (.bool (writes k)) ∧ K' = K ∧ G' = G) := by
  refine Fc_of Try.func45 rfl Try.ntmps45 Try.results45 rfl ?_
  refine Cw_seq ?_
  refine Cw_region ?_
  refine Ow_q rfl rfl rfl (Qt_assign rfl) ?_
  refine Ow_nil ?_
  refine Cw_seq ?_
  refine Cw_region ?_
  refine Ow_q rfl rfl rfl (Qt_move rfl) ?_
  refine Ow_q rfl rfl rfl (Qt_cmp rfl rfl rfl) ?_
  refine Ow_q rfl rfl rfl (Qt_move rfl) ?_
  refine Ow_caseG rfl rfl rfl ?_ ?_
  · intro h1
    have h1 := dcd_t (h1)
    refine Ow_pass rfl rfl rfl rfl rfl rfl rfl ?_
    refine Ow_pass rfl rfl rfl rfl rfl rfl rfl ?_
    refine Ow_q rfl rfl rfl (Qt_pick_t rfl rfl) ?_
    refine Ow_q rfl rfl rfl (Qt_move rfl) ?_
    refine Ow_pass rfl rfl rfl rfl rfl rfl rfl ?_
    refine Ow_pass rfl rfl rfl rfl rfl rfl rfl ?_
    refine Ow_q rfl rfl rfl (Qt_pick_t rfl rfl) ?_
    refine Ow_q rfl rfl rfl (Qt_move rfl) ?_
    refine Ow_pass rfl rfl rfl rfl rfl rfl rfl ?_
    refine Ow_pass rfl rfl rfl rfl rfl rfl rfl ?_
    refine Ow_q rfl rfl rfl (Qt_pick_t rfl rfl) ?_
    refine Ow_q rfl rfl rfl (Qt_move rfl) ?_
    refine Ow_pass rfl rfl rfl rfl rfl rfl rfl ?_
    refine Ow_pass rfl rfl rfl rfl rfl rfl rfl ?_
    refine Ow_q rfl rfl rfl (Qt_pick_t rfl rfl) ?_
    refine Ow_q rfl rfl rfl (Qt_assign rfl) ?_
    refine Ow_nil ?_
    refine Cw_ret ?_
    refine ⟨(by first | exact .inl rfl | exact .inr rfl), [(.bool true)], G, ⟨(.bool true), _, rfl, rfl, rfl⟩, .refl _, ?_⟩
    exact ⟨by first | (simp [mkRes, dcd_eq, writes, writes, *]; done) | (simp_all [mkRes, dcd_eq, writes, writes]; done), rfl, rfl⟩
  · intro h1
    have h1 := dcd_f (h1)
    refine Ow_qw rfl rfl rfl rfl rfl rfl (Qt_move rfl) ?_
    refine Ow_qw rfl rfl rfl rfl rfl rfl (Qt_cmp rfl rfl rfl) ?_
    refine Ow_q rfl rfl rfl (Qt_pick_f rfl rfl) ?_
    refine Ow_q rfl rfl rfl (Qt_move rfl) ?_
    refine Ow_caseG rfl rfl rfl ?_ ?_
    · intro h2
      have h2 := dcd_t (h2)
      refine Ow_pass rfl rfl rfl rfl rfl rfl rfl ?_
      refine Ow_pass rfl rfl rfl rfl rfl rfl rfl ?_
      refine Ow_q rfl rfl rfl (Qt_pick_t rfl rfl) ?_
      refine Ow_q rfl rfl rfl (Qt_move rfl) ?_
      refine Ow_pass rfl rfl rfl rfl rfl rfl rfl ?_
      refine Ow_pass rfl rfl rfl rfl rfl rfl rfl ?_
      refine Ow_q rfl rfl rfl (Qt_pick_t rfl rfl) ?_
      refine Ow_q rfl rfl rfl (Qt_move rfl) ?_
      refine Ow_pass rfl rfl rfl rfl rfl rfl rfl ?_
      refine Ow_pass rfl rfl rfl rfl rfl rfl rfl ?_
      refine Ow_q rfl rfl rfl (Qt_pick_t rfl rfl) ?_
      refine Ow_q rfl rfl rfl (Qt_assign rfl) ?_
      refine Ow_nil ?_
      refine Cw_ret ?_
      refine ⟨(by first | exact .inl rfl | exact .inr rfl), [(.bool true)], G, ⟨(.bool true), _, rfl, rfl, rfl⟩, .refl _, ?_⟩
      exact ⟨by first | (simp [mkRes, dcd_eq, writes, writes, *]; done) | (simp_all [mkRes, dcd_eq, writes, writes]; done), rfl, rfl⟩
    · intro h2
      have h2 := dcd_f (h2)
      refine Ow_qw rfl rfl rfl rfl rfl rfl (Qt_move rfl) ?_
      refine Ow_qw rfl rfl rfl rfl rfl rfl (Qt_cmp rfl rfl rfl) ?_
      refine Ow_q rfl rfl rfl (Qt_pick_f rfl rfl) ?_
      refine Ow_q rfl rfl rfl (Qt_move rfl) ?_
      refine Ow_caseG rfl rfl rfl ?_ ?_
      · intro h3
        have h3 := dcd_t (h3)
        refine Ow_pass rfl rfl rfl rfl rfl rfl rfl ?_
        refine Ow_pass rfl rfl rfl rfl rfl rfl rfl ?_
        refine Ow_q rfl rfl rfl (Qt_pick_t rfl rfl) ?_
        refine Ow_q rfl rfl rfl (Qt_move rfl) ?_
        refine Ow_pass rfl rfl rfl rfl rfl rfl rfl ?_
        refine Ow_pass rfl rfl rfl rfl rfl rfl rfl ?_
        refine Ow_q rfl rfl rfl (Qt_pick_t rfl rfl) ?_
        refine Ow_q rfl rfl rfl (Qt_assign rfl) ?_
        refine Ow_nil ?_
        refine Cw_ret ?_
        refine ⟨(by first | exact .inl rfl | exact .inr rfl), [(.bool true)], G, ⟨(.bool true), _, rfl, rfl, rfl⟩, .refl _, ?_⟩
        exact ⟨by first | (simp [mkRes, dcd_eq, writes, writes, *]; done) | (simp_all [mkRes, dcd_eq, writes, writes]; done), rfl, rfl⟩
      · intro h3
        have h3 := dcd_f (h3)
        refine Ow_qw rfl rfl rfl rfl rfl rfl (Qt_move rfl) ?_
        refine Ow_qw rfl rfl rfl rfl rfl rfl (Qt_cmp rfl rfl rfl) ?_
        refine Ow_q rfl rfl rfl (Qt_pick_f rfl rfl) ?_
        refine Ow_q rfl rfl rfl (Qt_move rfl) ?_
        refine Ow_caseG rfl rfl rfl ?_ ?_
        · intro h4
          have h4 := dcd_t (h4)
          refine Ow_pass rfl rfl rfl rfl rfl rfl rfl ?_
          refine Ow_pass rfl rfl rfl rfl rfl rfl rfl ?_
          refine Ow_q rfl rfl rfl (Qt_pick_t rfl rfl) ?_
          refine Ow_q rfl rfl rfl (Qt_assign rfl) ?_
          refine Ow_nil ?_
          refine Cw_ret ?_
          refine ⟨(by first | exact .inl rfl | exact .inr rfl), [(.bool true)], G, ⟨(.bool true), _, rfl, rfl, rfl⟩, .refl _, ?_⟩
          exact ⟨by first | (simp [mkRes, dcd_eq, writes, writes, *]; done) | (simp_all [mkRes, dcd_eq, writes, writes]; done), rfl, rfl⟩
        · intro h4
          have h4 := dcd_f (h4)
          refine Ow_qw rfl rfl rfl rfl rfl rfl (Qt_move rfl) ?_
          refine Ow_qw rfl rfl rfl rfl rfl rfl (Qt_cmp rfl rfl rfl) ?_
          refine Ow_q rfl rfl rfl (Qt_pick_f rfl rfl) ?_
          refine Ow_q rfl rfl rfl (Qt_assign rfl) ?_
          refine Ow_nil ?_
          refine Cw_ret ?_
          refine ⟨(by first | exact .inl rfl | exact .inr rfl), [(.bool (dcd (k = 9)))], G, ⟨(.bool (dcd (k = 9))), _, rfl, rfl, rfl⟩, .refl _, ?_⟩
          exact ⟨by first | (simp [mkRes, dcd_eq, writes, writes, *]; done) | (simp_all [mkRes, dcd_eq, writes, writes]; done), rfl, rfl⟩

theorem c_place (it : Item) (K : Kp) (G : List Ent)  :
    Fc Try.prog 24 #[(Item.val it)] K G (fun v K' G' => v = (.int .i64 (place it)) ∧ K' = K ∧ G' = G) := by
  refine Fc_of Try.func24 rfl Try.ntmps24 Try.results24 rfl ?_
  refine Cw_seq ?_
  refine Cw_region ?_
  refine Ow_cons rfl (OpW_box (cs := [(.int .i64 it.thread), (.int .i64 it.access.kind), (.int .i64 it.access.address), (.int .u64 it.access.old), (.int .u64 it.access.new), (.int .i64 it.access.until_), (.int .u64 it.value), (.bool it.ok)]) rfl rfl rfl (fun b1 => ?_))
  refine Ow_q rfl rfl rfl (Qt_assign rfl) ?_
  refine Ow_nil ?_
  refine Cw_seq ?_
  refine Cw_region_any [.blk b1 26 [(.int .i64 it.thread), (.int .i64 it.access.kind), (.int .i64 it.access.address), (.int .u64 it.access.old), (.int .u64 it.access.new), (.int .i64 it.access.until_), (.int .u64 it.value), (.bool it.ok)]] rfl (Inc.cons (.head _) Inc.nil) ?_
  refine Aw_q 0 rfl (by kernel_rfl) (by kernel_rfl) (by kernel_rfl) rfl rfl rfl (Qt_fieldAddr (m := 1) rfl rfl rfl rfl rfl) ?_
  refine Aw_q 1 rfl (by kernel_rfl) (by kernel_rfl) (by kernel_rfl) rfl rfl rfl (Qt_fieldAddr (m := 1) rfl rfl rfl rfl rfl) ?_
  refine Aw_q 2 rfl (by kernel_rfl) (by kernel_rfl) (by kernel_rfl) rfl rfl rfl (Qt_load1 (v := (.int .i64 it.access.kind)) rfl rfl rfl (Rdc.blk (.head _) rfl)) ?_
  refine Aw_q 3 rfl (by kernel_rfl) (by kernel_rfl) (by kernel_rfl) rfl rfl rfl (Qt_fieldAddr (m := 1) rfl rfl rfl rfl rfl) ?_
  refine Aw_q 4 rfl (by kernel_rfl) (by kernel_rfl) (by kernel_rfl) rfl rfl rfl (Qt_fieldAddr (m := 2) rfl rfl rfl rfl rfl) ?_
  refine Aw_q 5 rfl (by kernel_rfl) (by kernel_rfl) (by kernel_rfl) rfl rfl rfl (Qt_load1 (v := (.int .i64 it.access.address)) rfl rfl rfl (Rdc.blk (.head _) rfl)) ?_
  refine Aw_q 6 rfl (by kernel_rfl) (by kernel_rfl) (by kernel_rfl) rfl rfl rfl (Qt_assign rfl) ?_
  refine Aw_q 7 rfl (by kernel_rfl) (by kernel_rfl) (by kernel_rfl) rfl rfl rfl (Qt_assign rfl) ?_
  refine Aw_done (by kernel_rfl) ?_
  refine Cw_seq ?_
  refine Cw_block ?_
  refine Cw_seq ?_
  refine Cw_region ?_
  refine Ow_q rfl rfl rfl (Qt_move rfl) ?_
  refine Ow_q rfl rfl rfl (Qt_cmp rfl rfl rfl) ?_
  refine Ow_q rfl rfl rfl (Qt_move rfl) ?_
  refine Ow_caseG rfl rfl rfl ?_ ?_
  · intro h2
    have h2 := dcd_t (h2)
    refine Ow_pass rfl rfl rfl rfl rfl rfl rfl ?_
    refine Ow_pass rfl rfl rfl rfl rfl rfl rfl ?_
    refine Ow_q rfl rfl rfl (Qt_pick_t rfl rfl) ?_
    refine Ow_q rfl rfl rfl (Qt_move rfl) ?_
    refine Ow_pass rfl rfl rfl rfl rfl rfl rfl ?_
    refine Ow_pass rfl rfl rfl rfl rfl rfl rfl ?_
    refine Ow_q rfl rfl rfl (Qt_pick_t rfl rfl) ?_
    refine Ow_q rfl rfl rfl (Qt_assign rfl) ?_
    refine Ow_nil ?_
    refine Cw_cond_t rfl ?_
    refine Cw_seq ?_
    refine Cw_region ?_
    refine Ow_q rfl rfl rfl (Qt_assign rfl) ?_
    refine Ow_nil ?_
    refine Cw_ret ?_
    refine ⟨(by first | exact .inl rfl | exact .inr rfl), [(.int .i64 1099511627776)], G, ⟨(.int .i64 1099511627776), _, rfl, rfl, rfl⟩, .cons _ (.refl _), ?_⟩
    exact ⟨by first | (simp [mkRes, dcd_eq, place, place, *]; done) | (simp_all [mkRes, dcd_eq, place, place]; done), rfl, rfl⟩
  · intro h2
    have h2 := dcd_f (h2)
    refine Ow_qw rfl rfl rfl rfl rfl rfl (Qt_move rfl) ?_
    refine Ow_qw rfl rfl rfl rfl rfl rfl (Qt_cmp rfl rfl rfl) ?_
    refine Ow_q rfl rfl rfl (Qt_pick_f rfl rfl) ?_
    refine Ow_q rfl rfl rfl (Qt_move rfl) ?_
    refine Ow_caseG rfl rfl rfl ?_ ?_
    · intro h3
      have h3 := dcd_t (h3)
      refine Ow_pass rfl rfl rfl rfl rfl rfl rfl ?_
      refine Ow_pass rfl rfl rfl rfl rfl rfl rfl ?_
      refine Ow_q rfl rfl rfl (Qt_pick_t rfl rfl) ?_
      refine Ow_q rfl rfl rfl (Qt_assign rfl) ?_
      refine Ow_nil ?_
      refine Cw_cond_t rfl ?_
      refine Cw_seq ?_
      refine Cw_region ?_
      refine Ow_q rfl rfl rfl (Qt_assign rfl) ?_
      refine Ow_nil ?_
      refine Cw_ret ?_
      refine ⟨(by first | exact .inl rfl | exact .inr rfl), [(.int .i64 1099511627776)], G, ⟨(.int .i64 1099511627776), _, rfl, rfl, rfl⟩, .cons _ (.refl _), ?_⟩
      exact ⟨by first | (simp [mkRes, dcd_eq, place, place, *]; done) | (simp_all [mkRes, dcd_eq, place, place]; done), rfl, rfl⟩
    · intro h3
      have h3 := dcd_f (h3)
      refine Ow_qw rfl rfl rfl rfl rfl rfl (Qt_move rfl) ?_
      refine Ow_qw rfl rfl rfl rfl rfl rfl (Qt_cmp rfl rfl rfl) ?_
      refine Ow_q rfl rfl rfl (Qt_pick_f rfl rfl) ?_
      refine Ow_q rfl rfl rfl (Qt_assign rfl) ?_
      refine Ow_nil ?_
      refine Cw_cond rfl ?_ ?_
      · intro h4
        have h4 := dcd_t (h4)
        refine Cw_seq ?_
        refine Cw_region ?_
        refine Ow_q rfl rfl rfl (Qt_assign rfl) ?_
        refine Ow_nil ?_
        refine Cw_ret ?_
        refine ⟨(by first | exact .inl rfl | exact .inr rfl), [(.int .i64 1099511627776)], G, ⟨(.int .i64 1099511627776), _, rfl, rfl, rfl⟩, .cons _ (.refl _), ?_⟩
        exact ⟨by first | (simp [mkRes, dcd_eq, place, place, *]; done) | (simp_all [mkRes, dcd_eq, place, place]; done), rfl, rfl⟩
      · intro h4
        have h4 := dcd_f (h4)
        refine Cw_seq ?_
        refine Cw_region ?_
        refine Ow_q rfl rfl rfl (Qt_move rfl) ?_
        refine Ow_q rfl rfl rfl (Qt_cmp rfl rfl rfl) ?_
        refine Ow_q rfl rfl rfl (Qt_assign rfl) ?_
        refine Ow_nil ?_
        refine Cw_cond rfl ?_ ?_
        · intro h5
          have h5 := dcd_t (h5)
          refine Cw_seq ?_
          refine Cw_region ?_
          refine Ow_q rfl rfl rfl (Qt_move rfl) ?_
          refine Ow_q rfl rfl rfl (Qt_arith (e := IntKind.i64.wrap ((-1) - it.access.address)) rfl rfl rfl rfl) ?_
          refine Ow_q rfl rfl rfl (Qt_assign rfl) ?_
          refine Ow_nil ?_
          refine Cw_ret ?_
          refine ⟨(by first | exact .inl rfl | exact .inr rfl), [(.int .i64 (IntKind.i64.wrap ((-1) - it.access.address)))], G, ⟨(.int .i64 (IntKind.i64.wrap ((-1) - it.access.address))), _, rfl, rfl, rfl⟩, .cons _ (.refl _), ?_⟩
          exact ⟨by first | (simp [mkRes, dcd_eq, place, place, *]; done) | (simp_all [mkRes, dcd_eq, place, place]; done), rfl, rfl⟩
        · intro h5
          have h5 := dcd_f (h5)
          refine Cw_skip ?_
          refine Cw_seq ?_
          refine Cw_region ?_
          refine Ow_q rfl rfl rfl (Qt_move rfl) ?_
          refine Ow_q rfl rfl rfl (Qt_assign rfl) ?_
          refine Ow_nil ?_
          refine Cw_ret ?_
          refine ⟨(by first | exact .inl rfl | exact .inr rfl), [(.int .i64 it.access.address)], G, ⟨(.int .i64 it.access.address), _, rfl, rfl, rfl⟩, .cons _ (.refl _), ?_⟩
          exact ⟨by first | (simp [mkRes, dcd_eq, place, place, *]; done) | (simp_all [mkRes, dcd_eq, place, place]; done), rfl, rfl⟩

theorem c_placeR (it : Item) (K : Kp) (G : List Ent)  :
    Fc Try.prog 25 #[(Item.val it)] K G (fun v K' G' => v = (.int .i64 (place it)) ∧ K' = K ∧ G' = G) := by
  refine Fc_of Try.func25 rfl Try.ntmps25 Try.results25 rfl ?_
  refine Cw_seq ?_
  refine Cw_region ?_
  refine Ow_cons rfl (OpW_box (cs := [(.int .i64 it.thread), (.int .i64 it.access.kind), (.int .i64 it.access.address), (.int .u64 it.access.old), (.int .u64 it.access.new), (.int .i64 it.access.until_), (.int .u64 it.value), (.bool it.ok)]) rfl rfl rfl (fun b1 => ?_))
  refine Ow_q rfl rfl rfl (Qt_assign rfl) ?_
  refine Ow_nil ?_
  refine Cw_seq ?_
  refine Cw_region ?_
  refine Ow_q rfl rfl rfl (Qt_fieldAddr (m := 1) rfl rfl rfl rfl rfl) ?_
  refine Ow_q rfl rfl rfl (Qt_loadA (m := 5) (cs := Access.cells it.access) rfl rfl rfl rfl ⟨rfl, Rdc.blk (.head _) rfl⟩) ?_
  refine Ow_cons rfl (OpW_alloc (cs := [(.int .i64 0), (.int .i64 0), (.int .u64 0), (.int .u64 0), (.int .i64 0)]) rfl rfl rfl rfl (fun b2 => ?_))
  refine Ow_cons rfl (OpW_store (vs := [(.int .i64 it.access.kind), (.int .i64 it.access.address), (.int .u64 it.access.old), (.int .u64 it.access.new), (.int .i64 it.access.until_)]) (all' := [(.int .i64 it.access.kind), (.int .i64 it.access.address), (.int .u64 it.access.old), (.int .u64 it.access.new), (.int .i64 it.access.until_)]) rfl rfl rfl rfl rfl .here rfl rfl rfl ?_)
  refine Ow_nil ?_
  refine Cw_seq ?_
  refine Cw_block ?_
  refine Cw_seq ?_
  refine Cw_region ?_
  refine Ow_q rfl rfl rfl (Qt_fieldAddr (m := 1) rfl rfl rfl rfl rfl) ?_
  refine Ow_q rfl rfl rfl (Qt_load1 (v := (.int .i64 it.access.address)) rfl rfl rfl (Rdc.blk (.head _) rfl)) ?_
  refine Ow_q rfl rfl rfl (Qt_cmp rfl rfl rfl) ?_
  refine Ow_q rfl rfl rfl (Qt_move rfl) ?_
  refine Ow_caseG rfl rfl rfl ?_ ?_
  · intro h3
    have h3 := dcd_t (h3)
    refine Ow_pass rfl rfl rfl rfl rfl rfl rfl ?_
    refine Ow_pass rfl rfl rfl rfl rfl rfl rfl ?_
    refine Ow_pass rfl rfl rfl rfl rfl rfl rfl ?_
    refine Ow_q rfl rfl rfl (Qt_pick_t rfl rfl) ?_
    refine Ow_q rfl rfl rfl (Qt_move rfl) ?_
    refine Ow_pass rfl rfl rfl rfl rfl rfl rfl ?_
    refine Ow_pass rfl rfl rfl rfl rfl rfl rfl ?_
    refine Ow_pass rfl rfl rfl rfl rfl rfl rfl ?_
    refine Ow_q rfl rfl rfl (Qt_pick_t rfl rfl) ?_
    refine Ow_q rfl rfl rfl (Qt_assign rfl) ?_
    refine Ow_nil ?_
    refine Cw_cond_t rfl ?_
    refine Cw_seq ?_
    refine Cw_region ?_
    refine Ow_q rfl rfl rfl (Qt_assign rfl) ?_
    refine Ow_nil ?_
    refine Cw_ret ?_
    refine ⟨(by first | exact .inl rfl | exact .inr rfl), [(.int .i64 1099511627776)], G, ⟨(.int .i64 1099511627776), _, rfl, rfl, rfl⟩, .cons _ (.cons _ (.refl _)), ?_⟩
    exact ⟨by first | (simp [mkRes, dcd_eq, place, place, *]; done) | (simp_all [mkRes, dcd_eq, place, place]; done), rfl, rfl⟩
  · intro h3
    have h3 := dcd_f (h3)
    refine Ow_qw rfl rfl rfl rfl rfl rfl (Qt_fieldAddr (m := 0) rfl rfl rfl rfl rfl) ?_
    refine Ow_qw rfl rfl rfl rfl rfl rfl (Qt_load1 (v := (.int .i64 it.access.kind)) rfl rfl rfl (Rdc.blk (.head _) rfl)) ?_
    refine Ow_qw rfl rfl rfl rfl rfl rfl (Qt_cmp rfl rfl rfl) ?_
    refine Ow_q rfl rfl rfl (Qt_pick_f rfl rfl) ?_
    refine Ow_q rfl rfl rfl (Qt_move rfl) ?_
    refine Ow_caseG rfl rfl rfl ?_ ?_
    · intro h4
      have h4 := dcd_t (h4)
      refine Ow_pass rfl rfl rfl rfl rfl rfl rfl ?_
      refine Ow_pass rfl rfl rfl rfl rfl rfl rfl ?_
      refine Ow_pass rfl rfl rfl rfl rfl rfl rfl ?_
      refine Ow_q rfl rfl rfl (Qt_pick_t rfl rfl) ?_
      refine Ow_q rfl rfl rfl (Qt_assign rfl) ?_
      refine Ow_nil ?_
      refine Cw_cond_t rfl ?_
      refine Cw_seq ?_
      refine Cw_region ?_
      refine Ow_q rfl rfl rfl (Qt_assign rfl) ?_
      refine Ow_nil ?_
      refine Cw_ret ?_
      refine ⟨(by first | exact .inl rfl | exact .inr rfl), [(.int .i64 1099511627776)], G, ⟨(.int .i64 1099511627776), _, rfl, rfl, rfl⟩, .cons _ (.cons _ (.refl _)), ?_⟩
      exact ⟨by first | (simp [mkRes, dcd_eq, place, place, *]; done) | (simp_all [mkRes, dcd_eq, place, place]; done), rfl, rfl⟩
    · intro h4
      have h4 := dcd_f (h4)
      refine Ow_qw rfl rfl rfl rfl rfl rfl (Qt_fieldAddr (m := 0) rfl rfl rfl rfl rfl) ?_
      refine Ow_qw rfl rfl rfl rfl rfl rfl (Qt_load1 (v := (.int .i64 it.access.kind)) rfl rfl rfl (Rdc.blk (.head _) rfl)) ?_
      refine Ow_qw rfl rfl rfl rfl rfl rfl (Qt_cmp rfl rfl rfl) ?_
      refine Ow_q rfl rfl rfl (Qt_pick_f rfl rfl) ?_
      refine Ow_q rfl rfl rfl (Qt_assign rfl) ?_
      refine Ow_nil ?_
      refine Cw_cond rfl ?_ ?_
      · intro h5
        have h5 := dcd_t (h5)
        refine Cw_seq ?_
        refine Cw_region ?_
        refine Ow_q rfl rfl rfl (Qt_assign rfl) ?_
        refine Ow_nil ?_
        refine Cw_ret ?_
        refine ⟨(by first | exact .inl rfl | exact .inr rfl), [(.int .i64 1099511627776)], G, ⟨(.int .i64 1099511627776), _, rfl, rfl, rfl⟩, .cons _ (.cons _ (.refl _)), ?_⟩
        exact ⟨by first | (simp [mkRes, dcd_eq, place, place, *]; done) | (simp_all [mkRes, dcd_eq, place, place]; done), rfl, rfl⟩
      · intro h5
        have h5 := dcd_f (h5)
        refine Cw_seq ?_
        refine Cw_region ?_
        refine Ow_q rfl rfl rfl (Qt_fieldAddr (m := 0) rfl rfl rfl rfl rfl) ?_
        refine Ow_q rfl rfl rfl (Qt_load1 (v := (.int .i64 it.access.kind)) rfl rfl rfl (Rdc.blk (.head _) rfl)) ?_
        refine Ow_q rfl rfl rfl (Qt_cmp rfl rfl rfl) ?_
        refine Ow_q rfl rfl rfl (Qt_assign rfl) ?_
        refine Ow_nil ?_
        refine Cw_cond rfl ?_ ?_
        · intro h6
          have h6 := dcd_t (h6)
          refine Cw_seq ?_
          refine Cw_region ?_
          refine Ow_q rfl rfl rfl (Qt_fieldAddr (m := 1) rfl rfl rfl rfl rfl) ?_
          refine Ow_q rfl rfl rfl (Qt_load1 (v := (.int .i64 it.access.address)) rfl rfl rfl (Rdc.blk (.head _) rfl)) ?_
          refine Ow_q rfl rfl rfl (Qt_arith (e := IntKind.i64.wrap ((-1) - it.access.address)) rfl rfl rfl rfl) ?_
          refine Ow_q rfl rfl rfl (Qt_assign rfl) ?_
          refine Ow_nil ?_
          refine Cw_ret ?_
          refine ⟨(by first | exact .inl rfl | exact .inr rfl), [(.int .i64 (IntKind.i64.wrap ((-1) - it.access.address)))], G, ⟨(.int .i64 (IntKind.i64.wrap ((-1) - it.access.address))), _, rfl, rfl, rfl⟩, .cons _ (.cons _ (.refl _)), ?_⟩
          exact ⟨by first | (simp [mkRes, dcd_eq, place, place, *]; done) | (simp_all [mkRes, dcd_eq, place, place]; done), rfl, rfl⟩
        · intro h6
          have h6 := dcd_f (h6)
          refine Cw_skip ?_
          refine Cw_seq ?_
          refine Cw_region ?_
          refine Ow_q rfl rfl rfl (Qt_fieldAddr (m := 1) rfl rfl rfl rfl rfl) ?_
          refine Ow_q rfl rfl rfl (Qt_load1 (v := (.int .i64 it.access.address)) rfl rfl rfl (Rdc.blk (.head _) rfl)) ?_
          refine Ow_q rfl rfl rfl (Qt_assign rfl) ?_
          refine Ow_nil ?_
          refine Cw_ret ?_
          refine ⟨(by first | exact .inl rfl | exact .inr rfl), [(.int .i64 it.access.address)], G, ⟨(.int .i64 it.access.address), _, rfl, rfl, rfl⟩, .cons _ (.cons _ (.refl _)), ?_⟩
          exact ⟨by first | (simp [mkRes, dcd_eq, place, place, *]; done) | (simp_all [mkRes, dcd_eq, place, place]; done), rfl, rfl⟩

theorem c_reads (it : Item) (K : Kp) (G : List Ent)  :
    Fc Try.prog 26 #[(Item.val it)] K G (fun v K' G' => v = (.bool (reads it)) ∧ K' = K ∧ G' = G) := by
  refine Fc_of Try.func26 rfl Try.ntmps26 Try.results26 rfl ?_
  refine Cw_seq ?_
  refine Cw_region ?_
  refine Ow_cons rfl (OpW_box (cs := [(.int .i64 it.thread), (.int .i64 it.access.kind), (.int .i64 it.access.address), (.int .u64 it.access.old), (.int .u64 it.access.new), (.int .i64 it.access.until_), (.int .u64 it.value), (.bool it.ok)]) rfl rfl rfl (fun b1 => ?_))
  refine Ow_q rfl rfl rfl (Qt_assign rfl) ?_
  refine Ow_nil ?_
  refine Cw_seq ?_
  refine Cw_seq ?_
  refine Cw_region ?_
  refine Ow_q rfl rfl rfl (Qt_fieldAddr (m := 1) rfl rfl rfl rfl rfl) ?_
  refine Ow_q rfl rfl rfl (Qt_fieldAddr (m := 1) rfl rfl rfl rfl rfl) ?_
  refine Ow_q rfl rfl rfl (Qt_load1 (v := (.int .i64 it.access.kind)) rfl rfl rfl (Rdc.blk (.head _) rfl)) ?_
  refine Ow_nil ?_
  refine Cw_block ?_
  refine Cw_seq ?_
  refine Cw_seq ?_
  refine Cw_region ?_
  refine Ow_q rfl rfl rfl (Qt_cmp rfl rfl rfl) ?_
  refine Ow_q rfl rfl rfl (Qt_assign rfl) ?_
  refine Ow_nil ?_
  refine Cw_cond rfl ?_ ?_
  · intro h2
    have h2 := dcd_t (h2)
    refine Cw_skip ?_
    refine Cw_cond_kt rfl (dcd_pos h2) ?_
    refine Cw_seq ?_
    refine Cw_region ?_
    refine Ow_q rfl rfl rfl (Qt_assign rfl) ?_
    refine Ow_nil ?_
    refine Cw_ret ?_
    refine ⟨(by first | exact .inl rfl | exact .inr rfl), [(.bool true)], G, ⟨(.bool true), _, rfl, rfl, rfl⟩, .cons _ (.refl _), ?_⟩
    exact ⟨by first | (simp [mkRes, dcd_eq, reads, reads, *]; done) | (simp_all [mkRes, dcd_eq, reads, reads]; done), rfl, rfl⟩
  · intro h2
    have h2 := dcd_f (h2)
    refine Cw_seq ?_
    refine Cw_region ?_
    refine Ow_q rfl rfl rfl (Qt_cmp rfl rfl rfl) ?_
    refine Ow_q rfl rfl rfl (Qt_assign rfl) ?_
    refine Ow_nil ?_
    refine Cw_cond rfl ?_ ?_
    · intro h3
      have h3 := dcd_t (h3)
      refine Cw_skip ?_
      refine Cw_cond_kt rfl (dcd_pos h3) ?_
      refine Cw_seq ?_
      refine Cw_region ?_
      refine Ow_q rfl rfl rfl (Qt_assign rfl) ?_
      refine Ow_nil ?_
      refine Cw_ret ?_
      refine ⟨(by first | exact .inl rfl | exact .inr rfl), [(.bool true)], G, ⟨(.bool true), _, rfl, rfl, rfl⟩, .cons _ (.refl _), ?_⟩
      exact ⟨by first | (simp [mkRes, dcd_eq, reads, reads, *]; done) | (simp_all [mkRes, dcd_eq, reads, reads]; done), rfl, rfl⟩
    · intro h3
      have h3 := dcd_f (h3)
      refine Cw_seq ?_
      refine Cw_region ?_
      refine Ow_q rfl rfl rfl (Qt_cmp rfl rfl rfl) ?_
      refine Ow_q rfl rfl rfl (Qt_assign rfl) ?_
      refine Ow_nil ?_
      refine Cw_cond rfl ?_ ?_
      · intro h4
        have h4 := dcd_t (h4)
        refine Cw_skip ?_
        refine Cw_cond_kt rfl (dcd_pos h4) ?_
        refine Cw_seq ?_
        refine Cw_region ?_
        refine Ow_q rfl rfl rfl (Qt_assign rfl) ?_
        refine Ow_nil ?_
        refine Cw_ret ?_
        refine ⟨(by first | exact .inl rfl | exact .inr rfl), [(.bool true)], G, ⟨(.bool true), _, rfl, rfl, rfl⟩, .cons _ (.refl _), ?_⟩
        exact ⟨by first | (simp [mkRes, dcd_eq, reads, reads, *]; done) | (simp_all [mkRes, dcd_eq, reads, reads]; done), rfl, rfl⟩
      · intro h4
        have h4 := dcd_f (h4)
        refine Cw_seq ?_
        refine Cw_region ?_
        refine Ow_q rfl rfl rfl (Qt_cmp rfl rfl rfl) ?_
        refine Ow_q rfl rfl rfl (Qt_assign rfl) ?_
        refine Ow_nil ?_
        refine Cw_cond rfl ?_ ?_
        · intro h5
          have h5 := dcd_t (h5)
          refine Cw_skip ?_
          refine Cw_cond_kt rfl (dcd_pos h5) ?_
          refine Cw_seq ?_
          refine Cw_region ?_
          refine Ow_q rfl rfl rfl (Qt_assign rfl) ?_
          refine Ow_nil ?_
          refine Cw_ret ?_
          refine ⟨(by first | exact .inl rfl | exact .inr rfl), [(.bool true)], G, ⟨(.bool true), _, rfl, rfl, rfl⟩, .cons _ (.refl _), ?_⟩
          exact ⟨by first | (simp [mkRes, dcd_eq, reads, reads, *]; done) | (simp_all [mkRes, dcd_eq, reads, reads]; done), rfl, rfl⟩
        · intro h5
          have h5 := dcd_f (h5)
          refine Cw_seq ?_
          refine Cw_region ?_
          refine Ow_q rfl rfl rfl (Qt_cmp rfl rfl rfl) ?_
          refine Ow_q rfl rfl rfl (Qt_assign rfl) ?_
          refine Ow_nil ?_
          refine Cw_cond rfl ?_ ?_
          · intro h6
            have h6 := dcd_t (h6)
            refine Cw_skip ?_
            refine Cw_cond_kt rfl (dcd_pos h6) ?_
            refine Cw_seq ?_
            refine Cw_region ?_
            refine Ow_q rfl rfl rfl (Qt_assign rfl) ?_
            refine Ow_nil ?_
            refine Cw_ret ?_
            refine ⟨(by first | exact .inl rfl | exact .inr rfl), [(.bool true)], G, ⟨(.bool true), _, rfl, rfl, rfl⟩, .cons _ (.refl _), ?_⟩
            exact ⟨by first | (simp [mkRes, dcd_eq, reads, reads, *]; done) | (simp_all [mkRes, dcd_eq, reads, reads]; done), rfl, rfl⟩
          · intro h6
            have h6 := dcd_f (h6)
            refine Cw_seq ?_
            refine Cw_region ?_
            refine Ow_q rfl rfl rfl (Qt_cmp rfl rfl rfl) ?_
            refine Ow_q rfl rfl rfl (Qt_assign rfl) ?_
            refine Ow_nil ?_
            refine Cw_cond rfl ?_ ?_
            · intro h7
              have h7 := dcd_t (h7)
              refine Cw_skip ?_
              refine Cw_cond_kt rfl (dcd_pos h7) ?_
              refine Cw_seq ?_
              refine Cw_region ?_
              refine Ow_q rfl rfl rfl (Qt_assign rfl) ?_
              refine Ow_nil ?_
              refine Cw_ret ?_
              refine ⟨(by first | exact .inl rfl | exact .inr rfl), [(.bool true)], G, ⟨(.bool true), _, rfl, rfl, rfl⟩, .cons _ (.refl _), ?_⟩
              exact ⟨by first | (simp [mkRes, dcd_eq, reads, reads, *]; done) | (simp_all [mkRes, dcd_eq, reads, reads]; done), rfl, rfl⟩
            · intro h7
              have h7 := dcd_f (h7)
              refine Cw_region ?_
              refine Ow_q rfl rfl rfl (Qt_cmp rfl rfl rfl) ?_
              refine Ow_q rfl rfl rfl (Qt_assign rfl) ?_
              refine Ow_nil ?_
              refine Cw_cond rfl ?_ ?_
              · intro h8
                have h8 := dcd_t (h8)
                refine Cw_seq ?_
                refine Cw_region ?_
                refine Ow_q rfl rfl rfl (Qt_assign rfl) ?_
                refine Ow_nil ?_
                refine Cw_ret ?_
                refine ⟨(by first | exact .inl rfl | exact .inr rfl), [(.bool true)], G, ⟨(.bool true), _, rfl, rfl, rfl⟩, .cons _ (.refl _), ?_⟩
                exact ⟨by first | (simp [mkRes, dcd_eq, reads, reads, *]; done) | (simp_all [mkRes, dcd_eq, reads, reads]; done), rfl, rfl⟩
              · intro h8
                have h8 := dcd_f (h8)
                refine Cw_skip ?_
                refine Cw_seq ?_
                refine Cw_region ?_
                refine Ow_q rfl rfl rfl (Qt_assign rfl) ?_
                refine Ow_nil ?_
                refine Cw_ret ?_
                refine ⟨(by first | exact .inl rfl | exact .inr rfl), [(.bool false)], G, ⟨(.bool false), _, rfl, rfl, rfl⟩, .cons _ (.refl _), ?_⟩
                exact ⟨by first | (simp [mkRes, dcd_eq, reads, reads, *]; done) | (simp_all [mkRes, dcd_eq, reads, reads]; done), rfl, rfl⟩

theorem c_readsR (it : Item) (K : Kp) (G : List Ent)  :
    Fc Try.prog 27 #[(Item.val it)] K G (fun v K' G' => v = (.bool (reads it)) ∧ K' = K ∧ G' = G) := by
  refine Fc_of Try.func27 rfl Try.ntmps27 Try.results27 rfl ?_
  refine Cw_seq ?_
  refine Cw_region ?_
  refine Ow_cons rfl (OpW_box (cs := [(.int .i64 it.thread), (.int .i64 it.access.kind), (.int .i64 it.access.address), (.int .u64 it.access.old), (.int .u64 it.access.new), (.int .i64 it.access.until_), (.int .u64 it.value), (.bool it.ok)]) rfl rfl rfl (fun b1 => ?_))
  refine Ow_q rfl rfl rfl (Qt_assign rfl) ?_
  refine Ow_nil ?_
  refine Cw_seq ?_
  refine Cw_region ?_
  refine Ow_q rfl rfl rfl (Qt_fieldAddr (m := 1) rfl rfl rfl rfl rfl) ?_
  refine Ow_q rfl rfl rfl (Qt_fieldAddr (m := 1) rfl rfl rfl rfl rfl) ?_
  refine Ow_q rfl rfl rfl (Qt_load1 (v := (.int .i64 it.access.kind)) rfl rfl rfl (Rdc.blk (.head _) rfl)) ?_
  refine Ow_q rfl rfl rfl (Qt_assign rfl) ?_
  refine Ow_nil ?_
  refine Cw_seq ?_
  refine Cw_region ?_
  refine Ow_q rfl rfl rfl (Qt_move rfl) ?_
  refine Ow_q rfl rfl rfl (Qt_cmp rfl rfl rfl) ?_
  refine Ow_q rfl rfl rfl (Qt_move rfl) ?_
  refine Ow_caseG rfl rfl rfl ?_ ?_
  · intro h2
    have h2 := dcd_t (h2)
    refine Ow_pass rfl rfl rfl rfl rfl rfl rfl ?_
    refine Ow_pass rfl rfl rfl rfl rfl rfl rfl ?_
    refine Ow_q rfl rfl rfl (Qt_pick_t rfl rfl) ?_
    refine Ow_q rfl rfl rfl (Qt_move rfl) ?_
    refine Ow_pass rfl rfl rfl rfl rfl rfl rfl ?_
    refine Ow_pass rfl rfl rfl rfl rfl rfl rfl ?_
    refine Ow_q rfl rfl rfl (Qt_pick_t rfl rfl) ?_
    refine Ow_q rfl rfl rfl (Qt_move rfl) ?_
    refine Ow_pass rfl rfl rfl rfl rfl rfl rfl ?_
    refine Ow_pass rfl rfl rfl rfl rfl rfl rfl ?_
    refine Ow_q rfl rfl rfl (Qt_pick_t rfl rfl) ?_
    refine Ow_q rfl rfl rfl (Qt_move rfl) ?_
    refine Ow_pass rfl rfl rfl rfl rfl rfl rfl ?_
    refine Ow_pass rfl rfl rfl rfl rfl rfl rfl ?_
    refine Ow_q rfl rfl rfl (Qt_pick_t rfl rfl) ?_
    refine Ow_q rfl rfl rfl (Qt_move rfl) ?_
    refine Ow_pass rfl rfl rfl rfl rfl rfl rfl ?_
    refine Ow_pass rfl rfl rfl rfl rfl rfl rfl ?_
    refine Ow_q rfl rfl rfl (Qt_pick_t rfl rfl) ?_
    refine Ow_q rfl rfl rfl (Qt_move rfl) ?_
    refine Ow_pass rfl rfl rfl rfl rfl rfl rfl ?_
    refine Ow_pass rfl rfl rfl rfl rfl rfl rfl ?_
    refine Ow_q rfl rfl rfl (Qt_pick_t rfl rfl) ?_
    refine Ow_q rfl rfl rfl (Qt_assign rfl) ?_
    refine Ow_nil ?_
    refine Cw_ret ?_
    refine ⟨(by first | exact .inl rfl | exact .inr rfl), [(.bool true)], G, ⟨(.bool true), _, rfl, rfl, rfl⟩, .cons _ (.refl _), ?_⟩
    exact ⟨by first | (simp [mkRes, dcd_eq, reads, reads, *]; done) | (simp_all [mkRes, dcd_eq, reads, reads]; done), rfl, rfl⟩
  · intro h2
    have h2 := dcd_f (h2)
    refine Ow_qw rfl rfl rfl rfl rfl rfl (Qt_move rfl) ?_
    refine Ow_qw rfl rfl rfl rfl rfl rfl (Qt_cmp rfl rfl rfl) ?_
    refine Ow_q rfl rfl rfl (Qt_pick_f rfl rfl) ?_
    refine Ow_q rfl rfl rfl (Qt_move rfl) ?_
    refine Ow_caseG rfl rfl rfl ?_ ?_
    · intro h3
      have h3 := dcd_t (h3)
      refine Ow_pass rfl rfl rfl rfl rfl rfl rfl ?_
      refine Ow_pass rfl rfl rfl rfl rfl rfl rfl ?_
      refine Ow_q rfl rfl rfl (Qt_pick_t rfl rfl) ?_
      refine Ow_q rfl rfl rfl (Qt_move rfl) ?_
      refine Ow_pass rfl rfl rfl rfl rfl rfl rfl ?_
      refine Ow_pass rfl rfl rfl rfl rfl rfl rfl ?_
      refine Ow_q rfl rfl rfl (Qt_pick_t rfl rfl) ?_
      refine Ow_q rfl rfl rfl (Qt_move rfl) ?_
      refine Ow_pass rfl rfl rfl rfl rfl rfl rfl ?_
      refine Ow_pass rfl rfl rfl rfl rfl rfl rfl ?_
      refine Ow_q rfl rfl rfl (Qt_pick_t rfl rfl) ?_
      refine Ow_q rfl rfl rfl (Qt_move rfl) ?_
      refine Ow_pass rfl rfl rfl rfl rfl rfl rfl ?_
      refine Ow_pass rfl rfl rfl rfl rfl rfl rfl ?_
      refine Ow_q rfl rfl rfl (Qt_pick_t rfl rfl) ?_
      refine Ow_q rfl rfl rfl (Qt_move rfl) ?_
      refine Ow_pass rfl rfl rfl rfl rfl rfl rfl ?_
      refine Ow_pass rfl rfl rfl rfl rfl rfl rfl ?_
      refine Ow_q rfl rfl rfl (Qt_pick_t rfl rfl) ?_
      refine Ow_q rfl rfl rfl (Qt_assign rfl) ?_
      refine Ow_nil ?_
      refine Cw_ret ?_
      refine ⟨(by first | exact .inl rfl | exact .inr rfl), [(.bool true)], G, ⟨(.bool true), _, rfl, rfl, rfl⟩, .cons _ (.refl _), ?_⟩
      exact ⟨by first | (simp [mkRes, dcd_eq, reads, reads, *]; done) | (simp_all [mkRes, dcd_eq, reads, reads]; done), rfl, rfl⟩
    · intro h3
      have h3 := dcd_f (h3)
      refine Ow_qw rfl rfl rfl rfl rfl rfl (Qt_move rfl) ?_
      refine Ow_qw rfl rfl rfl rfl rfl rfl (Qt_cmp rfl rfl rfl) ?_
      refine Ow_q rfl rfl rfl (Qt_pick_f rfl rfl) ?_
      refine Ow_q rfl rfl rfl (Qt_move rfl) ?_
      refine Ow_caseG rfl rfl rfl ?_ ?_
      · intro h4
        have h4 := dcd_t (h4)
        refine Ow_pass rfl rfl rfl rfl rfl rfl rfl ?_
        refine Ow_pass rfl rfl rfl rfl rfl rfl rfl ?_
        refine Ow_q rfl rfl rfl (Qt_pick_t rfl rfl) ?_
        refine Ow_q rfl rfl rfl (Qt_move rfl) ?_
        refine Ow_pass rfl rfl rfl rfl rfl rfl rfl ?_
        refine Ow_pass rfl rfl rfl rfl rfl rfl rfl ?_
        refine Ow_q rfl rfl rfl (Qt_pick_t rfl rfl) ?_
        refine Ow_q rfl rfl rfl (Qt_move rfl) ?_
        refine Ow_pass rfl rfl rfl rfl rfl rfl rfl ?_
        refine Ow_pass rfl rfl rfl rfl rfl rfl rfl ?_
        refine Ow_q rfl rfl rfl (Qt_pick_t rfl rfl) ?_
        refine Ow_q rfl rfl rfl (Qt_move rfl) ?_
        refine Ow_pass rfl rfl rfl rfl rfl rfl rfl ?_
        refine Ow_pass rfl rfl rfl rfl rfl rfl rfl ?_
        refine Ow_q rfl rfl rfl (Qt_pick_t rfl rfl) ?_
        refine Ow_q rfl rfl rfl (Qt_assign rfl) ?_
        refine Ow_nil ?_
        refine Cw_ret ?_
        refine ⟨(by first | exact .inl rfl | exact .inr rfl), [(.bool true)], G, ⟨(.bool true), _, rfl, rfl, rfl⟩, .cons _ (.refl _), ?_⟩
        exact ⟨by first | (simp [mkRes, dcd_eq, reads, reads, *]; done) | (simp_all [mkRes, dcd_eq, reads, reads]; done), rfl, rfl⟩
      · intro h4
        have h4 := dcd_f (h4)
        refine Ow_qw rfl rfl rfl rfl rfl rfl (Qt_move rfl) ?_
        refine Ow_qw rfl rfl rfl rfl rfl rfl (Qt_cmp rfl rfl rfl) ?_
        refine Ow_q rfl rfl rfl (Qt_pick_f rfl rfl) ?_
        refine Ow_q rfl rfl rfl (Qt_move rfl) ?_
        refine Ow_caseG rfl rfl rfl ?_ ?_
        · intro h5
          have h5 := dcd_t (h5)
          refine Ow_pass rfl rfl rfl rfl rfl rfl rfl ?_
          refine Ow_pass rfl rfl rfl rfl rfl rfl rfl ?_
          refine Ow_q rfl rfl rfl (Qt_pick_t rfl rfl) ?_
          refine Ow_q rfl rfl rfl (Qt_move rfl) ?_
          refine Ow_pass rfl rfl rfl rfl rfl rfl rfl ?_
          refine Ow_pass rfl rfl rfl rfl rfl rfl rfl ?_
          refine Ow_q rfl rfl rfl (Qt_pick_t rfl rfl) ?_
          refine Ow_q rfl rfl rfl (Qt_move rfl) ?_
          refine Ow_pass rfl rfl rfl rfl rfl rfl rfl ?_
          refine Ow_pass rfl rfl rfl rfl rfl rfl rfl ?_
          refine Ow_q rfl rfl rfl (Qt_pick_t rfl rfl) ?_
          refine Ow_q rfl rfl rfl (Qt_assign rfl) ?_
          refine Ow_nil ?_
          refine Cw_ret ?_
          refine ⟨(by first | exact .inl rfl | exact .inr rfl), [(.bool true)], G, ⟨(.bool true), _, rfl, rfl, rfl⟩, .cons _ (.refl _), ?_⟩
          exact ⟨by first | (simp [mkRes, dcd_eq, reads, reads, *]; done) | (simp_all [mkRes, dcd_eq, reads, reads]; done), rfl, rfl⟩
        · intro h5
          have h5 := dcd_f (h5)
          refine Ow_qw rfl rfl rfl rfl rfl rfl (Qt_move rfl) ?_
          refine Ow_qw rfl rfl rfl rfl rfl rfl (Qt_cmp rfl rfl rfl) ?_
          refine Ow_q rfl rfl rfl (Qt_pick_f rfl rfl) ?_
          refine Ow_q rfl rfl rfl (Qt_move rfl) ?_
          refine Ow_caseG rfl rfl rfl ?_ ?_
          · intro h6
            have h6 := dcd_t (h6)
            refine Ow_pass rfl rfl rfl rfl rfl rfl rfl ?_
            refine Ow_pass rfl rfl rfl rfl rfl rfl rfl ?_
            refine Ow_q rfl rfl rfl (Qt_pick_t rfl rfl) ?_
            refine Ow_q rfl rfl rfl (Qt_move rfl) ?_
            refine Ow_pass rfl rfl rfl rfl rfl rfl rfl ?_
            refine Ow_pass rfl rfl rfl rfl rfl rfl rfl ?_
            refine Ow_q rfl rfl rfl (Qt_pick_t rfl rfl) ?_
            refine Ow_q rfl rfl rfl (Qt_assign rfl) ?_
            refine Ow_nil ?_
            refine Cw_ret ?_
            refine ⟨(by first | exact .inl rfl | exact .inr rfl), [(.bool true)], G, ⟨(.bool true), _, rfl, rfl, rfl⟩, .cons _ (.refl _), ?_⟩
            exact ⟨by first | (simp [mkRes, dcd_eq, reads, reads, *]; done) | (simp_all [mkRes, dcd_eq, reads, reads]; done), rfl, rfl⟩
          · intro h6
            have h6 := dcd_f (h6)
            refine Ow_qw rfl rfl rfl rfl rfl rfl (Qt_move rfl) ?_
            refine Ow_qw rfl rfl rfl rfl rfl rfl (Qt_cmp rfl rfl rfl) ?_
            refine Ow_q rfl rfl rfl (Qt_pick_f rfl rfl) ?_
            refine Ow_q rfl rfl rfl (Qt_move rfl) ?_
            refine Ow_caseG rfl rfl rfl ?_ ?_
            · intro h7
              have h7 := dcd_t (h7)
              refine Ow_pass rfl rfl rfl rfl rfl rfl rfl ?_
              refine Ow_pass rfl rfl rfl rfl rfl rfl rfl ?_
              refine Ow_q rfl rfl rfl (Qt_pick_t rfl rfl) ?_
              refine Ow_q rfl rfl rfl (Qt_assign rfl) ?_
              refine Ow_nil ?_
              refine Cw_ret ?_
              refine ⟨(by first | exact .inl rfl | exact .inr rfl), [(.bool true)], G, ⟨(.bool true), _, rfl, rfl, rfl⟩, .cons _ (.refl _), ?_⟩
              exact ⟨by first | (simp [mkRes, dcd_eq, reads, reads, *]; done) | (simp_all [mkRes, dcd_eq, reads, reads]; done), rfl, rfl⟩
            · intro h7
              have h7 := dcd_f (h7)
              refine Ow_qw rfl rfl rfl rfl rfl rfl (Qt_move rfl) ?_
              refine Ow_qw rfl rfl rfl rfl rfl rfl (Qt_cmp rfl rfl rfl) ?_
              refine Ow_q rfl rfl rfl (Qt_pick_f rfl rfl) ?_
              refine Ow_q rfl rfl rfl (Qt_assign rfl) ?_
              refine Ow_nil ?_
              refine Cw_ret ?_
              refine ⟨(by first | exact .inl rfl | exact .inr rfl), [(.bool (dcd (it.access.kind = 9)))], G, ⟨(.bool (dcd (it.access.kind = 9))), _, rfl, rfl, rfl⟩, .cons _ (.refl _), ?_⟩
              exact ⟨by first | (simp [mkRes, dcd_eq, reads, reads, *]; done) | (simp_all [mkRes, dcd_eq, reads, reads]; done), rfl, rfl⟩

theorem c_changes (it : Item) (K : Kp) (G : List Ent)  :
    Fc Try.prog 28 #[(Item.val it)] K G (fun v K' G' => v = (.bool (changes it)) ∧ K' = K ∧ G' = G) := by
  refine Fc_of Try.func28 rfl Try.ntmps28 Try.results28 rfl ?_
  refine Cw_seq ?_
  refine Cw_region ?_
  refine Ow_cons rfl (OpW_box (cs := [(.int .i64 it.thread), (.int .i64 it.access.kind), (.int .i64 it.access.address), (.int .u64 it.access.old), (.int .u64 it.access.new), (.int .i64 it.access.until_), (.int .u64 it.value), (.bool it.ok)]) rfl rfl rfl (fun b1 => ?_))
  refine Ow_q rfl rfl rfl (Qt_assign rfl) ?_
  refine Ow_nil ?_
  refine Cw_seq ?_
  refine Cw_region ?_
  refine Ow_q rfl rfl rfl (Qt_fieldAddr (m := 1) rfl rfl rfl rfl rfl) ?_
  refine Ow_q rfl rfl rfl (Qt_fieldAddr (m := 1) rfl rfl rfl rfl rfl) ?_
  refine Ow_q rfl rfl rfl (Qt_load1 (v := (.int .i64 it.access.kind)) rfl rfl rfl (Rdc.blk (.head _) rfl)) ?_
  refine Ow_cons rfl (OpW_callP (v0 := (.bool (writes it.access.kind))) rfl Try.call42 rfl rfl (c_writes it.access.kind _ _) ?_)
  refine Ow_q rfl rfl rfl (Qt_move rfl) ?_
  refine Ow_caseG rfl rfl rfl ?_ ?_
  · intro h2
    refine Ow_qw rfl rfl rfl rfl rfl rfl (Qt_fieldAddr (m := 1) rfl rfl rfl rfl rfl) ?_
    refine Ow_qw rfl rfl rfl rfl rfl rfl (Qt_fieldAddr (m := 1) rfl rfl rfl rfl rfl) ?_
    refine Ow_qw rfl rfl rfl rfl rfl rfl (Qt_load1 (v := (.int .i64 it.access.kind)) rfl rfl rfl (Rdc.blk (.head _) rfl)) ?_
    refine Ow_qw rfl rfl rfl rfl rfl rfl (Qt_cmp rfl rfl rfl) ?_
    refine Ow_qw rfl rfl rfl rfl rfl rfl (Qt_move rfl) ?_
    refine Ow_caseG rfl rfl rfl ?_ ?_
    · intro h3
      have h3 := dcd_f (nt_t (h3))
      refine Ow_pass rfl rfl rfl rfl rfl rfl rfl ?_
      refine Ow_pass rfl rfl rfl rfl rfl rfl rfl ?_
      refine Ow_qw rfl rfl rfl rfl rfl rfl (Qt_pick_t rfl rfl) ?_
      refine Ow_q rfl rfl rfl (Qt_pick_t rfl rfl) ?_
      refine Ow_q rfl rfl rfl (Qt_assign rfl) ?_
      refine Ow_nil ?_
      refine Cw_ret ?_
      refine ⟨(by first | exact .inl rfl | exact .inr rfl), [(.bool true)], G, ⟨(.bool true), _, rfl, rfl, rfl⟩, .cons _ (.refl _), ?_⟩
      exact ⟨by first | (simp [mkRes, dcd_eq, changes, changes, *]; done) | (simp_all [mkRes, dcd_eq, changes, changes]; done), rfl, rfl⟩
    · intro h3
      have h3 := dcd_t (nt_f (h3))
      refine Ow_qw rfl rfl rfl rfl rfl rfl (Qt_fieldAddr (m := 7) rfl rfl rfl rfl rfl) ?_
      refine Ow_qw rfl rfl rfl rfl rfl rfl (Qt_load1 (v := (.bool it.ok)) rfl rfl rfl (Rdc.blk (.head _) rfl)) ?_
      refine Ow_qw rfl rfl rfl rfl rfl rfl (Qt_pick_f rfl rfl) ?_
      refine Ow_q rfl rfl rfl (Qt_pick_t rfl rfl) ?_
      refine Ow_q rfl rfl rfl (Qt_assign rfl) ?_
      refine Ow_nil ?_
      refine Cw_ret ?_
      refine ⟨(by first | exact .inl rfl | exact .inr rfl), [(.bool it.ok)], G, ⟨(.bool it.ok), _, rfl, rfl, rfl⟩, .cons _ (.refl _), ?_⟩
      exact ⟨by first | (simp [mkRes, dcd_eq, changes, changes, *]; done) | (simp_all [mkRes, dcd_eq, changes, changes]; done), rfl, rfl⟩
  · intro h2
    refine Ow_pass rfl rfl rfl rfl rfl rfl rfl ?_
    refine Ow_pass rfl rfl rfl rfl rfl rfl rfl ?_
    refine Ow_pass rfl rfl rfl rfl rfl rfl rfl ?_
    refine Ow_pass rfl rfl rfl rfl rfl rfl rfl ?_
    refine Ow_pass rfl rfl rfl rfl rfl rfl rfl ?_
    refine Ow_passU rfl rfl rfl rfl rfl ?_
    refine Ow_passU rfl rfl rfl rfl rfl ?_
    refine Ow_pass rfl rfl rfl rfl rfl rfl rfl ?_
    refine Ow_q rfl rfl rfl (Qt_pick_f rfl rfl) ?_
    refine Ow_q rfl rfl rfl (Qt_assign rfl) ?_
    refine Ow_nil ?_
    refine Cw_ret ?_
    refine ⟨(by first | exact .inl rfl | exact .inr rfl), [(.bool false)], G, ⟨(.bool false), _, rfl, rfl, rfl⟩, .cons _ (.refl _), ?_⟩
    exact ⟨by first | (simp [mkRes, dcd_eq, changes, changes, *]; done) | (simp_all [mkRes, dcd_eq, changes, changes]; done), rfl, rfl⟩

theorem c_changesR (it : Item) (K : Kp) (G : List Ent)  :
    Fc Try.prog 29 #[(Item.val it)] K G (fun v K' G' => v = (.bool (changes it)) ∧ K' = K ∧ G' = G) := by
  refine Fc_of Try.func29 rfl Try.ntmps29 Try.results29 rfl ?_
  refine Cw_seq ?_
  refine Cw_region ?_
  refine Ow_cons rfl (OpW_box (cs := [(.int .i64 it.thread), (.int .i64 it.access.kind), (.int .i64 it.access.address), (.int .u64 it.access.old), (.int .u64 it.access.new), (.int .i64 it.access.until_), (.int .u64 it.value), (.bool it.ok)]) rfl rfl rfl (fun b1 => ?_))
  refine Ow_q rfl rfl rfl (Qt_assign rfl) ?_
  refine Ow_nil ?_
  refine Cw_seq ?_
  refine Cw_region ?_
  refine Ow_q rfl rfl rfl (Qt_fieldAddr (m := 1) rfl rfl rfl rfl rfl) ?_
  refine Ow_q rfl rfl rfl (Qt_fieldAddr (m := 1) rfl rfl rfl rfl rfl) ?_
  refine Ow_q rfl rfl rfl (Qt_load1 (v := (.int .i64 it.access.kind)) rfl rfl rfl (Rdc.blk (.head _) rfl)) ?_
  refine Ow_cons rfl (OpW_callP (v0 := (.bool (writes it.access.kind))) rfl Try.call45 rfl rfl (c_writesR it.access.kind _ _) ?_)
  refine Ow_q rfl rfl rfl (Qt_move rfl) ?_
  refine Ow_caseG rfl rfl rfl ?_ ?_
  · intro h2
    refine Ow_qw rfl rfl rfl rfl rfl rfl (Qt_fieldAddr (m := 1) rfl rfl rfl rfl rfl) ?_
    refine Ow_qw rfl rfl rfl rfl rfl rfl (Qt_fieldAddr (m := 1) rfl rfl rfl rfl rfl) ?_
    refine Ow_qw rfl rfl rfl rfl rfl rfl (Qt_load1 (v := (.int .i64 it.access.kind)) rfl rfl rfl (Rdc.blk (.head _) rfl)) ?_
    refine Ow_qw rfl rfl rfl rfl rfl rfl (Qt_cmp rfl rfl rfl) ?_
    refine Ow_qw rfl rfl rfl rfl rfl rfl (Qt_move rfl) ?_
    refine Ow_caseG rfl rfl rfl ?_ ?_
    · intro h3
      have h3 := dcd_f (nt_t (h3))
      refine Ow_pass rfl rfl rfl rfl rfl rfl rfl ?_
      refine Ow_pass rfl rfl rfl rfl rfl rfl rfl ?_
      refine Ow_qw rfl rfl rfl rfl rfl rfl (Qt_pick_t rfl rfl) ?_
      refine Ow_q rfl rfl rfl (Qt_pick_t rfl rfl) ?_
      refine Ow_q rfl rfl rfl (Qt_assign rfl) ?_
      refine Ow_nil ?_
      refine Cw_ret ?_
      refine ⟨(by first | exact .inl rfl | exact .inr rfl), [(.bool true)], G, ⟨(.bool true), _, rfl, rfl, rfl⟩, .cons _ (.refl _), ?_⟩
      exact ⟨by first | (simp [mkRes, dcd_eq, changes, changes, *]; done) | (simp_all [mkRes, dcd_eq, changes, changes]; done), rfl, rfl⟩
    · intro h3
      have h3 := dcd_t (nt_f (h3))
      refine Ow_qw rfl rfl rfl rfl rfl rfl (Qt_fieldAddr (m := 7) rfl rfl rfl rfl rfl) ?_
      refine Ow_qw rfl rfl rfl rfl rfl rfl (Qt_load1 (v := (.bool it.ok)) rfl rfl rfl (Rdc.blk (.head _) rfl)) ?_
      refine Ow_qw rfl rfl rfl rfl rfl rfl (Qt_pick_f rfl rfl) ?_
      refine Ow_q rfl rfl rfl (Qt_pick_t rfl rfl) ?_
      refine Ow_q rfl rfl rfl (Qt_assign rfl) ?_
      refine Ow_nil ?_
      refine Cw_ret ?_
      refine ⟨(by first | exact .inl rfl | exact .inr rfl), [(.bool it.ok)], G, ⟨(.bool it.ok), _, rfl, rfl, rfl⟩, .cons _ (.refl _), ?_⟩
      exact ⟨by first | (simp [mkRes, dcd_eq, changes, changes, *]; done) | (simp_all [mkRes, dcd_eq, changes, changes]; done), rfl, rfl⟩
  · intro h2
    refine Ow_pass rfl rfl rfl rfl rfl rfl rfl ?_
    refine Ow_pass rfl rfl rfl rfl rfl rfl rfl ?_
    refine Ow_pass rfl rfl rfl rfl rfl rfl rfl ?_
    refine Ow_pass rfl rfl rfl rfl rfl rfl rfl ?_
    refine Ow_pass rfl rfl rfl rfl rfl rfl rfl ?_
    refine Ow_passU rfl rfl rfl rfl rfl ?_
    refine Ow_passU rfl rfl rfl rfl rfl ?_
    refine Ow_pass rfl rfl rfl rfl rfl rfl rfl ?_
    refine Ow_q rfl rfl rfl (Qt_pick_f rfl rfl) ?_
    refine Ow_q rfl rfl rfl (Qt_assign rfl) ?_
    refine Ow_nil ?_
    refine Cw_ret ?_
    refine ⟨(by first | exact .inl rfl | exact .inr rfl), [(.bool false)], G, ⟨(.bool false), _, rfl, rfl, rfl⟩, .cons _ (.refl _), ?_⟩
    exact ⟨by first | (simp [mkRes, dcd_eq, changes, changes, *]; done) | (simp_all [mkRes, dcd_eq, changes, changes]; done), rfl, rfl⟩

theorem c_plain (it : Item) (K : Kp) (G : List Ent)  :
    Fc Try.prog 51 #[(Item.val it)] K G (fun v K' G' => v = (.bool (plain it)) ∧ K' = K ∧ G' = G) := by
  refine Fc_of Try.func51 rfl Try.ntmps51 Try.results51 rfl ?_
  refine Cw_seq ?_
  refine Cw_region ?_
  refine Ow_cons rfl (OpW_box (cs := [(.int .i64 it.thread), (.int .i64 it.access.kind), (.int .i64 it.access.address), (.int .u64 it.access.old), (.int .u64 it.access.new), (.int .i64 it.access.until_), (.int .u64 it.value), (.bool it.ok)]) rfl rfl rfl (fun b1 => ?_))
  refine Ow_q rfl rfl rfl (Qt_assign rfl) ?_
  refine Ow_nil ?_
  refine Cw_seq ?_
  refine Cw_region ?_
  refine Ow_q rfl rfl rfl (Qt_fieldAddr (m := 1) rfl rfl rfl rfl rfl) ?_
  refine Ow_q rfl rfl rfl (Qt_fieldAddr (m := 1) rfl rfl rfl rfl rfl) ?_
  refine Ow_q rfl rfl rfl (Qt_load1 (v := (.int .i64 it.access.kind)) rfl rfl rfl (Rdc.blk (.head _) rfl)) ?_
  refine Ow_q rfl rfl rfl (Qt_cmp rfl rfl rfl) ?_
  refine Ow_q rfl rfl rfl (Qt_move rfl) ?_
  refine Ow_caseG rfl rfl rfl ?_ ?_
  · intro h2
    have h2 := dcd_t (h2)
    refine Ow_qw rfl rfl rfl rfl rfl rfl (Qt_fieldAddr (m := 1) rfl rfl rfl rfl rfl) ?_
    refine Ow_qw rfl rfl rfl rfl rfl rfl (Qt_fieldAddr (m := 1) rfl rfl rfl rfl rfl) ?_
    refine Ow_qw rfl rfl rfl rfl rfl rfl (Qt_load1 (v := (.int .i64 it.access.kind)) rfl rfl rfl (Rdc.blk (.head _) rfl)) ?_
    refine Ow_qw rfl rfl rfl rfl rfl rfl (Qt_cmp rfl rfl rfl) ?_
    refine Ow_q rfl rfl rfl (Qt_pick_t rfl rfl) ?_
    refine Ow_q rfl rfl rfl (Qt_assign rfl) ?_
    refine Ow_nil ?_
    refine Cw_ret ?_
    refine ⟨(by first | exact .inl rfl | exact .inr rfl), [(.bool (dcd (it.access.kind ≤ 9)))], G, ⟨(.bool (dcd (it.access.kind ≤ 9))), _, rfl, rfl, rfl⟩, .cons _ (.refl _), ?_⟩
    exact ⟨by first | (simp [mkRes, dcd_eq, plain, plain, *]; done) | (simp_all [mkRes, dcd_eq, plain, plain]; done), rfl, rfl⟩
  · intro h2
    have h2 := dcd_f (h2)
    refine Ow_pass rfl rfl rfl rfl rfl rfl rfl ?_
    refine Ow_pass rfl rfl rfl rfl rfl rfl rfl ?_
    refine Ow_pass rfl rfl rfl rfl rfl rfl rfl ?_
    refine Ow_pass rfl rfl rfl rfl rfl rfl rfl ?_
    refine Ow_q rfl rfl rfl (Qt_pick_f rfl rfl) ?_
    refine Ow_q rfl rfl rfl (Qt_assign rfl) ?_
    refine Ow_nil ?_
    refine Cw_ret ?_
    refine ⟨(by first | exact .inl rfl | exact .inr rfl), [(.bool false)], G, ⟨(.bool false), _, rfl, rfl, rfl⟩, .cons _ (.refl _), ?_⟩
    exact ⟨by first | (simp [mkRes, dcd_eq, plain, plain, *]; done) | (simp_all [mkRes, dcd_eq, plain, plain]; done), rfl, rfl⟩

theorem c_conflict (a b : Item) (K : Kp) (G : List Ent)  :
    Fc Try.prog 16 #[(Item.val a), (Item.val b)] K G (fun v K' G' => v = (.bool (conflict a b)) ∧ K' = K ∧ G' = G) := by
  refine Fc_of Try.func16 rfl Try.ntmps16 Try.results16 rfl ?_
  refine Cw_seq ?_
  refine Cw_region ?_
  refine Ow_cons rfl (OpW_box (cs := [(.int .i64 a.thread), (.int .i64 a.access.kind), (.int .i64 a.access.address), (.int .u64 a.access.old), (.int .u64 a.access.new), (.int .i64 a.access.until_), (.int .u64 a.value), (.bool a.ok)]) rfl rfl rfl (fun b1 => ?_))
  refine Ow_cons rfl (OpW_box (cs := [(.int .i64 b.thread), (.int .i64 b.access.kind), (.int .i64 b.access.address), (.int .u64 b.access.old), (.int .u64 b.access.new), (.int .i64 b.access.until_), (.int .u64 b.value), (.bool b.ok)]) rfl rfl rfl (fun b2 => ?_))
  refine Ow_q rfl rfl rfl (Qt_assign rfl) ?_
  refine Ow_nil ?_
  refine Cw_seq ?_
  refine Cw_region_any [.blk b2 26 [(.int .i64 b.thread), (.int .i64 b.access.kind), (.int .i64 b.access.address), (.int .u64 b.access.old), (.int .u64 b.access.new), (.int .i64 b.access.until_), (.int .u64 b.value), (.bool b.ok)], .blk b1 26 [(.int .i64 a.thread), (.int .i64 a.access.kind), (.int .i64 a.access.address), (.int .u64 a.access.old), (.int .u64 a.access.new), (.int .i64 a.access.until_), (.int .u64 a.value), (.bool a.ok)]] rfl (Inc.cons (.head _) (Inc.cons (.tail _ (.head _)) Inc.nil)) ?_
  refine Aw_q 0 rfl (by kernel_rfl) (by kernel_rfl) (by kernel_rfl) rfl rfl rfl (Qt_fieldAddr (m := 0) rfl rfl rfl rfl rfl) ?_
  refine Aw_q 1 rfl (by kernel_rfl) (by kernel_rfl) (by kernel_rfl) rfl rfl rfl (Qt_load1 (v := (.int .i64 a.thread)) rfl rfl rfl (Rdc.blk (.tail _ (.head _)) rfl)) ?_
  refine Aw_q 2 rfl (by kernel_rfl) (by kernel_rfl) (by kernel_rfl) rfl rfl rfl (Qt_fieldAddr (m := 0) rfl rfl rfl rfl rfl) ?_
  refine Aw_q 3 rfl (by kernel_rfl) (by kernel_rfl) (by kernel_rfl) rfl rfl rfl (Qt_load1 (v := (.int .i64 b.thread)) rfl rfl rfl (Rdc.blk (.head _) rfl)) ?_
  refine Aw_q 4 rfl (by kernel_rfl) (by kernel_rfl) (by kernel_rfl) rfl rfl rfl (Qt_cmp rfl rfl rfl) ?_
  refine Aw_q 5 rfl (by kernel_rfl) (by kernel_rfl) (by kernel_rfl) rfl rfl rfl (Qt_move rfl) ?_
  refine Aw.case (d := 10) rfl ?_ ?_
  · intro h3
    have h3 := dcd_f (nt_t (h3))
    refine Aw_qw 6 rfl (by kernel_rfl) (by kernel_rfl) (by kernel_rfl) rfl rfl rfl rfl rfl rfl (Qt_loadA (m := 8) (cs := Item.cells a) rfl rfl rfl rfl ⟨rfl, Rdc.blk (.tail _ (.head _)) rfl⟩) ?_
    refine Aw_one 7 (by kernel_rfl) (Ax_mkw rfl rfl rfl rfl rfl (OpW_callP (v0 := (.bool (plain a))) rfl Try.call51 rfl rfl (c_plain a _ _) ⟨(Inc.cons (.head _) (Inc.cons (.tail _ (.head _)) Inc.nil)), ?_⟩))
    refine Aw_q 8 rfl (by kernel_rfl) (by kernel_rfl) (by kernel_rfl) rfl rfl rfl (Qt_pick_t rfl rfl) ?_
    refine Aw_q 9 rfl (by kernel_rfl) (by kernel_rfl) (by kernel_rfl) rfl rfl rfl (Qt_move rfl) ?_
    refine Aw.case (d := 14) rfl ?_ ?_
    · intro h4
      refine Aw_qw 10 rfl (by kernel_rfl) (by kernel_rfl) (by kernel_rfl) rfl rfl rfl rfl rfl rfl (Qt_loadA (m := 8) (cs := Item.cells b) rfl rfl rfl rfl ⟨rfl, Rdc.blk (.head _) rfl⟩) ?_
      refine Aw_one 11 (by kernel_rfl) (Ax_mkw rfl rfl rfl rfl rfl (OpW_callP (v0 := (.bool (plain b))) rfl Try.call51 rfl rfl (c_plain b _ _) ⟨(Inc.cons (.head _) (Inc.cons (.tail _ (.head _)) Inc.nil)), ?_⟩))
      refine Aw_q 12 rfl (by kernel_rfl) (by kernel_rfl) (by kernel_rfl) rfl rfl rfl (Qt_pick_t rfl rfl) ?_
      refine Aw_q 13 rfl (by kernel_rfl) (by kernel_rfl) (by kernel_rfl) rfl rfl rfl (Qt_move rfl) ?_
      refine Aw.case (d := 18) rfl ?_ ?_
      · intro h5
        refine Aw_qw 14 rfl (by kernel_rfl) (by kernel_rfl) (by kernel_rfl) rfl rfl rfl rfl rfl rfl (Qt_loadA (m := 8) (cs := Item.cells a) rfl rfl rfl rfl ⟨rfl, Rdc.blk (.tail _ (.head _)) rfl⟩) ?_
        refine Aw_qw 16 rfl (by kernel_rfl) (by kernel_rfl) (by kernel_rfl) rfl rfl rfl rfl rfl rfl (Qt_loadA (m := 8) (cs := Item.cells b) rfl rfl rfl rfl ⟨rfl, Rdc.blk (.head _) rfl⟩) ?_
        refine Aw_one 15 (by kernel_rfl) (Ax_mkw rfl rfl rfl rfl rfl (OpW_callP (v0 := (.int .i64 (place a))) rfl Try.call24 rfl rfl (c_place a _ _) ⟨(Inc.cons (.head _) (Inc.cons (.tail _ (.head _)) Inc.nil)), ?_⟩))
        refine Aw_one 17 (by kernel_rfl) (Ax_mkw rfl rfl rfl rfl rfl (OpW_callP (v0 := (.int .i64 (place b))) rfl Try.call24 rfl rfl (c_place b _ _) ⟨(Inc.cons (.head _) (Inc.cons (.tail _ (.head _)) Inc.nil)), ?_⟩))
        refine Aw_qw 18 rfl (by kernel_rfl) (by kernel_rfl) (by kernel_rfl) rfl rfl rfl rfl rfl rfl (Qt_cmp rfl rfl rfl) ?_
        refine Aw_q 19 rfl (by kernel_rfl) (by kernel_rfl) (by kernel_rfl) rfl rfl rfl (Qt_pick_t rfl rfl) ?_
        refine Aw_q 20 rfl (by kernel_rfl) (by kernel_rfl) (by kernel_rfl) rfl rfl rfl (Qt_move rfl) ?_
        refine Aw.case (d := 25) rfl ?_ ?_
        · intro h6
          have h6 := dcd_t (h6)
          refine Aw_qw 21 rfl (by kernel_rfl) (by kernel_rfl) (by kernel_rfl) rfl rfl rfl rfl rfl rfl (Qt_loadA (m := 8) (cs := Item.cells a) rfl rfl rfl rfl ⟨rfl, Rdc.blk (.tail _ (.head _)) rfl⟩) ?_
          refine Aw_one 22 (by kernel_rfl) (Ax_mkw rfl rfl rfl rfl rfl (OpW_callP (v0 := (.bool (changes a))) rfl Try.call28 rfl rfl (c_changes a _ _) ⟨(Inc.cons (.head _) (Inc.cons (.tail _ (.head _)) Inc.nil)), ?_⟩))
          refine Aw_qw 23 rfl (by kernel_rfl) (by kernel_rfl) (by kernel_rfl) rfl rfl rfl rfl rfl rfl (Qt_move rfl) ?_
          refine Aw.case (d := 28) rfl ?_ ?_
          · intro h7
            refine Aw_pass 24 rfl (by kernel_rfl) (by kernel_rfl) (by kernel_rfl) rfl rfl rfl rfl rfl rfl rfl ?_
            refine Aw_pass 25 rfl (by kernel_rfl) (by kernel_rfl) (by kernel_rfl) rfl rfl rfl rfl rfl rfl rfl ?_
            refine Aw_qw 26 rfl (by kernel_rfl) (by kernel_rfl) (by kernel_rfl) rfl rfl rfl rfl rfl rfl (Qt_pick_t rfl rfl) ?_
            refine Aw_q 27 rfl (by kernel_rfl) (by kernel_rfl) (by kernel_rfl) rfl rfl rfl (Qt_pick_t rfl rfl) ?_
            refine Aw_q 28 rfl (by kernel_rfl) (by kernel_rfl) (by kernel_rfl) rfl rfl rfl (Qt_assign rfl) ?_
            refine Aw_done (by kernel_rfl) ?_
            refine Cw_ret ?_
            refine ⟨(by first | exact .inl rfl | exact .inr rfl), [(.bool true)], G, ⟨(.bool true), _, rfl, rfl, rfl⟩, .cons _ (.cons _ (.refl _)), ?_⟩
            exact ⟨by first | (simp [mkRes, dcd_eq, conflict, conflict, *]; done) | (simp_all [mkRes, dcd_eq, conflict, conflict]; done), rfl, rfl⟩
          · intro h7
            refine Aw_qw 24 rfl (by kernel_rfl) (by kernel_rfl) (by kernel_rfl) rfl rfl rfl rfl rfl rfl (Qt_loadA (m := 8) (cs := Item.cells b) rfl rfl rfl rfl ⟨rfl, Rdc.blk (.head _) rfl⟩) ?_
            refine Aw_one 25 (by kernel_rfl) (Ax_mkw rfl rfl rfl rfl rfl (OpW_callP (v0 := (.bool (changes b))) rfl Try.call28 rfl rfl (c_changes b _ _) ⟨(Inc.cons (.head _) (Inc.cons (.tail _ (.head _)) Inc.nil)), ?_⟩))
            refine Aw_qw 26 rfl (by kernel_rfl) (by kernel_rfl) (by kernel_rfl) rfl rfl rfl rfl rfl rfl (Qt_pick_f rfl rfl) ?_
            refine Aw_q 27 rfl (by kernel_rfl) (by kernel_rfl) (by kernel_rfl) rfl rfl rfl (Qt_pick_t rfl rfl) ?_
            refine Aw_q 28 rfl (by kernel_rfl) (by kernel_rfl) (by kernel_rfl) rfl rfl rfl (Qt_assign rfl) ?_
            refine Aw_done (by kernel_rfl) ?_
            refine Cw_ret ?_
            refine ⟨(by first | exact .inl rfl | exact .inr rfl), [(.bool (changes b))], G, ⟨(.bool (changes b)), _, rfl, rfl, rfl⟩, .cons _ (.cons _ (.refl _)), ?_⟩
            exact ⟨by first | (simp [mkRes, dcd_eq, conflict, conflict, *]; done) | (simp_all [mkRes, dcd_eq, conflict, conflict]; done), rfl, rfl⟩
        · intro h6
          have h6 := dcd_f (h6)
          refine Aw_pass 21 rfl (by kernel_rfl) (by kernel_rfl) (by kernel_rfl) rfl rfl rfl rfl rfl rfl rfl ?_
          refine Aw_pass 22 rfl (by kernel_rfl) (by kernel_rfl) (by kernel_rfl) rfl rfl rfl rfl rfl rfl rfl ?_
          refine Aw_pass 23 rfl (by kernel_rfl) (by kernel_rfl) (by kernel_rfl) rfl rfl rfl rfl rfl rfl rfl ?_
          refine Aw_passU 24 rfl (by kernel_rfl) (by kernel_rfl) (by kernel_rfl) rfl rfl rfl rfl rfl ?_
          refine Aw_passU 25 rfl (by kernel_rfl) (by kernel_rfl) (by kernel_rfl) rfl rfl rfl rfl rfl ?_
          refine Aw_pass 26 rfl (by kernel_rfl) (by kernel_rfl) (by kernel_rfl) rfl rfl rfl rfl rfl rfl rfl ?_
          refine Aw_q 27 rfl (by kernel_rfl) (by kernel_rfl) (by kernel_rfl) rfl rfl rfl (Qt_pick_f rfl rfl) ?_
          refine Aw_q 28 rfl (by kernel_rfl) (by kernel_rfl) (by kernel_rfl) rfl rfl rfl (Qt_assign rfl) ?_
          refine Aw_done (by kernel_rfl) ?_
          refine Cw_ret ?_
          refine ⟨(by first | exact .inl rfl | exact .inr rfl), [(.bool false)], G, ⟨(.bool false), _, rfl, rfl, rfl⟩, .cons _ (.cons _ (.refl _)), ?_⟩
          exact ⟨by first | (simp [mkRes, dcd_eq, conflict, conflict, *]; done) | (simp_all [mkRes, dcd_eq, conflict, conflict]; done), rfl, rfl⟩
      · intro h5
        refine Aw_pass 14 rfl (by kernel_rfl) (by kernel_rfl) (by kernel_rfl) rfl rfl rfl rfl rfl rfl rfl ?_
        refine Aw_pass 15 rfl (by kernel_rfl) (by kernel_rfl) (by kernel_rfl) rfl rfl rfl rfl rfl rfl rfl ?_
        refine Aw_pass 16 rfl (by kernel_rfl) (by kernel_rfl) (by kernel_rfl) rfl rfl rfl rfl rfl rfl rfl ?_
        refine Aw_pass 17 rfl (by kernel_rfl) (by kernel_rfl) (by kernel_rfl) rfl rfl rfl rfl rfl rfl rfl ?_
        refine Aw_pass 18 rfl (by kernel_rfl) (by kernel_rfl) (by kernel_rfl) rfl rfl rfl rfl rfl rfl rfl ?_
        refine Aw_q 19 rfl (by kernel_rfl) (by kernel_rfl) (by kernel_rfl) rfl rfl rfl (Qt_pick_f rfl rfl) ?_
        refine Aw_q 20 rfl (by kernel_rfl) (by kernel_rfl) (by kernel_rfl) rfl rfl rfl (Qt_move rfl) ?_
        refine Aw_pass 21 rfl (by kernel_rfl) (by kernel_rfl) (by kernel_rfl) rfl rfl rfl rfl rfl rfl rfl ?_
        refine Aw_pass 22 rfl (by kernel_rfl) (by kernel_rfl) (by kernel_rfl) rfl rfl rfl rfl rfl rfl rfl ?_
        refine Aw_pass 23 rfl (by kernel_rfl) (by kernel_rfl) (by kernel_rfl) rfl rfl rfl rfl rfl rfl rfl ?_
        refine Aw_passU 24 rfl (by kernel_rfl) (by kernel_rfl) (by kernel_rfl) rfl rfl rfl rfl rfl ?_
        refine Aw_passU 25 rfl (by kernel_rfl) (by kernel_rfl) (by kernel_rfl) rfl rfl rfl rfl rfl ?_
        refine Aw_pass 26 rfl (by kernel_rfl) (by kernel_rfl) (by kernel_rfl) rfl rfl rfl rfl rfl rfl rfl ?_
        refine Aw_q 27 rfl (by kernel_rfl) (by kernel_rfl) (by kernel_rfl) rfl rfl rfl (Qt_pick_f rfl rfl) ?_
        refine Aw_q 28 rfl (by kernel_rfl) (by kernel_rfl) (by kernel_rfl) rfl rfl rfl (Qt_assign rfl) ?_
        refine Aw_done (by kernel_rfl) ?_
        refine Cw_ret ?_
        refine ⟨(by first | exact .inl rfl | exact .inr rfl), [(.bool false)], G, ⟨(.bool false), _, rfl, rfl, rfl⟩, .cons _ (.cons _ (.refl _)), ?_⟩
        exact ⟨by first | (simp [mkRes, dcd_eq, conflict, conflict, *]; done) | (simp_all [mkRes, dcd_eq, conflict, conflict]; done), rfl, rfl⟩
    · intro h4
      refine Aw_pass 10 rfl (by kernel_rfl) (by kernel_rfl) (by kernel_rfl) rfl rfl rfl rfl rfl rfl rfl ?_
      refine Aw_pass 11 rfl (by kernel_rfl) (by kernel_rfl) (by kernel_rfl) rfl rfl rfl rfl rfl rfl rfl ?_
      refine Aw_q 12 rfl (by kernel_rfl) (by kernel_rfl) (by kernel_rfl) rfl rfl rfl (Qt_pick_f rfl rfl) ?_
      refine Aw_q 13 rfl (by kernel_rfl) (by kernel_rfl) (by kernel_rfl) rfl rfl rfl (Qt_move rfl) ?_
      refine Aw_pass 14 rfl (by kernel_rfl) (by kernel_rfl) (by kernel_rfl) rfl rfl rfl rfl rfl rfl rfl ?_
      refine Aw_pass 15 rfl (by kernel_rfl) (by kernel_rfl) (by kernel_rfl) rfl rfl rfl rfl rfl rfl rfl ?_
      refine Aw_pass 16 rfl (by kernel_rfl) (by kernel_rfl) (by kernel_rfl) rfl rfl rfl rfl rfl rfl rfl ?_
      refine Aw_pass 17 rfl (by kernel_rfl) (by kernel_rfl) (by kernel_rfl) rfl rfl rfl rfl rfl rfl rfl ?_
      refine Aw_pass 18 rfl (by kernel_rfl) (by kernel_rfl) (by kernel_rfl) rfl rfl rfl rfl rfl rfl rfl ?_
      refine Aw_q 19 rfl (by kernel_rfl) (by kernel_rfl) (by kernel_rfl) rfl rfl rfl (Qt_pick_f rfl rfl) ?_
      refine Aw_q 20 rfl (by kernel_rfl) (by kernel_rfl) (by kernel_rfl) rfl rfl rfl (Qt_move rfl) ?_
      refine Aw_pass 21 rfl (by kernel_rfl) (by kernel_rfl) (by kernel_rfl) rfl rfl rfl rfl rfl rfl rfl ?_
      refine Aw_pass 22 rfl (by kernel_rfl) (by kernel_rfl) (by kernel_rfl) rfl rfl rfl rfl rfl rfl rfl ?_
      refine Aw_pass 23 rfl (by kernel_rfl) (by kernel_rfl) (by kernel_rfl) rfl rfl rfl rfl rfl rfl rfl ?_
      refine Aw_passU 24 rfl (by kernel_rfl) (by kernel_rfl) (by kernel_rfl) rfl rfl rfl rfl rfl ?_
      refine Aw_passU 25 rfl (by kernel_rfl) (by kernel_rfl) (by kernel_rfl) rfl rfl rfl rfl rfl ?_
      refine Aw_pass 26 rfl (by kernel_rfl) (by kernel_rfl) (by kernel_rfl) rfl rfl rfl rfl rfl rfl rfl ?_
      refine Aw_q 27 rfl (by kernel_rfl) (by kernel_rfl) (by kernel_rfl) rfl rfl rfl (Qt_pick_f rfl rfl) ?_
      refine Aw_q 28 rfl (by kernel_rfl) (by kernel_rfl) (by kernel_rfl) rfl rfl rfl (Qt_assign rfl) ?_
      refine Aw_done (by kernel_rfl) ?_
      refine Cw_ret ?_
      refine ⟨(by first | exact .inl rfl | exact .inr rfl), [(.bool false)], G, ⟨(.bool false), _, rfl, rfl, rfl⟩, .cons _ (.cons _ (.refl _)), ?_⟩
      exact ⟨by first | (simp [mkRes, dcd_eq, conflict, conflict, *]; done) | (simp_all [mkRes, dcd_eq, conflict, conflict]; done), rfl, rfl⟩
  · intro h3
    have h3 := dcd_t (nt_f (h3))
    refine Aw_pass 6 rfl (by kernel_rfl) (by kernel_rfl) (by kernel_rfl) rfl rfl rfl rfl rfl rfl rfl ?_
    refine Aw_pass 7 rfl (by kernel_rfl) (by kernel_rfl) (by kernel_rfl) rfl rfl rfl rfl rfl rfl rfl ?_
    refine Aw_q 8 rfl (by kernel_rfl) (by kernel_rfl) (by kernel_rfl) rfl rfl rfl (Qt_pick_f rfl rfl) ?_
    refine Aw_q 9 rfl (by kernel_rfl) (by kernel_rfl) (by kernel_rfl) rfl rfl rfl (Qt_move rfl) ?_
    refine Aw_pass 10 rfl (by kernel_rfl) (by kernel_rfl) (by kernel_rfl) rfl rfl rfl rfl rfl rfl rfl ?_
    refine Aw_pass 11 rfl (by kernel_rfl) (by kernel_rfl) (by kernel_rfl) rfl rfl rfl rfl rfl rfl rfl ?_
    refine Aw_q 12 rfl (by kernel_rfl) (by kernel_rfl) (by kernel_rfl) rfl rfl rfl (Qt_pick_f rfl rfl) ?_
    refine Aw_q 13 rfl (by kernel_rfl) (by kernel_rfl) (by kernel_rfl) rfl rfl rfl (Qt_move rfl) ?_
    refine Aw_pass 14 rfl (by kernel_rfl) (by kernel_rfl) (by kernel_rfl) rfl rfl rfl rfl rfl rfl rfl ?_
    refine Aw_pass 15 rfl (by kernel_rfl) (by kernel_rfl) (by kernel_rfl) rfl rfl rfl rfl rfl rfl rfl ?_
    refine Aw_pass 16 rfl (by kernel_rfl) (by kernel_rfl) (by kernel_rfl) rfl rfl rfl rfl rfl rfl rfl ?_
    refine Aw_pass 17 rfl (by kernel_rfl) (by kernel_rfl) (by kernel_rfl) rfl rfl rfl rfl rfl rfl rfl ?_
    refine Aw_pass 18 rfl (by kernel_rfl) (by kernel_rfl) (by kernel_rfl) rfl rfl rfl rfl rfl rfl rfl ?_
    refine Aw_q 19 rfl (by kernel_rfl) (by kernel_rfl) (by kernel_rfl) rfl rfl rfl (Qt_pick_f rfl rfl) ?_
    refine Aw_q 20 rfl (by kernel_rfl) (by kernel_rfl) (by kernel_rfl) rfl rfl rfl (Qt_move rfl) ?_
    refine Aw_pass 21 rfl (by kernel_rfl) (by kernel_rfl) (by kernel_rfl) rfl rfl rfl rfl rfl rfl rfl ?_
    refine Aw_pass 22 rfl (by kernel_rfl) (by kernel_rfl) (by kernel_rfl) rfl rfl rfl rfl rfl rfl rfl ?_
    refine Aw_pass 23 rfl (by kernel_rfl) (by kernel_rfl) (by kernel_rfl) rfl rfl rfl rfl rfl rfl rfl ?_
    refine Aw_passU 24 rfl (by kernel_rfl) (by kernel_rfl) (by kernel_rfl) rfl rfl rfl rfl rfl ?_
    refine Aw_passU 25 rfl (by kernel_rfl) (by kernel_rfl) (by kernel_rfl) rfl rfl rfl rfl rfl ?_
    refine Aw_pass 26 rfl (by kernel_rfl) (by kernel_rfl) (by kernel_rfl) rfl rfl rfl rfl rfl rfl rfl ?_
    refine Aw_q 27 rfl (by kernel_rfl) (by kernel_rfl) (by kernel_rfl) rfl rfl rfl (Qt_pick_f rfl rfl) ?_
    refine Aw_q 28 rfl (by kernel_rfl) (by kernel_rfl) (by kernel_rfl) rfl rfl rfl (Qt_assign rfl) ?_
    refine Aw_done (by kernel_rfl) ?_
    refine Cw_ret ?_
    refine ⟨(by first | exact .inl rfl | exact .inr rfl), [(.bool false)], G, ⟨(.bool false), _, rfl, rfl, rfl⟩, .cons _ (.cons _ (.refl _)), ?_⟩
    exact ⟨by first | (simp [mkRes, dcd_eq, conflict, conflict, *]; done) | (simp_all [mkRes, dcd_eq, conflict, conflict]; done), rfl, rfl⟩

theorem c_conflictR (a b : Item) (K : Kp) (G : List Ent)  :
    Fc Try.prog 17 #[(Item.val a), (Item.val b)] K G (fun v K' G' => v = (.bool (conflict a b)) ∧ K' = K ∧ G' = G) := by
  refine Fc_of Try.func17 rfl Try.ntmps17 Try.results17 rfl ?_
  refine Cw_seq ?_
  refine Cw_region ?_
  refine Ow_cons rfl (OpW_box (cs := [(.int .i64 a.thread), (.int .i64 a.access.kind), (.int .i64 a.access.address), (.int .u64 a.access.old), (.int .u64 a.access.new), (.int .i64 a.access.until_), (.int .u64 a.value), (.bool a.ok)]) rfl rfl rfl (fun b1 => ?_))
  refine Ow_cons rfl (OpW_box (cs := [(.int .i64 b.thread), (.int .i64 b.access.kind), (.int .i64 b.access.address), (.int .u64 b.access.old), (.int .u64 b.access.new), (.int .i64 b.access.until_), (.int .u64 b.value), (.bool b.ok)]) rfl rfl rfl (fun b2 => ?_))
  refine Ow_q rfl rfl rfl (Qt_assign rfl) ?_
  refine Ow_nil ?_
  refine Cw_seq ?_
  refine Cw_region ?_
  refine Ow_q rfl rfl rfl (Qt_fieldAddr (m := 1) rfl rfl rfl rfl rfl) ?_
  refine Ow_q rfl rfl rfl (Qt_fieldAddr (m := 1) rfl rfl rfl rfl rfl) ?_
  refine Ow_q rfl rfl rfl (Qt_load1 (v := (.int .i64 a.access.kind)) rfl rfl rfl (Rdc.blk (.tail _ (.head _)) rfl)) ?_
  refine Ow_q rfl rfl rfl (Qt_cmp rfl rfl rfl) ?_
  refine Ow_q rfl rfl rfl (Qt_move rfl) ?_
  refine Ow_caseG rfl rfl rfl ?_ ?_
  · intro h3
    have h3 := dcd_t (h3)
    refine Ow_qw rfl rfl rfl rfl rfl rfl (Qt_fieldAddr (m := 1) rfl rfl rfl rfl rfl) ?_
    refine Ow_qw rfl rfl rfl rfl rfl rfl (Qt_fieldAddr (m := 1) rfl rfl rfl rfl rfl) ?_
    refine Ow_qw rfl rfl rfl rfl rfl rfl (Qt_load1 (v := (.int .i64 a.access.kind)) rfl rfl rfl (Rdc.blk (.tail _ (.head _)) rfl)) ?_
    refine Ow_qw rfl rfl rfl rfl rfl rfl (Qt_cmp rfl rfl rfl) ?_
    refine Ow_q rfl rfl rfl (Qt_pick_t rfl rfl) ?_
    refine Ow_q rfl rfl rfl (Qt_move rfl) ?_
    refine Ow_caseG rfl rfl rfl ?_ ?_
    · intro h4
      have h4 := dcd_t (h4)
      refine Ow_qw rfl rfl rfl rfl rfl rfl (Qt_fieldAddr (m := 1) rfl rfl rfl rfl rfl) ?_
      refine Ow_qw rfl rfl rfl rfl rfl rfl (Qt_fieldAddr (m := 1) rfl rfl rfl rfl rfl) ?_
      refine Ow_qw rfl rfl rfl rfl rfl rfl (Qt_load1 (v := (.int .i64 b.access.kind)) rfl rfl rfl (Rdc.blk (.head _) rfl)) ?_
      refine Ow_qw rfl rfl rfl rfl rfl rfl (Qt_cmp rfl rfl rfl) ?_
      refine Ow_q rfl rfl rfl (Qt_pick_t rfl rfl) ?_
      refine Ow_q rfl rfl rfl (Qt_move rfl) ?_
      refine Ow_caseG rfl rfl rfl ?_ ?_
      · intro h5
        have h5 := dcd_t (h5)
        refine Ow_qw rfl rfl rfl rfl rfl rfl (Qt_fieldAddr (m := 1) rfl rfl rfl rfl rfl) ?_
        refine Ow_qw rfl rfl rfl rfl rfl rfl (Qt_fieldAddr (m := 1) rfl rfl rfl rfl rfl) ?_
        refine Ow_qw rfl rfl rfl rfl rfl rfl (Qt_load1 (v := (.int .i64 b.access.kind)) rfl rfl rfl (Rdc.blk (.head _) rfl)) ?_
        refine Ow_qw rfl rfl rfl rfl rfl rfl (Qt_cmp rfl rfl rfl) ?_
        refine Ow_q rfl rfl rfl (Qt_pick_t rfl rfl) ?_
        refine Ow_q rfl rfl rfl (Qt_assign rfl) ?_
        refine Ow_nil ?_
        refine Cw_seq ?_
        refine Cw_region_any [.blk b2 26 [(.int .i64 b.thread), (.int .i64 b.access.kind), (.int .i64 b.access.address), (.int .u64 b.access.old), (.int .u64 b.access.new), (.int .i64 b.access.until_), (.int .u64 b.value), (.bool b.ok)], .blk b1 26 [(.int .i64 a.thread), (.int .i64 a.access.kind), (.int .i64 a.access.address), (.int .u64 a.access.old), (.int .u64 a.access.new), (.int .i64 a.access.until_), (.int .u64 a.value), (.bool a.ok)]] rfl (Inc.cons (.head _) (Inc.cons (.tail _ (.head _)) Inc.nil)) ?_
        refine Aw_q 0 rfl (by kernel_rfl) (by kernel_rfl) (by kernel_rfl) rfl rfl rfl (Qt_move rfl) ?_
        refine Aw_q 1 rfl (by kernel_rfl) (by kernel_rfl) (by kernel_rfl) rfl rfl rfl (Qt_move rfl) ?_
        refine Aw.case (d := 29) rfl ?_ ?_
        · intro h6
          have h6 := dcd_t (h6)
          refine Aw_qw 2 rfl (by kernel_rfl) (by kernel_rfl) (by kernel_rfl) rfl rfl rfl rfl rfl rfl (Qt_fieldAddr (m := 0) rfl rfl rfl rfl rfl) ?_
          refine Aw_qw 3 rfl (by kernel_rfl) (by kernel_rfl) (by kernel_rfl) rfl rfl rfl rfl rfl rfl (Qt_load1 (v := (.int .i64 a.thread)) rfl rfl rfl (Rdc.blk (.tail _ (.head _)) rfl)) ?_
          refine Aw_qw 4 rfl (by kernel_rfl) (by kernel_rfl) (by kernel_rfl) rfl rfl rfl rfl rfl rfl (Qt_fieldAddr (m := 0) rfl rfl rfl rfl rfl) ?_
          refine Aw_qw 5 rfl (by kernel_rfl) (by kernel_rfl) (by kernel_rfl) rfl rfl rfl rfl rfl rfl (Qt_load1 (v := (.int .i64 b.thread)) rfl rfl rfl (Rdc.blk (.head _) rfl)) ?_
          refine Aw_qw 6 rfl (by kernel_rfl) (by kernel_rfl) (by kernel_rfl) rfl rfl rfl rfl rfl rfl (Qt_cmp rfl rfl rfl) ?_
          refine Aw_q 7 rfl (by kernel_rfl) (by kernel_rfl) (by kernel_rfl) rfl rfl rfl (Qt_pick_t rfl rfl) ?_
          refine Aw_q 8 rfl (by kernel_rfl) (by kernel_rfl) (by kernel_rfl) rfl rfl rfl (Qt_move rfl) ?_
          refine Aw.case (d := 36) rfl ?_ ?_
          · intro h7
            have h7 := dcd_f (nt_t (h7))
            refine Aw_qw 9 rfl (by kernel_rfl) (by kernel_rfl) (by kernel_rfl) rfl rfl rfl rfl rfl rfl (Qt_loadA (m := 8) (cs := Item.cells a) rfl rfl rfl rfl ⟨rfl, Rdc.blk (.tail _ (.head _)) rfl⟩) ?_
            refine Aw_qw 11 rfl (by kernel_rfl) (by kernel_rfl) (by kernel_rfl) rfl rfl rfl rfl rfl rfl (Qt_loadA (m := 8) (cs := Item.cells b) rfl rfl rfl rfl ⟨rfl, Rdc.blk (.head _) rfl⟩) ?_
            refine Aw_one 10 (by kernel_rfl) (Ax_mkw rfl rfl rfl rfl rfl (OpW_callP (v0 := (.int .i64 (place a))) rfl Try.call25 rfl rfl (c_placeR a _ _) ⟨(Inc.cons (.head _) (Inc.cons (.tail _ (.head _)) Inc.nil)), ?_⟩))
            refine Aw_one 12 (by kernel_rfl) (Ax_mkw rfl rfl rfl rfl rfl (OpW_callP (v0 := (.int .i64 (place b))) rfl Try.call25 rfl rfl (c_placeR b _ _) ⟨(Inc.cons (.head _) (Inc.cons (.tail _ (.head _)) Inc.nil)), ?_⟩))
            refine Aw_qw 13 rfl (by kernel_rfl) (by kernel_rfl) (by kernel_rfl) rfl rfl rfl rfl rfl rfl (Qt_cmp rfl rfl rfl) ?_
            refine Aw_q 14 rfl (by kernel_rfl) (by kernel_rfl) (by kernel_rfl) rfl rfl rfl (Qt_pick_t rfl rfl) ?_
            refine Aw_q 15 rfl (by kernel_rfl) (by kernel_rfl) (by kernel_rfl) rfl rfl rfl (Qt_move rfl) ?_
            refine Aw.case (d := 43) rfl ?_ ?_
            · intro h8
              have h8 := dcd_t (h8)
              refine Aw_qw 16 rfl (by kernel_rfl) (by kernel_rfl) (by kernel_rfl) rfl rfl rfl rfl rfl rfl (Qt_loadA (m := 8) (cs := Item.cells a) rfl rfl rfl rfl ⟨rfl, Rdc.blk (.tail _ (.head _)) rfl⟩) ?_
              refine Aw_one 17 (by kernel_rfl) (Ax_mkw rfl rfl rfl rfl rfl (OpW_callP (v0 := (.bool (changes a))) rfl Try.call29 rfl rfl (c_changesR a _ _) ⟨(Inc.cons (.head _) (Inc.cons (.tail _ (.head _)) Inc.nil)), ?_⟩))
              refine Aw_qw 18 rfl (by kernel_rfl) (by kernel_rfl) (by kernel_rfl) rfl rfl rfl rfl rfl rfl (Qt_move rfl) ?_
              refine Aw.case (d := 46) rfl ?_ ?_
              · intro h9
                refine Aw_pass 19 rfl (by kernel_rfl) (by kernel_rfl) (by kernel_rfl) rfl rfl rfl rfl rfl rfl rfl ?_
                refine Aw_pass 20 rfl (by kernel_rfl) (by kernel_rfl) (by kernel_rfl) rfl rfl rfl rfl rfl rfl rfl ?_
                refine Aw_qw 21 rfl (by kernel_rfl) (by kernel_rfl) (by kernel_rfl) rfl rfl rfl rfl rfl rfl (Qt_pick_t rfl rfl) ?_
                refine Aw_q 22 rfl (by kernel_rfl) (by kernel_rfl) (by kernel_rfl) rfl rfl rfl (Qt_pick_t rfl rfl) ?_
                refine Aw_q 23 rfl (by kernel_rfl) (by kernel_rfl) (by kernel_rfl) rfl rfl rfl (Qt_assign rfl) ?_
                refine Aw_done (by kernel_rfl) ?_
                refine Cw_ret ?_
                refine ⟨(by first | exact .inl rfl | exact .inr rfl), [(.bool true)], G, ⟨(.bool true), _, rfl, rfl, rfl⟩, .cons _ (.cons _ (.refl _)), ?_⟩
                exact ⟨by first | (simp [mkRes, dcd_eq, conflict, plain, conflict, *]; done) | (simp_all [mkRes, dcd_eq, conflict, plain, conflict]; done), rfl, rfl⟩
              · intro h9
                refine Aw_qw 19 rfl (by kernel_rfl) (by kernel_rfl) (by kernel_rfl) rfl rfl rfl rfl rfl rfl (Qt_loadA (m := 8) (cs := Item.cells b) rfl rfl rfl rfl ⟨rfl, Rdc.blk (.head _) rfl⟩) ?_
                refine Aw_one 20 (by kernel_rfl) (Ax_mkw rfl rfl rfl rfl rfl (OpW_callP (v0 := (.bool (changes b))) rfl Try.call29 rfl rfl (c_changesR b _ _) ⟨(Inc.cons (.head _) (Inc.cons (.tail _ (.head _)) Inc.nil)), ?_⟩))
                refine Aw_qw 21 rfl (by kernel_rfl) (by kernel_rfl) (by kernel_rfl) rfl rfl rfl rfl rfl rfl (Qt_pick_f rfl rfl) ?_
                refine Aw_q 22 rfl (by kernel_rfl) (by kernel_rfl) (by kernel_rfl) rfl rfl rfl (Qt_pick_t rfl rfl) ?_
                refine Aw_q 23 rfl (by kernel_rfl) (by kernel_rfl) (by kernel_rfl) rfl rfl rfl (Qt_assign rfl) ?_
                refine Aw_done (by kernel_rfl) ?_
                refine Cw_ret ?_
                refine ⟨(by first | exact .inl rfl | exact .inr rfl), [(.bool (changes b))], G, ⟨(.bool (changes b)), _, rfl, rfl, rfl⟩, .cons _ (.cons _ (.refl _)), ?_⟩
                exact ⟨by first | (simp [mkRes, dcd_eq, conflict, plain, conflict, *]; done) | (simp_all [mkRes, dcd_eq, conflict, plain, conflict]; done), rfl, rfl⟩
            · intro h8
              have h8 := dcd_f (h8)
              refine Aw_pass 16 rfl (by kernel_rfl) (by kernel_rfl) (by kernel_rfl) rfl rfl rfl rfl rfl rfl rfl ?_
              refine Aw_pass 17 rfl (by kernel_rfl) (by kernel_rfl) (by kernel_rfl) rfl rfl rfl rfl rfl rfl rfl ?_
              refine Aw_pass 18 rfl (by kernel_rfl) (by kernel_rfl) (by kernel_rfl) rfl rfl rfl rfl rfl rfl rfl ?_
              refine Aw_passU 19 rfl (by kernel_rfl) (by kernel_rfl) (by kernel_rfl) rfl rfl rfl rfl rfl ?_
              refine Aw_passU 20 rfl (by kernel_rfl) (by kernel_rfl) (by kernel_rfl) rfl rfl rfl rfl rfl ?_
              refine Aw_pass 21 rfl (by kernel_rfl) (by kernel_rfl) (by kernel_rfl) rfl rfl rfl rfl rfl rfl rfl ?_
              refine Aw_q 22 rfl (by kernel_rfl) (by kernel_rfl) (by kernel_rfl) rfl rfl rfl (Qt_pick_f rfl rfl) ?_
              refine Aw_q 23 rfl (by kernel_rfl) (by kernel_rfl) (by kernel_rfl) rfl rfl rfl (Qt_assign rfl) ?_
              refine Aw_done (by kernel_rfl) ?_
              refine Cw_ret ?_
              refine ⟨(by first | exact .inl rfl | exact .inr rfl), [(.bool false)], G, ⟨(.bool false), _, rfl, rfl, rfl⟩, .cons _ (.cons _ (.refl _)), ?_⟩
              exact ⟨by first | (simp [mkRes, dcd_eq, conflict, plain, conflict, *]; done) | (simp_all [mkRes, dcd_eq, conflict, plain, conflict]; done), rfl, rfl⟩
          · intro h7
            have h7 := dcd_t (nt_f (h7))
            refine Aw_pass 9 rfl (by kernel_rfl) (by kernel_rfl) (by kernel_rfl) rfl rfl rfl rfl rfl rfl rfl ?_
            refine Aw_pass 10 rfl (by kernel_rfl) (by kernel_rfl) (by kernel_rfl) rfl rfl rfl rfl rfl rfl rfl ?_
            refine Aw_pass 11 rfl (by kernel_rfl) (by kernel_rfl) (by kernel_rfl) rfl rfl rfl rfl rfl rfl rfl ?_
            refine Aw_pass 12 rfl (by kernel_rfl) (by kernel_rfl) (by kernel_rfl) rfl rfl rfl rfl rfl rfl rfl ?_
            refine Aw_pass 13 rfl (by kernel_rfl) (by kernel_rfl) (by kernel_rfl) rfl rfl rfl rfl rfl rfl rfl ?_
            refine Aw_q 14 rfl (by kernel_rfl) (by kernel_rfl) (by kernel_rfl) rfl rfl rfl (Qt_pick_f rfl rfl) ?_
            refine Aw_q 15 rfl (by kernel_rfl) (by kernel_rfl) (by kernel_rfl) rfl rfl rfl (Qt_move rfl) ?_
            refine Aw_pass 16 rfl (by kernel_rfl) (by kernel_rfl) (by kernel_rfl) rfl rfl rfl rfl rfl rfl rfl ?_
            refine Aw_pass 17 rfl (by kernel_rfl) (by kernel_rfl) (by kernel_rfl) rfl rfl rfl rfl rfl rfl rfl ?_
            refine Aw_pass 18 rfl (by kernel_rfl) (by kernel_rfl) (by kernel_rfl) rfl rfl rfl rfl rfl rfl rfl ?_
            refine Aw_passU 19 rfl (by kernel_rfl) (by kernel_rfl) (by kernel_rfl) rfl rfl rfl rfl rfl ?_
            refine Aw_passU 20 rfl (by kernel_rfl) (by kernel_rfl) (by kernel_rfl) rfl rfl rfl rfl rfl ?_
            refine Aw_pass 21 rfl (by kernel_rfl) (by kernel_rfl) (by kernel_rfl) rfl rfl rfl rfl rfl rfl rfl ?_
            refine Aw_q 22 rfl (by kernel_rfl) (by kernel_rfl) (by kernel_rfl) rfl rfl rfl (Qt_pick_f rfl rfl) ?_
            refine Aw_q 23 rfl (by kernel_rfl) (by kernel_rfl) (by kernel_rfl) rfl rfl rfl (Qt_assign rfl) ?_
            refine Aw_done (by kernel_rfl) ?_
            refine Cw_ret ?_
            refine ⟨(by first | exact .inl rfl | exact .inr rfl), [(.bool false)], G, ⟨(.bool false), _, rfl, rfl, rfl⟩, .cons _ (.cons _ (.refl _)), ?_⟩
            exact ⟨by first | (simp [mkRes, dcd_eq, conflict, plain, conflict, *]; done) | (simp_all [mkRes, dcd_eq, conflict, plain, conflict]; done), rfl, rfl⟩
        · intro h6
          have h6 := dcd_f (h6)
          refine Aw_pass 2 rfl (by kernel_rfl) (by kernel_rfl) (by kernel_rfl) rfl rfl rfl rfl rfl rfl rfl ?_
          refine Aw_pass 3 rfl (by kernel_rfl) (by kernel_rfl) (by kernel_rfl) rfl rfl rfl rfl rfl rfl rfl ?_
          refine Aw_pass 4 rfl (by kernel_rfl) (by kernel_rfl) (by kernel_rfl) rfl rfl rfl rfl rfl rfl rfl ?_
          refine Aw_pass 5 rfl (by kernel_rfl) (by kernel_rfl) (by kernel_rfl) rfl rfl rfl rfl rfl rfl rfl ?_
          refine Aw_pass 6 rfl (by kernel_rfl) (by kernel_rfl) (by kernel_rfl) rfl rfl rfl rfl rfl rfl rfl ?_
          refine Aw_q 7 rfl (by kernel_rfl) (by kernel_rfl) (by kernel_rfl) rfl rfl rfl (Qt_pick_f rfl rfl) ?_
          refine Aw_q 8 rfl (by kernel_rfl) (by kernel_rfl) (by kernel_rfl) rfl rfl rfl (Qt_move rfl) ?_
          refine Aw_pass 9 rfl (by kernel_rfl) (by kernel_rfl) (by kernel_rfl) rfl rfl rfl rfl rfl rfl rfl ?_
          refine Aw_pass 10 rfl (by kernel_rfl) (by kernel_rfl) (by kernel_rfl) rfl rfl rfl rfl rfl rfl rfl ?_
          refine Aw_pass 11 rfl (by kernel_rfl) (by kernel_rfl) (by kernel_rfl) rfl rfl rfl rfl rfl rfl rfl ?_
          refine Aw_pass 12 rfl (by kernel_rfl) (by kernel_rfl) (by kernel_rfl) rfl rfl rfl rfl rfl rfl rfl ?_
          refine Aw_pass 13 rfl (by kernel_rfl) (by kernel_rfl) (by kernel_rfl) rfl rfl rfl rfl rfl rfl rfl ?_
          refine Aw_q 14 rfl (by kernel_rfl) (by kernel_rfl) (by kernel_rfl) rfl rfl rfl (Qt_pick_f rfl rfl) ?_
          refine Aw_q 15 rfl (by kernel_rfl) (by kernel_rfl) (by kernel_rfl) rfl rfl rfl (Qt_move rfl) ?_
          refine Aw_pass 16 rfl (by kernel_rfl) (by kernel_rfl) (by kernel_rfl) rfl rfl rfl rfl rfl rfl rfl ?_
          refine Aw_pass 17 rfl (by kernel_rfl) (by kernel_rfl) (by kernel_rfl) rfl rfl rfl rfl rfl rfl rfl ?_
          refine Aw_pass 18 rfl (by kernel_rfl) (by kernel_rfl) (by kernel_rfl) rfl rfl rfl rfl rfl rfl rfl ?_
          refine Aw_passU 19 rfl (by kernel_rfl) (by kernel_rfl) (by kernel_rfl) rfl rfl rfl rfl rfl ?_
          refine Aw_passU 20 rfl (by kernel_rfl) (by kernel_rfl) (by kernel_rfl) rfl rfl rfl rfl rfl ?_
          refine Aw_pass 21 rfl (by kernel_rfl) (by kernel_rfl) (by kernel_rfl) rfl rfl rfl rfl rfl rfl rfl ?_
          refine Aw_q 22 rfl (by kernel_rfl) (by kernel_rfl) (by kernel_rfl) rfl rfl rfl (Qt_pick_f rfl rfl) ?_
          refine Aw_q 23 rfl (by kernel_rfl) (by kernel_rfl) (by kernel_rfl) rfl rfl rfl (Qt_assign rfl) ?_
          refine Aw_done (by kernel_rfl) ?_
          refine Cw_ret ?_
          refine ⟨(by first | exact .inl rfl | exact .inr rfl), [(.bool false)], G, ⟨(.bool false), _, rfl, rfl, rfl⟩, .cons _ (.cons _ (.refl _)), ?_⟩
          exact ⟨by first | (simp [mkRes, dcd_eq, conflict, plain, conflict, *]; done) | (simp_all [mkRes, dcd_eq, conflict, plain, conflict]; done), rfl, rfl⟩
      · intro h5
        have h5 := dcd_f (h5)
        refine Ow_pass rfl rfl rfl rfl rfl rfl rfl ?_
        refine Ow_pass rfl rfl rfl rfl rfl rfl rfl ?_
        refine Ow_pass rfl rfl rfl rfl rfl rfl rfl ?_
        refine Ow_pass rfl rfl rfl rfl rfl rfl rfl ?_
        refine Ow_q rfl rfl rfl (Qt_pick_f rfl rfl) ?_
        refine Ow_q rfl rfl rfl (Qt_assign rfl) ?_
        refine Ow_nil ?_
        refine Cw_seq ?_
        refine Cw_region_any [.blk b2 26 [(.int .i64 b.thread), (.int .i64 b.access.kind), (.int .i64 b.access.address), (.int .u64 b.access.old), (.int .u64 b.access.new), (.int .i64 b.access.until_), (.int .u64 b.value), (.bool b.ok)], .blk b1 26 [(.int .i64 a.thread), (.int .i64 a.access.kind), (.int .i64 a.access.address), (.int .u64 a.access.old), (.int .u64 a.access.new), (.int .i64 a.access.until_), (.int .u64 a.value), (.bool a.ok)]] rfl (Inc.cons (.head _) (Inc.cons (.tail _ (.head _)) Inc.nil)) ?_
        refine Aw_q 0 rfl (by kernel_rfl) (by kernel_rfl) (by kernel_rfl) rfl rfl rfl (Qt_move rfl) ?_
        refine Aw_q 1 rfl (by kernel_rfl) (by kernel_rfl) (by kernel_rfl) rfl rfl rfl (Qt_move rfl) ?_
        refine Aw_pass 2 rfl (by kernel_rfl) (by kernel_rfl) (by kernel_rfl) rfl rfl rfl rfl rfl rfl rfl ?_
        refine Aw_pass 3 rfl (by kernel_rfl) (by kernel_rfl) (by kernel_rfl) rfl rfl rfl rfl rfl rfl rfl ?_
        refine Aw_pass 4 rfl (by kernel_rfl) (by kernel_rfl) (by kernel_rfl) rfl rfl rfl rfl rfl rfl rfl ?_
        refine Aw_pass 5 rfl (by kernel_rfl) (by kernel_rfl) (by kernel_rfl) rfl rfl rfl rfl rfl rfl rfl ?_
        refine Aw_pass 6 rfl (by kernel_rfl) (by kernel_rfl) (by kernel_rfl) rfl rfl rfl rfl rfl rfl rfl ?_
        refine Aw_q 7 rfl (by kernel_rfl) (by kernel_rfl) (by kernel_rfl) rfl rfl rfl (Qt_pick_f rfl rfl) ?_
        refine Aw_q 8 rfl (by kernel_rfl) (by kernel_rfl) (by kernel_rfl) rfl rfl rfl (Qt_move rfl) ?_
        refine Aw_pass 9 rfl (by kernel_rfl) (by kernel_rfl) (by kernel_rfl) rfl rfl rfl rfl rfl rfl rfl ?_
        refine Aw_pass 10 rfl (by kernel_rfl) (by kernel_rfl) (by kernel_rfl) rfl rfl rfl rfl rfl rfl rfl ?_
        refine Aw_pass 11 rfl (by kernel_rfl) (by kernel_rfl) (by kernel_rfl) rfl rfl rfl rfl rfl rfl rfl ?_
        refine Aw_pass 12 rfl (by kernel_rfl) (by kernel_rfl) (by kernel_rfl) rfl rfl rfl rfl rfl rfl rfl ?_
        refine Aw_pass 13 rfl (by kernel_rfl) (by kernel_rfl) (by kernel_rfl) rfl rfl rfl rfl rfl rfl rfl ?_
        refine Aw_q 14 rfl (by kernel_rfl) (by kernel_rfl) (by kernel_rfl) rfl rfl rfl (Qt_pick_f rfl rfl) ?_
        refine Aw_q 15 rfl (by kernel_rfl) (by kernel_rfl) (by kernel_rfl) rfl rfl rfl (Qt_move rfl) ?_
        refine Aw_pass 16 rfl (by kernel_rfl) (by kernel_rfl) (by kernel_rfl) rfl rfl rfl rfl rfl rfl rfl ?_
        refine Aw_pass 17 rfl (by kernel_rfl) (by kernel_rfl) (by kernel_rfl) rfl rfl rfl rfl rfl rfl rfl ?_
        refine Aw_pass 18 rfl (by kernel_rfl) (by kernel_rfl) (by kernel_rfl) rfl rfl rfl rfl rfl rfl rfl ?_
        refine Aw_passU 19 rfl (by kernel_rfl) (by kernel_rfl) (by kernel_rfl) rfl rfl rfl rfl rfl ?_
        refine Aw_passU 20 rfl (by kernel_rfl) (by kernel_rfl) (by kernel_rfl) rfl rfl rfl rfl rfl ?_
        refine Aw_pass 21 rfl (by kernel_rfl) (by kernel_rfl) (by kernel_rfl) rfl rfl rfl rfl rfl rfl rfl ?_
        refine Aw_q 22 rfl (by kernel_rfl) (by kernel_rfl) (by kernel_rfl) rfl rfl rfl (Qt_pick_f rfl rfl) ?_
        refine Aw_q 23 rfl (by kernel_rfl) (by kernel_rfl) (by kernel_rfl) rfl rfl rfl (Qt_assign rfl) ?_
        refine Aw_done (by kernel_rfl) ?_
        refine Cw_ret ?_
        refine ⟨(by first | exact .inl rfl | exact .inr rfl), [(.bool false)], G, ⟨(.bool false), _, rfl, rfl, rfl⟩, .cons _ (.cons _ (.refl _)), ?_⟩
        exact ⟨by first | (simp [mkRes, dcd_eq, conflict, plain, conflict, *]; done) | (simp_all [mkRes, dcd_eq, conflict, plain, conflict]; done), rfl, rfl⟩
    · intro h4
      have h4 := dcd_f (h4)
      refine Ow_pass rfl rfl rfl rfl rfl rfl rfl ?_
      refine Ow_pass rfl rfl rfl rfl rfl rfl rfl ?_
      refine Ow_pass rfl rfl rfl rfl rfl rfl rfl ?_
      refine Ow_pass rfl rfl rfl rfl rfl rfl rfl ?_
      refine Ow_q rfl rfl rfl (Qt_pick_f rfl rfl) ?_
      refine Ow_q rfl rfl rfl (Qt_move rfl) ?_
      refine Ow_pass rfl rfl rfl rfl rfl rfl rfl ?_
      refine Ow_pass rfl rfl rfl rfl rfl rfl rfl ?_
      refine Ow_pass rfl rfl rfl rfl rfl rfl rfl ?_
      refine Ow_pass rfl rfl rfl rfl rfl rfl rfl ?_
      refine Ow_q rfl rfl rfl (Qt_pick_f rfl rfl) ?_
      refine Ow_q rfl rfl rfl (Qt_assign rfl) ?_
      refine Ow_nil ?_
      refine Cw_seq ?_
      refine Cw_region_any [.blk b2 26 [(.int .i64 b.thread), (.int .i64 b.access.kind), (.int .i64 b.access.address), (.int .u64 b.access.old), (.int .u64 b.access.new), (.int .i64 b.access.until_), (.int .u64 b.value), (.bool b.ok)], .blk b1 26 [(.int .i64 a.thread), (.int .i64 a.access.kind), (.int .i64 a.access.address), (.int .u64 a.access.old), (.int .u64 a.access.new), (.int .i64 a.access.until_), (.int .u64 a.value), (.bool a.ok)]] rfl (Inc.cons (.head _) (Inc.cons (.tail _ (.head _)) Inc.nil)) ?_
      refine Aw_q 0 rfl (by kernel_rfl) (by kernel_rfl) (by kernel_rfl) rfl rfl rfl (Qt_move rfl) ?_
      refine Aw_q 1 rfl (by kernel_rfl) (by kernel_rfl) (by kernel_rfl) rfl rfl rfl (Qt_move rfl) ?_
      refine Aw_pass 2 rfl (by kernel_rfl) (by kernel_rfl) (by kernel_rfl) rfl rfl rfl rfl rfl rfl rfl ?_
      refine Aw_pass 3 rfl (by kernel_rfl) (by kernel_rfl) (by kernel_rfl) rfl rfl rfl rfl rfl rfl rfl ?_
      refine Aw_pass 4 rfl (by kernel_rfl) (by kernel_rfl) (by kernel_rfl) rfl rfl rfl rfl rfl rfl rfl ?_
      refine Aw_pass 5 rfl (by kernel_rfl) (by kernel_rfl) (by kernel_rfl) rfl rfl rfl rfl rfl rfl rfl ?_
      refine Aw_pass 6 rfl (by kernel_rfl) (by kernel_rfl) (by kernel_rfl) rfl rfl rfl rfl rfl rfl rfl ?_
      refine Aw_q 7 rfl (by kernel_rfl) (by kernel_rfl) (by kernel_rfl) rfl rfl rfl (Qt_pick_f rfl rfl) ?_
      refine Aw_q 8 rfl (by kernel_rfl) (by kernel_rfl) (by kernel_rfl) rfl rfl rfl (Qt_move rfl) ?_
      refine Aw_pass 9 rfl (by kernel_rfl) (by kernel_rfl) (by kernel_rfl) rfl rfl rfl rfl rfl rfl rfl ?_
      refine Aw_pass 10 rfl (by kernel_rfl) (by kernel_rfl) (by kernel_rfl) rfl rfl rfl rfl rfl rfl rfl ?_
      refine Aw_pass 11 rfl (by kernel_rfl) (by kernel_rfl) (by kernel_rfl) rfl rfl rfl rfl rfl rfl rfl ?_
      refine Aw_pass 12 rfl (by kernel_rfl) (by kernel_rfl) (by kernel_rfl) rfl rfl rfl rfl rfl rfl rfl ?_
      refine Aw_pass 13 rfl (by kernel_rfl) (by kernel_rfl) (by kernel_rfl) rfl rfl rfl rfl rfl rfl rfl ?_
      refine Aw_q 14 rfl (by kernel_rfl) (by kernel_rfl) (by kernel_rfl) rfl rfl rfl (Qt_pick_f rfl rfl) ?_
      refine Aw_q 15 rfl (by kernel_rfl) (by kernel_rfl) (by kernel_rfl) rfl rfl rfl (Qt_move rfl) ?_
      refine Aw_pass 16 rfl (by kernel_rfl) (by kernel_rfl) (by kernel_rfl) rfl rfl rfl rfl rfl rfl rfl ?_
      refine Aw_pass 17 rfl (by kernel_rfl) (by kernel_rfl) (by kernel_rfl) rfl rfl rfl rfl rfl rfl rfl ?_
      refine Aw_pass 18 rfl (by kernel_rfl) (by kernel_rfl) (by kernel_rfl) rfl rfl rfl rfl rfl rfl rfl ?_
      refine Aw_passU 19 rfl (by kernel_rfl) (by kernel_rfl) (by kernel_rfl) rfl rfl rfl rfl rfl ?_
      refine Aw_passU 20 rfl (by kernel_rfl) (by kernel_rfl) (by kernel_rfl) rfl rfl rfl rfl rfl ?_
      refine Aw_pass 21 rfl (by kernel_rfl) (by kernel_rfl) (by kernel_rfl) rfl rfl rfl rfl rfl rfl rfl ?_
      refine Aw_q 22 rfl (by kernel_rfl) (by kernel_rfl) (by kernel_rfl) rfl rfl rfl (Qt_pick_f rfl rfl) ?_
      refine Aw_q 23 rfl (by kernel_rfl) (by kernel_rfl) (by kernel_rfl) rfl rfl rfl (Qt_assign rfl) ?_
      refine Aw_done (by kernel_rfl) ?_
      refine Cw_ret ?_
      refine ⟨(by first | exact .inl rfl | exact .inr rfl), [(.bool false)], G, ⟨(.bool false), _, rfl, rfl, rfl⟩, .cons _ (.cons _ (.refl _)), ?_⟩
      exact ⟨by first | (simp [mkRes, dcd_eq, conflict, plain, conflict, *]; done) | (simp_all [mkRes, dcd_eq, conflict, plain, conflict]; done), rfl, rfl⟩
  · intro h3
    have h3 := dcd_f (h3)
    refine Ow_pass rfl rfl rfl rfl rfl rfl rfl ?_
    refine Ow_pass rfl rfl rfl rfl rfl rfl rfl ?_
    refine Ow_pass rfl rfl rfl rfl rfl rfl rfl ?_
    refine Ow_pass rfl rfl rfl rfl rfl rfl rfl ?_
    refine Ow_q rfl rfl rfl (Qt_pick_f rfl rfl) ?_
    refine Ow_q rfl rfl rfl (Qt_move rfl) ?_
    refine Ow_pass rfl rfl rfl rfl rfl rfl rfl ?_
    refine Ow_pass rfl rfl rfl rfl rfl rfl rfl ?_
    refine Ow_pass rfl rfl rfl rfl rfl rfl rfl ?_
    refine Ow_pass rfl rfl rfl rfl rfl rfl rfl ?_
    refine Ow_q rfl rfl rfl (Qt_pick_f rfl rfl) ?_
    refine Ow_q rfl rfl rfl (Qt_move rfl) ?_
    refine Ow_pass rfl rfl rfl rfl rfl rfl rfl ?_
    refine Ow_pass rfl rfl rfl rfl rfl rfl rfl ?_
    refine Ow_pass rfl rfl rfl rfl rfl rfl rfl ?_
    refine Ow_pass rfl rfl rfl rfl rfl rfl rfl ?_
    refine Ow_q rfl rfl rfl (Qt_pick_f rfl rfl) ?_
    refine Ow_q rfl rfl rfl (Qt_assign rfl) ?_
    refine Ow_nil ?_
    refine Cw_seq ?_
    refine Cw_region_any [.blk b2 26 [(.int .i64 b.thread), (.int .i64 b.access.kind), (.int .i64 b.access.address), (.int .u64 b.access.old), (.int .u64 b.access.new), (.int .i64 b.access.until_), (.int .u64 b.value), (.bool b.ok)], .blk b1 26 [(.int .i64 a.thread), (.int .i64 a.access.kind), (.int .i64 a.access.address), (.int .u64 a.access.old), (.int .u64 a.access.new), (.int .i64 a.access.until_), (.int .u64 a.value), (.bool a.ok)]] rfl (Inc.cons (.head _) (Inc.cons (.tail _ (.head _)) Inc.nil)) ?_
    refine Aw_q 0 rfl (by kernel_rfl) (by kernel_rfl) (by kernel_rfl) rfl rfl rfl (Qt_move rfl) ?_
    refine Aw_q 1 rfl (by kernel_rfl) (by kernel_rfl) (by kernel_rfl) rfl rfl rfl (Qt_move rfl) ?_
    refine Aw_pass 2 rfl (by kernel_rfl) (by kernel_rfl) (by kernel_rfl) rfl rfl rfl rfl rfl rfl rfl ?_
    refine Aw_pass 3 rfl (by kernel_rfl) (by kernel_rfl) (by kernel_rfl) rfl rfl rfl rfl rfl rfl rfl ?_
    refine Aw_pass 4 rfl (by kernel_rfl) (by kernel_rfl) (by kernel_rfl) rfl rfl rfl rfl rfl rfl rfl ?_
    refine Aw_pass 5 rfl (by kernel_rfl) (by kernel_rfl) (by kernel_rfl) rfl rfl rfl rfl rfl rfl rfl ?_
    refine Aw_pass 6 rfl (by kernel_rfl) (by kernel_rfl) (by kernel_rfl) rfl rfl rfl rfl rfl rfl rfl ?_
    refine Aw_q 7 rfl (by kernel_rfl) (by kernel_rfl) (by kernel_rfl) rfl rfl rfl (Qt_pick_f rfl rfl) ?_
    refine Aw_q 8 rfl (by kernel_rfl) (by kernel_rfl) (by kernel_rfl) rfl rfl rfl (Qt_move rfl) ?_
    refine Aw_pass 9 rfl (by kernel_rfl) (by kernel_rfl) (by kernel_rfl) rfl rfl rfl rfl rfl rfl rfl ?_
    refine Aw_pass 10 rfl (by kernel_rfl) (by kernel_rfl) (by kernel_rfl) rfl rfl rfl rfl rfl rfl rfl ?_
    refine Aw_pass 11 rfl (by kernel_rfl) (by kernel_rfl) (by kernel_rfl) rfl rfl rfl rfl rfl rfl rfl ?_
    refine Aw_pass 12 rfl (by kernel_rfl) (by kernel_rfl) (by kernel_rfl) rfl rfl rfl rfl rfl rfl rfl ?_
    refine Aw_pass 13 rfl (by kernel_rfl) (by kernel_rfl) (by kernel_rfl) rfl rfl rfl rfl rfl rfl rfl ?_
    refine Aw_q 14 rfl (by kernel_rfl) (by kernel_rfl) (by kernel_rfl) rfl rfl rfl (Qt_pick_f rfl rfl) ?_
    refine Aw_q 15 rfl (by kernel_rfl) (by kernel_rfl) (by kernel_rfl) rfl rfl rfl (Qt_move rfl) ?_
    refine Aw_pass 16 rfl (by kernel_rfl) (by kernel_rfl) (by kernel_rfl) rfl rfl rfl rfl rfl rfl rfl ?_
    refine Aw_pass 17 rfl (by kernel_rfl) (by kernel_rfl) (by kernel_rfl) rfl rfl rfl rfl rfl rfl rfl ?_
    refine Aw_pass 18 rfl (by kernel_rfl) (by kernel_rfl) (by kernel_rfl) rfl rfl rfl rfl rfl rfl rfl ?_
    refine Aw_passU 19 rfl (by kernel_rfl) (by kernel_rfl) (by kernel_rfl) rfl rfl rfl rfl rfl ?_
    refine Aw_passU 20 rfl (by kernel_rfl) (by kernel_rfl) (by kernel_rfl) rfl rfl rfl rfl rfl ?_
    refine Aw_pass 21 rfl (by kernel_rfl) (by kernel_rfl) (by kernel_rfl) rfl rfl rfl rfl rfl rfl rfl ?_
    refine Aw_q 22 rfl (by kernel_rfl) (by kernel_rfl) (by kernel_rfl) rfl rfl rfl (Qt_pick_f rfl rfl) ?_
    refine Aw_q 23 rfl (by kernel_rfl) (by kernel_rfl) (by kernel_rfl) rfl rfl rfl (Qt_assign rfl) ?_
    refine Aw_done (by kernel_rfl) ?_
    refine Cw_ret ?_
    refine ⟨(by first | exact .inl rfl | exact .inr rfl), [(.bool false)], G, ⟨(.bool false), _, rfl, rfl, rfl⟩, .cons _ (.cons _ (.refl _)), ?_⟩
    exact ⟨by first | (simp [mkRes, dcd_eq, conflict, plain, conflict, *]; done) | (simp_all [mkRes, dcd_eq, conflict, plain, conflict]; done), rfl, rfl⟩

theorem c_left (b : Nat) (A : Option Addr) (cp : Nat) (c : Cd) (K : Kp) (G : List Ent) (hcd : Sl K (.slice A c.list.length cp) 1 (c.list.map u8c)) :
    Fc Try.prog 50 #[(.pointer (some ((⟨b, 0, none⟩ : Addr).add 0)))] K (.blk b 70 (c.cells A cp) :: G) (fun v K' G' => v = .bool (dcd (((c.at_ : Nat) : Int) < ((c.list.length : Nat) : Int))) ∧ K' = K ∧ G' = .blk b 70 (c.cells A cp) :: G) := by
  refine Fc_of Try.func50 rfl Try.ntmps50 Try.results50 rfl ?_
  have hcl := Sl.le hcd
  refine Cw_seq ?_
  refine Cw_region ?_
  refine Ow_q rfl rfl rfl (Qt_assign rfl) ?_
  refine Ow_nil ?_
  refine Cw_seq ?_
  refine Cw_region_any [.blk b 70 [(.slice A c.list.length cp), (.int .i64 ((c.at_ : Nat) : Int)), (.int .u64 c.value)]] rfl (Inc.cons (.head _) Inc.nil) ?_
  refine Aw_q 0 rfl (by kernel_rfl) (by kernel_rfl) (by kernel_rfl) rfl rfl rfl (Qt_move rfl) ?_
  refine Aw_q 1 rfl (by kernel_rfl) (by kernel_rfl) (by kernel_rfl) rfl rfl rfl (Qt_nilCheck rfl) ?_
  refine Aw_q 2 rfl (by kernel_rfl) (by kernel_rfl) (by kernel_rfl) rfl rfl rfl (Qt_fieldAddr (m := 1) rfl rfl rfl rfl rfl) ?_
  refine Aw_q 3 rfl (by kernel_rfl) (by kernel_rfl) (by kernel_rfl) rfl rfl rfl (Qt_load1 (v := (.int .i64 ((c.at_ : Nat) : Int))) rfl rfl rfl (Rdc.blk (.head _) rfl)) ?_
  refine Aw_q 4 rfl (by kernel_rfl) (by kernel_rfl) (by kernel_rfl) rfl rfl rfl (Qt_move rfl) ?_
  refine Aw_q 5 rfl (by kernel_rfl) (by kernel_rfl) (by kernel_rfl) rfl rfl rfl (Qt_nilCheck rfl) ?_
  refine Aw_q 6 rfl (by kernel_rfl) (by kernel_rfl) (by kernel_rfl) rfl rfl rfl (Qt_fieldAddr (m := 0) rfl rfl rfl rfl rfl) ?_
  refine Aw_q 7 rfl (by kernel_rfl) (by kernel_rfl) (by kernel_rfl) rfl rfl rfl (Qt_load1 (v := (.slice A c.list.length cp)) rfl rfl rfl (Rdc.blk (.head _) rfl)) ?_
  refine Aw_q 8 rfl (by kernel_rfl) (by kernel_rfl) (by kernel_rfl) rfl rfl rfl (Qt_len rfl rfl) ?_
  refine Aw_q 9 rfl (by kernel_rfl) (by kernel_rfl) (by kernel_rfl) rfl rfl rfl (Qt_cmp rfl rfl rfl) ?_
  refine Aw_q 10 rfl (by kernel_rfl) (by kernel_rfl) (by kernel_rfl) rfl rfl rfl (Qt_assign rfl) ?_
  refine Aw_done (by kernel_rfl) ?_
  refine Cw_ret ?_
  refine ⟨(by first | exact .inl rfl | exact .inr rfl), [(.bool (dcd (((c.at_ : Nat) : Int) < ((c.list.length : Nat) : Int))))], .blk b 70 [(.slice A c.list.length cp), (.int .i64 ((c.at_ : Nat) : Int)), (.int .u64 c.value)] :: G, ⟨(.bool (dcd (((c.at_ : Nat) : Int) < ((c.list.length : Nat) : Int)))), _, rfl, rfl, rfl⟩, .cons_cons _ (.refl _), ?_⟩
  exact ⟨rfl, rfl, rfl⟩

theorem c_next (b : Nat) (A : Option Addr) (cp : Nat) (c : Cd) (n : Nat) (hn : 0 < n) (K : Kp) (G : List Ent) (hcd : Sl K (.slice A c.list.length cp) 1 (c.list.map u8c)) :
    Fc Try.prog 40 #[(.pointer (some ((⟨b, 0, none⟩ : Addr).add 0))), (.int .i64 ((n : Nat) : Int))] K (.blk b 70 (c.cells A cp) :: G) (fun v K' G' => v = .int .i64 (((c.next n).1 : Nat) : Int) ∧ K' = K ∧ G' = .blk b 70 ((c.next n).2.cells A cp) :: G) := by
  refine Fc_of Try.func40 rfl Try.ntmps40 Try.results40 rfl ?_
  have hcl := Sl.le hcd
  refine Cw_seq ?_
  refine Cw_region ?_
  refine Ow_q rfl rfl rfl (Qt_assign rfl) ?_
  refine Ow_nil ?_
  refine Cw_seq ?_
  refine Cw_seq ?_
  refine Cw_region ?_
  refine Ow_q rfl rfl rfl (Qt_move rfl) ?_
  refine Ow_cons rfl (OpW_callG (v0 := (.bool (dcd (((c.at_ : Nat) : Int) < ((c.list.length : Nat) : Int))))) rfl Try.call50 rfl rfl (Fc.at .here (fun G1 => c_left b A cp c  _ G1 hcd)) ?_)
  refine Ow_q rfl rfl rfl (Qt_not rfl) ?_
  refine Ow_nil ?_
  refine Cw_cond rfl ?_ ?_
  · intro h1
    have h1 := dcd_f (nt_t (h1))
    refine Cw_seq ?_
    refine Cw_region ?_
    refine Ow_q rfl rfl rfl (Qt_assign rfl) ?_
    refine Ow_nil ?_
    refine Cw_ret ?_
    refine ⟨(by first | exact .inl rfl | exact .inr rfl), [(.int .i64 0)], .blk b 70 [(.slice A c.list.length cp), (.int .i64 ((c.at_ : Nat) : Int)), (.int .u64 c.value)] :: G, ⟨(.int .i64 0), _, rfl, rfl, rfl⟩, .cons_cons _ (.refl _), ?_⟩
    by_cases hq : c.at_ < c.list.length
    · first | (exfalso; omega) | (simp_all [mkRes, Cd.next, Cd.cells]; done)
    · first | (exfalso; omega) | (simp [mkRes, Cd.next, Cd.cells, hq]; done)
  · intro h1
    have h1 := dcd_t (nt_f (h1))
    refine Cw_skip ?_
    refine Cw_seq ?_
    refine Cw_region ?_
    refine Ow_q rfl rfl rfl (Qt_move rfl) ?_
    refine Ow_q rfl rfl rfl (Qt_nilCheck rfl) ?_
    refine Ow_q rfl rfl rfl (Qt_fieldAddr (m := 1) rfl rfl rfl rfl rfl) ?_
    refine Ow_q rfl rfl rfl (Qt_load1 (v := (.int .i64 ((c.at_ : Nat) : Int))) rfl rfl rfl (Rdc.blk (.head _) rfl)) ?_
    refine Ow_q rfl rfl rfl (Qt_arith (e := (((c.at_ : Nat) : Int) + 1)) rfl rfl rfl (wrap_eq (by omega) (by omega))) ?_
    refine Ow_q rfl rfl rfl (Qt_nilCheck rfl) ?_
    refine Ow_q rfl rfl rfl (Qt_fieldAddr (m := 1) rfl rfl rfl rfl rfl) ?_
    refine Ow_cons rfl (OpW_store (vs := [(.int .i64 (((c.at_ : Nat) : Int) + 1))]) (all' := [(.slice A c.list.length cp), (.int .i64 (((c.at_ : Nat) : Int) + 1)), (.int .u64 c.value)]) rfl rfl rfl rfl rfl .here rfl rfl rfl ?_)
    refine Ow_nil ?_
    refine Cw_seq ?_
    refine Cw_region_any [.blk b 70 [(.slice A c.list.length cp), (.int .i64 (((c.at_ : Nat) : Int) + 1)), (.int .u64 c.value)]] rfl (Inc.cons (.head _) Inc.nil) ?_
    refine Aw_q 0 rfl (by kernel_rfl) (by kernel_rfl) (by kernel_rfl) rfl rfl rfl (Qt_move rfl) ?_
    refine Aw_q 1 rfl (by kernel_rfl) (by kernel_rfl) (by kernel_rfl) rfl rfl rfl (Qt_nilCheck rfl) ?_
    refine Aw_q 2 rfl (by kernel_rfl) (by kernel_rfl) (by kernel_rfl) rfl rfl rfl (Qt_fieldAddr (m := 0) rfl rfl rfl rfl rfl) ?_
    refine Aw_q 3 rfl (by kernel_rfl) (by kernel_rfl) (by kernel_rfl) rfl rfl rfl (Qt_load1 (v := (.slice A c.list.length cp)) rfl rfl rfl (Rdc.blk (.head _) rfl)) ?_
    refine Aw_q 4 rfl (by kernel_rfl) (by kernel_rfl) (by kernel_rfl) rfl rfl rfl (Qt_move rfl) ?_
    refine Aw_q 5 rfl (by kernel_rfl) (by kernel_rfl) (by kernel_rfl) rfl rfl rfl (Qt_nilCheck rfl) ?_
    refine Aw_q 6 rfl (by kernel_rfl) (by kernel_rfl) (by kernel_rfl) rfl rfl rfl (Qt_fieldAddr (m := 1) rfl rfl rfl rfl rfl) ?_
    refine Aw_q 7 rfl (by kernel_rfl) (by kernel_rfl) (by kernel_rfl) rfl rfl rfl (Qt_load1 (v := (.int .i64 (((c.at_ : Nat) : Int) + 1))) rfl rfl rfl (Rdc.blk (.head _) rfl)) ?_
    refine Aw_q 8 rfl (by kernel_rfl) (by kernel_rfl) (by kernel_rfl) rfl rfl rfl (Qt_arith (e := ((c.at_ : Nat) : Int)) rfl rfl rfl (wrap_eq (by omega) (by omega))) ?_
    obtain ⟨x2, hx3⟩ : ∃ x, c.list[c.at_]? = some x := ⟨_, List.getElem?_eq_getElem (by first | omega | (simp only [List.length_append, List.length_cons, List.length_nil, List.length_replicate, List.length_set]; omega) | (simp; omega))⟩
    have hu4 := u8lt x2
    refine Aw_q 9 rfl (by kernel_rfl) (by kernel_rfl) (by kernel_rfl) rfl rfl rfl (Qt_ixK (q := c.at_) rfl rfl rfl rfl rfl hcd rfl (map_get hx3)) ?_
    refine Aw_q 10 rfl (by kernel_rfl) (by kernel_rfl) (by kernel_rfl) rfl rfl rfl (Qt_load1 (v := (.int .u8 ((x2.toNat : Nat) : Int))) rfl rfl rfl (Rdc.k (Sl.at hcd (map_get hx3)) rfl)) ?_
    refine Aw_q 11 rfl (by kernel_rfl) (by kernel_rfl) (by kernel_rfl) rfl rfl rfl (Qt_conv (c := ((x2.toNat : Nat) : Int)) rfl rfl rfl (IntWalk.i64_in _ (by omega))) ?_
    refine Aw_q 12 rfl (by kernel_rfl) (by kernel_rfl) (by kernel_rfl) rfl rfl rfl (Qt_move rfl) ?_
    refine Aw_q 13 rfl (by kernel_rfl) (by kernel_rfl) (by kernel_rfl) rfl rfl rfl (Qt_remN (q := n) rfl rfl (by omega)) ?_
    refine Aw_q 14 rfl (by kernel_rfl) (by kernel_rfl) (by kernel_rfl) rfl rfl rfl (Qt_assign rfl) ?_
    refine Aw_done (by kernel_rfl) ?_
    refine Cw_ret ?_
    refine ⟨(by first | exact .inl rfl | exact .inr rfl), [(.int .i64 (((x2.toNat % n) : Nat) : Int))], .blk b 70 [(.slice A c.list.length cp), (.int .i64 (((c.at_ : Nat) : Int) + 1)), (.int .u64 c.value)] :: G, ⟨(.int .i64 (((x2.toNat % n) : Nat) : Int)), _, rfl, rfl, rfl⟩, .cons_cons _ (.refl _), ?_⟩
    by_cases hq : c.at_ < c.list.length
    · first | (exfalso; omega) | (simp_all [mkRes, Cd.next, Cd.cells]; done)
    · first | (exfalso; omega) | (simp [mkRes, Cd.next, Cd.cells, hq]; done)

theorem c_new (A : Option Addr) (cp : Nat) (l : List UInt8) (m : Nat) (K : Kp) (G : List Ent) (hl : Sl K (.slice A l.length cp) 1 (l.map u8c)) :
    Fc Try.prog 14 #[(.slice A l.length cp), (.int .i64 ((m : Nat) : Int))] K G (fun v K' G' => ∃ b, v = .pointer (some ((⟨b, 0, none⟩ : Addr).add 0)) ∧ K = K' ∧ G' = .blk b 70 (Cd.cells A cp ⟨l.take m, 0, 0⟩) :: G) := by
  refine Fc_of Try.func14 rfl Try.ntmps14 Try.results14 rfl ?_
  have hll := Sl.le hl
  have hlc := (Sl.len hl).2.2
  refine Cw_seq ?_
  refine Cw_region ?_
  refine Ow_q rfl rfl rfl (Qt_assign rfl) ?_
  refine Ow_nil ?_
  refine Cw_seq ?_
  refine Cw_seq ?_
  refine Cw_region ?_
  refine Ow_q rfl rfl rfl (Qt_move rfl) ?_
  refine Ow_q rfl rfl rfl (Qt_len rfl rfl) ?_
  refine Ow_q rfl rfl rfl (Qt_move rfl) ?_
  refine Ow_q rfl rfl rfl (Qt_cmp rfl rfl rfl) ?_
  refine Ow_nil ?_
  refine Cw_cond rfl ?_ ?_
  · intro h1
    have h1 := dcd_t (h1)
    refine Cw_region ?_
    refine Ow_q rfl rfl rfl (Qt_move rfl) ?_
    refine Ow_q rfl rfl rfl (Qt_move rfl) ?_
    have hs2 := Sl.take (q := m) hl (by first | omega | (simp only [List.length_append, List.length_cons, List.length_nil, List.length_replicate, List.length_set]; omega) | (simp; omega))
    refine Ow_q rfl rfl rfl (Qt_slice_h (q := m) rfl rfl rfl rfl rfl (by omega) (by first | omega | (simp only [List.length_append, List.length_cons, List.length_nil, List.length_replicate, List.length_set]; omega) | (simp; omega))) ?_
    refine Ow_q rfl rfl rfl (Qt_assign rfl) ?_
    refine Ow_nil ?_
    refine Cw_seq ?_
    refine Cw_region ?_
    refine Ow_q rfl rfl rfl (Qt_move rfl) ?_
    refine Ow_q rfl rfl rfl (Qt_build (cs := [(.slice A m cp), (.int .i64 0), (.int .u64 0)]) rfl rfl rfl rfl rfl rfl) ?_
    refine Ow_cons rfl (OpW_box (cs := [(.slice A m cp), (.int .i64 0), (.int .u64 0)]) rfl rfl rfl (fun b3 => ?_))
    refine Ow_q rfl rfl rfl (Qt_assign rfl) ?_
    refine Ow_nil ?_
    refine Cw_ret ?_
    refine ⟨(by first | exact .inl rfl | exact .inr rfl), [(.pointer (some ((⟨b3, 0, none⟩ : Addr).add 0)))], .blk b3 70 [(.slice A m cp), (.int .i64 0), (.int .u64 0)] :: G, ⟨(.pointer (some ((⟨b3, 0, none⟩ : Addr).add 0))), _, rfl, rfl, rfl⟩, .cons_cons _ (.refl _), ?_⟩
    exact ⟨b3, rfl, rfl, by first | rfl | (rw [List.take_of_length_le (by omega)]; rfl) | (simp only [Cd.cells, List.length_take]; rw [Nat.min_eq_left (by omega)]; rfl)⟩
  · intro h1
    have h1 := dcd_f (h1)
    refine Cw_skip ?_
    refine Cw_seq ?_
    refine Cw_region ?_
    refine Ow_q rfl rfl rfl (Qt_move rfl) ?_
    refine Ow_q rfl rfl rfl (Qt_build (cs := [(.slice A l.length cp), (.int .i64 0), (.int .u64 0)]) rfl rfl rfl rfl rfl rfl) ?_
    refine Ow_cons rfl (OpW_box (cs := [(.slice A l.length cp), (.int .i64 0), (.int .u64 0)]) rfl rfl rfl (fun b4 => ?_))
    refine Ow_q rfl rfl rfl (Qt_assign rfl) ?_
    refine Ow_nil ?_
    refine Cw_ret ?_
    refine ⟨(by first | exact .inl rfl | exact .inr rfl), [(.pointer (some ((⟨b4, 0, none⟩ : Addr).add 0)))], .blk b4 70 [(.slice A l.length cp), (.int .i64 0), (.int .u64 0)] :: G, ⟨(.pointer (some ((⟨b4, 0, none⟩ : Addr).add 0))), _, rfl, rfl, rfl⟩, .cons_cons _ (.refl _), ?_⟩
    exact ⟨b4, rfl, rfl, by first | rfl | (rw [List.take_of_length_le (by omega)]; rfl) | (simp only [Cd.cells, List.length_take]; rw [Nat.min_eq_left (by omega)]; rfl)⟩

theorem c_mod (x n : Int) (hn : 0 < n ∧ n ≤ 9223372036854775807) (K : Kp) (G : List Ent) (_hx : True) :
    Fc Try.prog 23 #[(.int .i64 x), (.int .i64 n)] K G (fun v K' G' => v = .int .i64 (x % n) ∧ K' = K ∧ G' = G) := by
  refine Fc_of Try.func23 rfl Try.ntmps23 Try.results23 rfl ?_
  have ht : Int.tmod x n = if 0 ≤ x then x % n else -((-x) % n) := tmod_eq_if x n
  have hneg := Int.emod_nonneg (-x) (show n ≠ 0 by omega)
  have hneg2 := Int.emod_lt_of_pos (-x) (show 0 < n by omega)
  have hpos := Int.emod_nonneg x (show n ≠ 0 by omega)
  have hem := neg_emod_lemma x n (by omega)
  have hr : -n < Int.tmod x n ∧ Int.tmod x n < n := tmod_range x n (by omega)
  refine Cw_seq ?_
  refine Cw_region ?_
  refine Ow_q rfl rfl rfl (Qt_assign rfl) ?_
  refine Ow_nil ?_
  refine Cw_seq ?_
  refine Cw_region ?_
  refine Ow_q rfl rfl rfl (Qt_move rfl) ?_
  refine Ow_q rfl rfl rfl (Qt_move rfl) ?_
  refine Ow_q rfl rfl rfl (Qt_rem rfl rfl (by omega)) ?_
  refine Ow_q rfl rfl rfl (Qt_assign rfl) ?_
  refine Ow_nil ?_
  refine Cw_seq ?_
  refine Cw_seq ?_
  refine Cw_region ?_
  refine Ow_q rfl rfl rfl (Qt_move rfl) ?_
  refine Ow_q rfl rfl rfl (Qt_cmp rfl rfl rfl) ?_
  refine Ow_nil ?_
  refine Cw_cond rfl ?_ ?_
  · intro h1
    have h1 := dcd_t (h1)
    refine Cw_region ?_
    refine Ow_q rfl rfl rfl (Qt_move rfl) ?_
    refine Ow_q rfl rfl rfl (Qt_move rfl) ?_
    refine Ow_q rfl rfl rfl (Qt_arith (e := (Int.tmod x n) + n) rfl rfl rfl (IntWalk.i64_in _ (by omega))) ?_
    refine Ow_q rfl rfl rfl (Qt_assign rfl) ?_
    refine Ow_nil ?_
    refine Cw_seq ?_
    refine Cw_region ?_
    refine Ow_q rfl rfl rfl (Qt_move rfl) ?_
    refine Ow_q rfl rfl rfl (Qt_assign rfl) ?_
    refine Ow_nil ?_
    refine Cw_ret ?_
    refine ⟨(by first | exact .inl rfl | exact .inr rfl), [(.int .i64 ((Int.tmod x n) + n))], G, ⟨(.int .i64 ((Int.tmod x n) + n)), _, rfl, rfl, rfl⟩, .refl _, ?_⟩
    exact ⟨by simp only [mkRes]; congr 1; rw [ht]; split <;> omega, rfl, rfl⟩
  · intro h1
    have h1 := dcd_f (h1)
    refine Cw_skip ?_
    refine Cw_seq ?_
    refine Cw_region ?_
    refine Ow_q rfl rfl rfl (Qt_move rfl) ?_
    refine Ow_q rfl rfl rfl (Qt_assign rfl) ?_
    refine Ow_nil ?_
    refine Cw_ret ?_
    refine ⟨(by first | exact .inl rfl | exact .inr rfl), [(.int .i64 (Int.tmod x n))], G, ⟨(.int .i64 (Int.tmod x n)), _, rfl, rfl, rfl⟩, .refl _, ?_⟩
    exact ⟨by simp only [mkRes]; congr 1; rw [ht]; split <;> omega, rfl, rfl⟩

theorem c_of (A : Option Addr) (cp : Nat) (l : List Item) (th : Int) (K : Kp) (G : List Ent) (hl : Sl K (.slice A l.length cp) 8 (l.map Item.cells)) (hsm : l.length ≤ 1000000000000) :
    Fc Try.prog 18 #[(.slice A l.length cp), (.int .i64 th)] K G (fun v K' G' => ∃ A' cp', v = .slice A' (l.filter fun i => decide (i.thread = th)).length cp' ∧ K = K' ∧ G' = .row (.slice A' (l.filter fun i => decide (i.thread = th)).length cp') 26 8 (((l.filter fun i => decide (i.thread = th)).map Item.cells).flatten) :: G) := by
  refine Fc_of Try.func18 rfl Try.ntmps18 Try.results18 rfl ?_
  have hll := Sl.le hl
  have hlc := (Sl.len hl).2.2
  refine Cw_seq ?_
  refine Cw_region ?_
  refine Ow_q rfl rfl rfl (Qt_assign rfl) ?_
  refine Ow_nil ?_
  refine Cw_seq ?_
  refine Cw_region ?_
  refine Ow_q rfl rfl rfl (Qt_assign rfl) ?_
  refine Ow_nil ?_
  refine Cw_seq ?_
  refine Cw_seq ?_
  refine Cw_region ?_
  refine Ow_q rfl rfl rfl (Qt_move rfl) ?_
  refine Ow_q rfl rfl rfl (Qt_len rfl rfl) ?_
  refine Ow_q rfl rfl rfl (Qt_move rfl) ?_
  refine Ow_nil ?_
  refine Cw_block ?_
  refine Cw.nilRow 26 8 ?_
  refine Cw_loop (S := Nat) (fun s env' K' G' => ∃ (k : Nat) (A1 : Option Addr) (cp1 : Nat) (L : List Item), l.length - k = s ∧ [(1, (.int .i64 th)), (8, (.slice A l.length cp)), (9, (.int .i64 ((l.length : Nat) : Int))), (10, (.int .i64 ((k : Nat) : Int))), (5, (.slice A1 L.length cp1))] = env' ∧ K = K' ∧ .row (.slice A1 L.length cp1) 26 8 (((L).map Item.cells).flatten) :: G = G' ∧ k ≤ l.length ∧ L.length ≤ k ∧ L = (l.take k).filter fun i => decide (i.thread = th)) (fun s => s) (l.length - 0) [(1, (.int .i64 th)), (8, (.slice A l.length cp)), (9, (.int .i64 ((l.length : Nat) : Int))), (10, (.int .i64 ((0 : Nat) : Int))), (5, (.slice none 0 0))] (.row (.slice none 0 0) 26 8 (((([] : List Item)).map Item.cells).flatten) :: G)
    ⟨0, none, 0, ([] : List Item), rfl, rfl, rfl, rfl, (Nat.zero_le _), (Nat.le_refl _), rfl⟩ ⟨rfl, rfl, rfl, rfl, rfl, trivial⟩ (.cons_cons _ (.refl _)) ?_
  rintro s _ _ _ - ⟨k, A1, cp1, L, rfl, rfl, rfl, rfl, hk, hLk, hL⟩
  refine Cw_seq ?_
  refine Cw_region ?_
  refine Ow_q rfl rfl rfl (Qt_cmp rfl rfl rfl) ?_
  refine Ow_nil ?_
  refine Cw_seq ?_
  refine Cw_cond rfl ?_ ?_
  · intro h1
    have h1 := dcd_t (h1)
    refine Cw_skip ?_
    refine Cw_seq ?_
    refine Cw_block ?_
    refine Cw_seq ?_
    refine Cw_region ?_
    obtain ⟨x2, hx3⟩ : ∃ x, l[k]? = some x := ⟨_, List.getElem?_eq_getElem (by first | omega | (simp only [List.length_append, List.length_cons, List.length_nil, List.length_replicate, List.length_set]; omega) | (simp; omega))⟩
    refine Ow_q rfl rfl rfl (Qt_ixK (q := k) rfl rfl rfl rfl rfl hl rfl (map_get hx3)) ?_
    refine Ow_q rfl rfl rfl (Qt_loadA (m := 8) (cs := Item.cells x2) rfl rfl rfl rfl ⟨rfl, Rdc.k (Sl.at hl (map_get hx3)) rfl⟩) ?_
    refine Ow_cons rfl (OpW_alloc (cs := [(.int .i64 0), (.int .i64 0), (.int .i64 0), (.int .u64 0), (.int .u64 0), (.int .i64 0), (.int .u64 0), (.bool false)]) rfl rfl rfl rfl (fun b4 => ?_))
    refine Ow_cons rfl (OpW_store (vs := [(.int .i64 x2.thread), (.int .i64 x2.access.kind), (.int .i64 x2.access.address), (.int .u64 x2.access.old), (.int .u64 x2.access.new), (.int .i64 x2.access.until_), (.int .u64 x2.value), (.bool x2.ok)]) (all' := [(.int .i64 x2.thread), (.int .i64 x2.access.kind), (.int .i64 x2.access.address), (.int .u64 x2.access.old), (.int .u64 x2.access.new), (.int .i64 x2.access.until_), (.int .u64 x2.value), (.bool x2.ok)]) rfl rfl rfl rfl rfl .here rfl rfl rfl ?_)
    refine Ow_nil ?_
    refine Cw_seq ?_
    refine Cw_region ?_
    refine Ow_q rfl rfl rfl (Qt_fieldAddr (m := 0) rfl rfl rfl rfl rfl) ?_
    refine Ow_q rfl rfl rfl (Qt_load1 (v := (.int .i64 x2.thread)) rfl rfl rfl (Rdc.blk (.head _) rfl)) ?_
    refine Ow_q rfl rfl rfl (Qt_move rfl) ?_
    refine Ow_q rfl rfl rfl (Qt_cmp rfl rfl rfl) ?_
    refine Ow_nil ?_
    refine Cw_cond rfl ?_ ?_
    · intro h5
      have h5 := dcd_t (h5)
      refine Cw_region ?_
      refine Ow_q rfl rfl rfl (Qt_move rfl) ?_
      refine Ow_q rfl rfl rfl (Qt_loadA (m := 8) (cs := Item.cells x2) rfl rfl rfl rfl ⟨rfl, Rdc.blk (.head _) rfl⟩) ?_
      refine Ow_cons rfl (OpW_buildSliceX (xs := (([x2]).map Item.cells).flatten) rfl rfl rfl rfl rfl rfl rfl rfl rfl rfl rfl (fun a6 => ?_))
      refine Ow_cons rfl (OpW_appendT (bytes := 64) (L := L) (M := [x2]) Enc.item rfl rfl rfl (.tail _ (.tail _ (.head _))) (Src.row (.head _)) rfl rfl rfl rfl rfl rfl rfl rfl rfl (by first | omega | (simp only [List.length_append, List.length_cons, List.length_nil, List.length_replicate, List.length_set]; omega) | (simp; omega)) (by first | omega | (simp only [List.length_append, List.length_cons, List.length_nil, List.length_replicate, List.length_set]; omega) | (simp; omega)) ?_)
      intro A7 cp8 hA9
      obtain ⟨a10, rfl⟩ := hA9 (by simp)
      refine ⟨_, (.there (.there .here)), ?_⟩
      refine Ow_q rfl rfl rfl (Qt_assign rfl) ?_
      refine Ow_nil ?_
      refine Cw_region ?_
      refine Ow_q rfl rfl rfl (Qt_arith (e := (((k : Nat) : Int) + 1)) rfl rfl rfl (wrap_eq (by omega) (by omega))) ?_
      refine Ow_q rfl rfl rfl (Qt_move rfl) ?_
      refine Ow_nil ?_
      refine ⟨_, [(1, (.int .i64 th)), (8, (.slice A l.length cp)), (9, (.int .i64 ((l.length : Nat) : Int))), (10, (.int .i64 (((k + 1) : Nat) : Int))), (5, (.slice (some a10) ((L ++ [x2]).length) cp8))], .row (.slice (some a10) ((L ++ [x2]).length) cp8) 26 8 ((((L ++ [x2])).map Item.cells).flatten) :: G, ⟨rfl, rfl, rfl, rfl, rfl, trivial⟩, (.cons _ (.cons _ (.cons_cons _ (.refl _)))), (by first | omega | (simp only [List.length_append, List.length_cons, List.length_nil]; omega)), (k + 1), (some a10), cp8, (L ++ [x2]), rfl, rfl, rfl, rfl, (by omega), (by first | omega | (simp; omega)), (by rw [filter_take hx3]; simp [*])⟩
    · intro h5
      have h5 := dcd_f (h5)
      refine Cw_skip ?_
      refine Cw_region ?_
      refine Ow_q rfl rfl rfl (Qt_arith (e := (((k : Nat) : Int) + 1)) rfl rfl rfl (wrap_eq (by omega) (by omega))) ?_
      refine Ow_q rfl rfl rfl (Qt_move rfl) ?_
      refine Ow_nil ?_
      refine ⟨_, [(1, (.int .i64 th)), (8, (.slice A l.length cp)), (9, (.int .i64 ((l.length : Nat) : Int))), (10, (.int .i64 (((k + 1) : Nat) : Int))), (5, (.slice A1 L.length cp1))], .row (.slice A1 L.length cp1) 26 8 (((L).map Item.cells).flatten) :: G, ⟨rfl, rfl, rfl, rfl, rfl, trivial⟩, (.cons _ (.cons_cons _ (.refl _))), (by first | omega | (simp only [List.length_append, List.length_cons, List.length_nil]; omega)), (k + 1), A1, cp1, L, rfl, rfl, rfl, rfl, (by omega), (by first | omega | (simp; omega)), (by rw [filter_take hx3]; simp [*])⟩
  · intro h1
    have h1 := dcd_f (h1)
    refine Cw_exit ?_
    refine Cw_seq ?_
    refine Cw_region ?_
    refine Ow_q rfl rfl rfl (Qt_move rfl) ?_
    refine Ow_q rfl rfl rfl (Qt_assign rfl) ?_
    refine Ow_nil ?_
    refine Cw_ret ?_
    refine ⟨(by first | exact .inl rfl | exact .inr rfl), [(.slice A1 L.length cp1)], .row (.slice A1 L.length cp1) 26 8 (((L).map Item.cells).flatten) :: G, ⟨(.slice A1 L.length cp1), _, rfl, rfl, rfl⟩, .cons_cons _ (.refl _), ?_⟩
    obtain rfl : k = l.length := by omega
    rw [List.take_length] at hL
    subst hL
    exact ⟨_, _, rfl, rfl, rfl⟩

theorem c_ofR (A : Option Addr) (cp : Nat) (l : List Item) (th : Int) (K : Kp) (G : List Ent) (hl : Sl K (.slice A l.length cp) 8 (l.map Item.cells)) (hsm : l.length ≤ 1000000000000) :
    Fc Try.prog 20 #[(.slice A l.length cp), (.int .i64 th)] K G (fun v K' G' => ∃ A' cp', v = .slice A' (l.filter fun i => decide (i.thread = th)).length cp' ∧ K = K' ∧ G' = .row (.slice A' (l.filter fun i => decide (i.thread = th)).length cp') 26 8 (((l.filter fun i => decide (i.thread = th)).map Item.cells).flatten) :: G) := by
  refine Fc_of Try.func20 rfl Try.ntmps20 Try.results20 rfl ?_
  have hll := Sl.le hl
  have hlc := (Sl.len hl).2.2
  refine Cw_seq ?_
  refine Cw_region ?_
  refine Ow_q rfl rfl rfl (Qt_assign rfl) ?_
  refine Ow_nil ?_
  refine Cw_seq ?_
  refine Cw_region ?_
  refine Ow_q rfl rfl rfl (Qt_assign rfl) ?_
  refine Ow_nil ?_
  refine Cw_seq ?_
  refine Cw_seq ?_
  refine Cw_region ?_
  refine Ow_q rfl rfl rfl (Qt_assign rfl) ?_
  refine Ow_nil ?_
  refine Cw_block ?_
  refine Cw.nilRow 26 8 ?_
  refine Cw_loop (S := Nat) (fun s env' K' G' => ∃ (k : Nat) (A1 : Option Addr) (cp1 : Nat) (L : List Item), l.length - k = s ∧ [(0, (.slice A l.length cp)), (1, (.int .i64 th)), (6, (.int .i64 ((k : Nat) : Int))), (5, (.slice A1 L.length cp1))] = env' ∧ K = K' ∧ .row (.slice A1 L.length cp1) 26 8 (((L).map Item.cells).flatten) :: G = G' ∧ k ≤ l.length ∧ L.length ≤ k ∧ L = (l.take k).filter fun i => decide (i.thread = th)) (fun s => s) (l.length - 0) [(0, (.slice A l.length cp)), (1, (.int .i64 th)), (6, (.int .i64 ((0 : Nat) : Int))), (5, (.slice none 0 0))] (.row (.slice none 0 0) 26 8 (((([] : List Item)).map Item.cells).flatten) :: G)
    ⟨0, none, 0, ([] : List Item), rfl, rfl, rfl, rfl, (Nat.zero_le _), (Nat.le_refl _), rfl⟩ ⟨rfl, rfl, rfl, rfl, trivial⟩ (.cons_cons _ (.refl _)) ?_
  rintro s _ _ _ - ⟨k, A1, cp1, L, rfl, rfl, rfl, rfl, hk, hLk, hL⟩
  refine Cw_seq ?_
  refine Cw_seq ?_
  refine Cw_region ?_
  refine Ow_q rfl rfl rfl (Qt_move rfl) ?_
  refine Ow_q rfl rfl rfl (Qt_move rfl) ?_
  refine Ow_q rfl rfl rfl (Qt_len rfl rfl) ?_
  refine Ow_q rfl rfl rfl (Qt_cmp rfl rfl rfl) ?_
  refine Ow_nil ?_
  refine Cw_cond rfl ?_ ?_
  · intro h1
    have h1 := dcd_t (h1)
    refine Cw_skip ?_
    refine Cw_seq ?_
    refine Cw_block ?_
    refine Cw_seq ?_
    refine Cw_region ?_
    refine Ow_q rfl rfl rfl (Qt_move rfl) ?_
    refine Ow_q rfl rfl rfl (Qt_move rfl) ?_
    obtain ⟨x2, hx3⟩ : ∃ x, l[k]? = some x := ⟨_, List.getElem?_eq_getElem (by first | omega | (simp only [List.length_append, List.length_cons, List.length_nil, List.length_replicate, List.length_set]; omega) | (simp; omega))⟩
    refine Ow_q rfl rfl rfl (Qt_ixK (q := k) rfl rfl rfl rfl rfl hl rfl (map_get hx3)) ?_
    refine Ow_q rfl rfl rfl (Qt_fieldAddr (m := 0) rfl rfl rfl rfl rfl) ?_
    refine Ow_q rfl rfl rfl (Qt_load1 (v := (.int .i64 x2.thread)) rfl rfl rfl (Rdc.k (Sl.at hl (map_get hx3)) rfl)) ?_
    refine Ow_q rfl rfl rfl (Qt_move rfl) ?_
    refine Ow_q rfl rfl rfl (Qt_cmp rfl rfl rfl) ?_
    refine Ow_nil ?_
    refine Cw_cond rfl ?_ ?_
    · intro h4
      have h4 := dcd_t (h4)
      refine Cw_region ?_
      refine Ow_q rfl rfl rfl (Qt_move rfl) ?_
      refine Ow_q rfl rfl rfl (Qt_move rfl) ?_
      refine Ow_q rfl rfl rfl (Qt_move rfl) ?_
      refine Ow_q rfl rfl rfl (Qt_ixK (q := k) rfl rfl rfl rfl rfl hl rfl (map_get hx3)) ?_
      refine Ow_q rfl rfl rfl (Qt_loadA (m := 8) (cs := Item.cells x2) rfl rfl rfl rfl ⟨rfl, Rdc.k (Sl.at hl (map_get hx3)) rfl⟩) ?_
      refine Ow_cons rfl (OpW_buildSliceX (xs := (([x2]).map Item.cells).flatten) rfl rfl rfl rfl rfl rfl rfl rfl rfl rfl rfl (fun a5 => ?_))
      refine Ow_cons rfl (OpW_appendT (bytes := 64) (L := L) (M := [x2]) Enc.item rfl rfl rfl (.tail _ (.head _)) (Src.row (.head _)) rfl rfl rfl rfl rfl rfl rfl rfl rfl (by first | omega | (simp only [List.length_append, List.length_cons, List.length_nil, List.length_replicate, List.length_set]; omega) | (simp; omega)) (by first | omega | (simp only [List.length_append, List.length_cons, List.length_nil, List.length_replicate, List.length_set]; omega) | (simp; omega)) ?_)
      intro A6 cp7 hA8
      obtain ⟨a9, rfl⟩ := hA8 (by simp)
      refine ⟨_, (.there .here), ?_⟩
      refine Ow_q rfl rfl rfl (Qt_assign rfl) ?_
      refine Ow_nil ?_
      refine Cw_region ?_
      refine Ow_q rfl rfl rfl (Qt_move rfl) ?_
      refine Ow_q rfl rfl rfl (Qt_arith (e := (((k : Nat) : Int) + 1)) rfl rfl rfl (wrap_eq (by omega) (by omega))) ?_
      refine Ow_q rfl rfl rfl (Qt_assign rfl) ?_
      refine Ow_nil ?_
      refine ⟨_, [(0, (.slice A l.length cp)), (1, (.int .i64 th)), (6, (.int .i64 (((k + 1) : Nat) : Int))), (5, (.slice (some a9) ((L ++ [x2]).length) cp7))], .row (.slice (some a9) ((L ++ [x2]).length) cp7) 26 8 ((((L ++ [x2])).map Item.cells).flatten) :: G, ⟨rfl, rfl, rfl, rfl, trivial⟩, (.cons _ (.cons_cons _ (.refl _))), (by first | omega | (simp only [List.length_append, List.length_cons, List.length_nil]; omega)), (k + 1), (some a9), cp7, (L ++ [x2]), rfl, rfl, rfl, rfl, (by omega), (by first | omega | (simp; omega)), (by rw [filter_take hx3]; simp [*])⟩
    · intro h4
      have h4 := dcd_f (h4)
      refine Cw_skip ?_
      refine Cw_region ?_
      refine Ow_q rfl rfl rfl (Qt_move rfl) ?_
      refine Ow_q rfl rfl rfl (Qt_arith (e := (((k : Nat) : Int) + 1)) rfl rfl rfl (wrap_eq (by omega) (by omega))) ?_
      refine Ow_q rfl rfl rfl (Qt_assign rfl) ?_
      refine Ow_nil ?_
      refine ⟨_, [(0, (.slice A l.length cp)), (1, (.int .i64 th)), (6, (.int .i64 (((k + 1) : Nat) : Int))), (5, (.slice A1 L.length cp1))], .row (.slice A1 L.length cp1) 26 8 (((L).map Item.cells).flatten) :: G, ⟨rfl, rfl, rfl, rfl, trivial⟩, (.cons_cons _ (.refl _)), (by first | omega | (simp only [List.length_append, List.length_cons, List.length_nil]; omega)), (k + 1), A1, cp1, L, rfl, rfl, rfl, rfl, (by omega), (by first | omega | (simp; omega)), (by rw [filter_take hx3]; simp [*])⟩
  · intro h1
    have h1 := dcd_f (h1)
    refine Cw_exit ?_
    refine Cw_seq ?_
    refine Cw_region ?_
    refine Ow_q rfl rfl rfl (Qt_move rfl) ?_
    refine Ow_q rfl rfl rfl (Qt_assign rfl) ?_
    refine Ow_nil ?_
    refine Cw_ret ?_
    refine ⟨(by first | exact .inl rfl | exact .inr rfl), [(.slice A1 L.length cp1)], .row (.slice A1 L.length cp1) 26 8 (((L).map Item.cells).flatten) :: G, ⟨(.slice A1 L.length cp1), _, rfl, rfl, rfl⟩, .cons_cons _ (.refl _), ?_⟩
    obtain rfl : k = l.length := by omega
    rw [List.take_length] at hL
    subst hL
    exact ⟨_, _, rfl, rfl, rfl⟩

theorem c_sameItems (A : Option Addr) (cp : Nat) (l : List Item) (B : Option Addr) (cq : Nat) (m : List Item) (K : Kp) (G : List Ent) (hl : Sl K (.slice A l.length cp) 8 (l.map Item.cells)) (hm : Sl K (.slice B m.length cq) 8 (m.map Item.cells)) :
    Fc Try.prog 19 #[(.slice A l.length cp), (.slice B m.length cq)] K G (fun v K' G' => v = .bool (decide (l = m)) ∧ K' = K ∧ G' = G) := by
  refine Fc_of Try.func19 rfl Try.ntmps19 Try.results19 rfl ?_
  have hll := Sl.le hl
  have hml := Sl.le hm
  refine Cw_seq ?_
  refine Cw_region ?_
  refine Ow_q rfl rfl rfl (Qt_assign rfl) ?_
  refine Ow_nil ?_
  refine Cw_seq ?_
  refine Cw_seq ?_
  refine Cw_region ?_
  refine Ow_q rfl rfl rfl (Qt_move rfl) ?_
  refine Ow_q rfl rfl rfl (Qt_len rfl rfl) ?_
  refine Ow_q rfl rfl rfl (Qt_move rfl) ?_
  refine Ow_q rfl rfl rfl (Qt_len rfl rfl) ?_
  refine Ow_q rfl rfl rfl (Qt_cmp rfl rfl rfl) ?_
  refine Ow_nil ?_
  refine Cw_cond rfl ?_ ?_
  · intro h1
    have h1 := dcd_f (nt_t (h1))
    refine Cw_seq ?_
    refine Cw_region ?_
    refine Ow_q rfl rfl rfl (Qt_assign rfl) ?_
    refine Ow_nil ?_
    refine Cw_ret ?_
    refine ⟨(by first | exact .inl rfl | exact .inr rfl), [(.bool false)], G, ⟨(.bool false), _, rfl, rfl, rfl⟩, .refl _, ?_⟩
    exact ⟨by simp only [mkRes]; congr 1; refine (decide_eq_false ?_).symm; rintro rfl; simp_all, rfl, rfl⟩
  · intro h1
    have h1 := dcd_t (nt_f (h1))
    refine Cw_skip ?_
    refine Cw_seq ?_
    refine Cw_seq ?_
    refine Cw_region ?_
    refine Ow_q rfl rfl rfl (Qt_assign rfl) ?_
    refine Ow_nil ?_
    refine Cw_block ?_
    refine Cw_loop (S := Nat) (fun s env' K' G' => ∃ (k : Nat), l.length - k = s ∧ [(0, (.slice A l.length cp)), (1, (.slice B m.length cq)), (5, (.int .i64 ((k : Nat) : Int)))] = env' ∧ K = K' ∧ G = G' ∧ k ≤ l.length ∧ ∀ j, j < k → l[j]? = m[j]?) (fun s => s) (l.length - 0) [(0, (.slice A l.length cp)), (1, (.slice B m.length cq)), (5, (.int .i64 ((0 : Nat) : Int)))] (G)
      ⟨0, rfl, rfl, rfl, rfl, (Nat.zero_le _), (fun j h => absurd h (by omega))⟩ ⟨rfl, rfl, rfl, trivial⟩ (.refl _) ?_
    rintro s _ _ _ - ⟨k, rfl, rfl, rfl, rfl, hk, hj⟩
    refine Cw_seq ?_
    refine Cw_seq ?_
    refine Cw_region ?_
    refine Ow_q rfl rfl rfl (Qt_move rfl) ?_
    refine Ow_q rfl rfl rfl (Qt_move rfl) ?_
    refine Ow_q rfl rfl rfl (Qt_len rfl rfl) ?_
    refine Ow_q rfl rfl rfl (Qt_cmp rfl rfl rfl) ?_
    refine Ow_nil ?_
    refine Cw_cond rfl ?_ ?_
    · intro h2
      have h2 := dcd_t (h2)
      refine Cw_skip ?_
      refine Cw_seq ?_
      refine Cw_block ?_
      refine Cw_seq ?_
      refine Cw_region_any [] rfl Inc.nil ?_
      refine Aw_q 0 rfl (by kernel_rfl) (by kernel_rfl) (by kernel_rfl) rfl rfl rfl (Qt_move rfl) ?_
      refine Aw_q 1 rfl (by kernel_rfl) (by kernel_rfl) (by kernel_rfl) rfl rfl rfl (Qt_move rfl) ?_
      obtain ⟨x3, hx4⟩ : ∃ x, l[k]? = some x := ⟨_, List.getElem?_eq_getElem (by first | omega | (simp only [List.length_append, List.length_cons, List.length_nil, List.length_replicate, List.length_set]; omega) | (simp; omega))⟩
      refine Aw_q 2 rfl (by kernel_rfl) (by kernel_rfl) (by kernel_rfl) rfl rfl rfl (Qt_ixK (q := k) rfl rfl rfl rfl rfl hl rfl (map_get hx4)) ?_
      refine Aw_q 3 rfl (by kernel_rfl) (by kernel_rfl) (by kernel_rfl) rfl rfl rfl (Qt_loadA (m := 8) (cs := Item.cells x3) rfl rfl rfl rfl ⟨rfl, Rdc.k (Sl.at hl (map_get hx4)) rfl⟩) ?_
      refine Aw_q 4 rfl (by kernel_rfl) (by kernel_rfl) (by kernel_rfl) rfl rfl rfl (Qt_move rfl) ?_
      refine Aw_q 5 rfl (by kernel_rfl) (by kernel_rfl) (by kernel_rfl) rfl rfl rfl (Qt_move rfl) ?_
      obtain ⟨x5, hx6⟩ : ∃ x, m[k]? = some x := ⟨_, List.getElem?_eq_getElem (by first | omega | (simp only [List.length_append, List.length_cons, List.length_nil, List.length_replicate, List.length_set]; omega) | (simp; omega))⟩
      refine Aw_q 6 rfl (by kernel_rfl) (by kernel_rfl) (by kernel_rfl) rfl rfl rfl (Qt_ixK (q := k) rfl rfl rfl rfl rfl hm rfl (map_get hx6)) ?_
      refine Aw_q 7 rfl (by kernel_rfl) (by kernel_rfl) (by kernel_rfl) rfl rfl rfl (Qt_loadA (m := 8) (cs := Item.cells x5) rfl rfl rfl rfl ⟨rfl, Rdc.k (Sl.at hm (map_get hx6)) rfl⟩) ?_
      refine Aw_q 8 rfl (by kernel_rfl) (by kernel_rfl) (by kernel_rfl) rfl rfl rfl (Qt_neS rfl rfl (fun w => Item.eqrun x3 x5 w) (by kernel_rfl)) ?_
      refine Aw_done (by kernel_rfl) ?_
      refine Cw_cond rfl ?_ ?_
      · intro h7
        have h7 := dcd_f (nt_t (h7))
        refine Cw_seq ?_
        refine Cw_region ?_
        refine Ow_q rfl rfl rfl (Qt_assign rfl) ?_
        refine Ow_nil ?_
        refine Cw_ret ?_
        refine ⟨(by first | exact .inl rfl | exact .inr rfl), [(.bool false)], G, ⟨(.bool false), _, rfl, rfl, rfl⟩, .refl _, ?_⟩
        exact ⟨by simp only [mkRes]; congr 1; refine (decide_eq_false ?_).symm; rintro rfl; rw [hx4] at hx6; cases hx6; simp_all, rfl, rfl⟩
      · intro h7
        have h7 := dcd_t (nt_f (h7))
        refine Cw_skip ?_
        refine Cw_region ?_
        refine Ow_q rfl rfl rfl (Qt_move rfl) ?_
        refine Ow_q rfl rfl rfl (Qt_arith (e := (((k : Nat) : Int) + 1)) rfl rfl rfl (wrap_eq (by omega) (by omega))) ?_
        refine Ow_q rfl rfl rfl (Qt_assign rfl) ?_
        refine Ow_nil ?_
        refine ⟨_, [(0, (.slice A l.length cp)), (1, (.slice B m.length cq)), (5, (.int .i64 (((k + 1) : Nat) : Int)))], G, ⟨rfl, rfl, rfl, trivial⟩, (.refl _), (by first | omega | (simp only [List.length_append, List.length_cons, List.length_nil]; omega)), (k + 1), rfl, rfl, rfl, rfl, (by omega), (same_step hj (by rw [hx4, hx6]; simp [*]))⟩
    · intro h2
      have h2 := dcd_f (h2)
      refine Cw_exit ?_
      refine Cw_seq ?_
      refine Cw_region ?_
      refine Ow_q rfl rfl rfl (Qt_assign rfl) ?_
      refine Ow_nil ?_
      refine Cw_ret ?_
      refine ⟨(by first | exact .inl rfl | exact .inr rfl), [(.bool true)], G, ⟨(.bool true), _, rfl, rfl, rfl⟩, .refl _, ?_⟩
      exact ⟨by simp only [mkRes]; congr 1; exact (decide_eq_true (same_end hj (by omega) (by omega))).symm, rfl, rfl⟩

set_option maxRecDepth 100000 in
set_option maxHeartbeats 1000000 in
theorem c_items (b : Nat) (A : Option Addr) (cp : Nat) (c : Cd) (th m : Nat) (hth : 0 < th) (hm : m ≤ 1000000) (K : Kp) (G : List Ent) (hcd : Sl K (.slice A c.list.length cp) 1 (c.list.map u8c)) :
    Fc Try.prog 15 #[(.pointer (some ((⟨b, 0, none⟩ : Addr).add 0))), (.int .i64 ((th : Nat) : Int)), (.int .i64 ((m : Nat) : Int))] K (.blk b 70 (c.cells A cp) :: G) (fun v K' G' => ∃ new e', G' = new ++ e' :: G ∧ ∃ A' cp' L at', v = .slice A' (List.length L) cp' ∧ K = K' ∧ new = [.row (.slice A' L.length cp') 26 8 ((L.map Item.cells).flatten)] ∧ e' = .blk b 70 (Cd.cells A cp ⟨c.list, at', c.value⟩) ∧ L.length ≤ m ∧ ∀ x ∈ L, okItem th x) := by
  refine Fc_of Try.func15 rfl Try.ntmps15 Try.results15 rfl ?_
  have hcl := Sl.le hcd
  refine Cw_seq ?_
  refine Cw_region ?_
  refine Ow_q rfl rfl rfl (Qt_assign rfl) ?_
  refine Ow_nil ?_
  refine Cw_seq ?_
  refine Cw_region ?_
  refine Ow_q rfl rfl rfl (Qt_assign rfl) ?_
  refine Ow_nil ?_
  refine Cw_seq ?_
  refine Cw_region ?_
  refine Ow_cons rfl (OpW_makeT (bytes := 8) (m := 4) (0 : Int) Enc.u64 rfl rfl rfl (by first | omega | (simp only [List.length_append, List.length_cons, List.length_nil, List.length_replicate, List.length_set]; omega) | (simp; omega)) (by first | omega | (simp only [List.length_append, List.length_cons, List.length_nil, List.length_replicate, List.length_set]; omega) | (simp; omega)) rfl rfl rfl rfl rfl rfl rfl (by omega) (by omega) (fun a1 => ?_))
  refine Ow_q rfl rfl rfl (Qt_assign rfl) ?_
  refine Ow_nil ?_
  refine Cw_seq ?_
  refine Cw_block ?_
  refine Cw.nilRow 26 8 ?_
  refine Cw_loop (S := Nat) (fun s env' K' G' => ∃ (A1 : Option Addr) (cp1 : Nat) (L : List Item) (at1 : Nat) (W : List Int), m - L.length = s ∧ [(0, (.pointer (some ((⟨b, 0, none⟩ : Addr).add 0)))), (1, (.int .i64 ((th : Nat) : Int))), (2, (.int .i64 ((m : Nat) : Int))), (7, (.slice A1 L.length cp1)), (8, (.slice (some a1) ((List.replicate 4 (0 : Int)).length) 4))] = env' ∧ K = K' ∧ .row (.slice A1 L.length cp1) 26 8 (((L).map Item.cells).flatten) :: .row (.slice (some a1) ((List.replicate 4 (0 : Int)).length) 4) 22 1 (((W).map u64c).flatten) :: .blk b 70 [(.slice A ((Cd.mk c.list at1 c.value).list.length) cp), (.int .i64 (((Cd.mk c.list at1 c.value).at_ : Nat) : Int)), (.int .u64 ((Cd.mk c.list at1 c.value).value))] :: G = G' ∧ L.length ≤ m ∧ W.length = 4 ∧ ∀ x ∈ L, okItem th x) (fun s => s) (m - ([] : List Item).length) [(0, (.pointer (some ((⟨b, 0, none⟩ : Addr).add 0)))), (1, (.int .i64 ((th : Nat) : Int))), (2, (.int .i64 ((m : Nat) : Int))), (7, (.slice none 0 0)), (8, (.slice (some a1) ((List.replicate 4 (0 : Int)).length) 4))] (.row (.slice none 0 0) 26 8 (((([] : List Item)).map Item.cells).flatten) :: .row (.slice (some a1) ((List.replicate 4 (0 : Int)).length) 4) 22 1 ((((List.replicate 4 (0 : Int))).map u64c).flatten) :: .blk b 70 [(.slice A ((Cd.mk c.list c.at_ c.value).list.length) cp), (.int .i64 (((Cd.mk c.list c.at_ c.value).at_ : Nat) : Int)), (.int .u64 ((Cd.mk c.list c.at_ c.value).value))] :: G)
    ⟨none, 0, ([] : List Item), c.at_, (List.replicate 4 (0 : Int)), rfl, rfl, rfl, rfl, (Nat.zero_le _), (by first | omega | (simp; done) | (simp; omega) | (simp_all; done)), (fun x h => by cases h)⟩ ⟨rfl, rfl, rfl, rfl, rfl, trivial⟩ (.cons_cons _ (.cons_cons _ (.cons_cons _ (.refl _)))) ?_
  rintro s _ _ _ - ⟨A1, cp1, L, at1, W, rfl, rfl, rfl, rfl, hL, hW, hok⟩
  refine Cw_seq ?_
  refine Cw_seq ?_
  refine Cw_region ?_
  refine Ow_q rfl rfl rfl (Qt_move rfl) ?_
  refine Ow_cons rfl (OpW_callG (v0 := (.bool (dcd ((((Cd.mk c.list at1 c.value).at_ : Nat) : Int) < (((Cd.mk c.list at1 c.value).list.length : Nat) : Int))))) rfl Try.call50 rfl rfl (Fc.at (.there (.there .here)) (fun G1 => c_left b A cp (Cd.mk c.list at1 c.value)  _ G1 hcd)) ?_)
  refine Ow_q rfl rfl rfl (Qt_move rfl) ?_
  refine Ow_caseG rfl rfl rfl ?_ ?_
  · intro h2
    have h2 := dcd_t (h2)
    refine Ow_qw rfl rfl rfl rfl rfl rfl (Qt_move rfl) ?_
    refine Ow_qw rfl rfl rfl rfl rfl rfl (Qt_len rfl rfl) ?_
    refine Ow_qw rfl rfl rfl rfl rfl rfl (Qt_move rfl) ?_
    refine Ow_qw rfl rfl rfl rfl rfl rfl (Qt_cmp rfl rfl rfl) ?_
    refine Ow_q rfl rfl rfl (Qt_pick_t rfl rfl) ?_
    refine Ow_nil ?_
    refine Cw_cond rfl ?_ ?_
    · intro h3
      have h3 := dcd_t (h3)
      refine Cw_skip ?_
      refine Cw_block ?_
      refine Cw_seq ?_
      refine Cw_region ?_
      refine Ow_q rfl rfl rfl (Qt_move rfl) ?_
      refine Ow_q rfl rfl rfl (Qt_move rfl) ?_
      have hn4 : 0 < th := (by first | omega | (simp only [List.length_append, List.length_cons, List.length_nil, List.length_replicate, List.length_set]; omega) | (simp; omega))
      refine Ow_cons rfl (OpW_callG (v0 := (.int .i64 ((((Cd.mk c.list at1 c.value).next th).1 : Nat) : Int))) rfl Try.call40 rfl rfl (Fc.at (.there (.there .here)) (fun G1 => c_next b A cp (Cd.mk c.list at1 c.value) th hn4 _ G1 hcd)) ?_)
      have hlt5 := Cd.next_lt (Cd.mk c.list at1 c.value) th hn4
      refine Ow_q rfl rfl rfl (Qt_move rfl) ?_
      have hn6 : 0 < 9 := (by first | omega | (simp only [List.length_append, List.length_cons, List.length_nil, List.length_replicate, List.length_set]; omega) | (simp; omega))
      refine Ow_cons rfl (OpW_callG (v0 := (.int .i64 ((((((Cd.mk c.list at1 c.value).next th).2).next 9).1 : Nat) : Int))) rfl Try.call40 rfl rfl (Fc.at (.there (.there .here)) (fun G1 => c_next b A cp (((Cd.mk c.list at1 c.value).next th).2) 9 hn6 _ G1 hcd)) ?_)
      have hlt7 := Cd.next_lt (((Cd.mk c.list at1 c.value).next th).2) 9 hn6
      refine Ow_q rfl rfl rfl (Qt_arith (e := (((((((Cd.mk c.list at1 c.value).next th).2).next 9).1 : Nat) : Int) + 1)) rfl rfl rfl (wrap_eq (by omega) (by omega))) ?_
      refine Ow_q rfl rfl rfl (Qt_move rfl) ?_
      have hn8 : 0 < 4 := (by first | omega | (simp only [List.length_append, List.length_cons, List.length_nil, List.length_replicate, List.length_set]; omega) | (simp; omega))
      refine Ow_cons rfl (OpW_callG (v0 := (.int .i64 ((((((((Cd.mk c.list at1 c.value).next th).2).next 9).2).next 4).1 : Nat) : Int))) rfl Try.call40 rfl rfl (Fc.at (.there (.there .here)) (fun G1 => c_next b A cp (((((Cd.mk c.list at1 c.value).next th).2).next 9).2) 4 hn8 _ G1 hcd)) ?_)
      have hlt9 := Cd.next_lt (((((Cd.mk c.list at1 c.value).next th).2).next 9).2) 4 hn8
      refine Ow_q rfl rfl rfl (Qt_move rfl) ?_
      have hn10 : 0 < 3 := (by first | omega | (simp only [List.length_append, List.length_cons, List.length_nil, List.length_replicate, List.length_set]; omega) | (simp; omega))
      refine Ow_cons rfl (OpW_callG (v0 := (.int .i64 ((((((((((Cd.mk c.list at1 c.value).next th).2).next 9).2).next 4).2).next 3).1 : Nat) : Int))) rfl Try.call40 rfl rfl (Fc.at (.there (.there .here)) (fun G1 => c_next b A cp (((((((Cd.mk c.list at1 c.value).next th).2).next 9).2).next 4).2) 3 hn10 _ G1 hcd)) ?_)
      have hlt11 := Cd.next_lt (((((((Cd.mk c.list at1 c.value).next th).2).next 9).2).next 4).2) 3 hn10
      refine Ow_q rfl rfl rfl (Qt_conv (c := ((((((((((Cd.mk c.list at1 c.value).next th).2).next 9).2).next 4).2).next 3).1 : Nat) : Int)) rfl rfl rfl (IntWalk.u64_in _ (by omega))) ?_
      refine Ow_q rfl rfl rfl (Qt_move rfl) ?_
      have hn12 : 0 < 3 := (by first | omega | (simp only [List.length_append, List.length_cons, List.length_nil, List.length_replicate, List.length_set]; omega) | (simp; omega))
      refine Ow_cons rfl (OpW_callG (v0 := (.int .i64 ((((((((((((Cd.mk c.list at1 c.value).next th).2).next 9).2).next 4).2).next 3).2).next 3).1 : Nat) : Int))) rfl Try.call40 rfl rfl (Fc.at (.there (.there .here)) (fun G1 => c_next b A cp (((((((((Cd.mk c.list at1 c.value).next th).2).next 9).2).next 4).2).next 3).2) 3 hn12 _ G1 hcd)) ?_)
      have hlt13 := Cd.next_lt (((((((((Cd.mk c.list at1 c.value).next th).2).next 9).2).next 4).2).next 3).2) 3 hn12
      refine Ow_q rfl rfl rfl (Qt_conv (c := ((((((((((((Cd.mk c.list at1 c.value).next th).2).next 9).2).next 4).2).next 3).2).next 3).1 : Nat) : Int)) rfl rfl rfl (IntWalk.u64_in _ (by omega))) ?_
      refine Ow_q rfl rfl rfl (Qt_build (cs := Access.cells (Access.mk (((((((Cd.mk c.list at1 c.value).next th).2).next 9).1 : Nat) : Int) + 1) ((((((((Cd.mk c.list at1 c.value).next th).2).next 9).2).next 4).1 : Nat) : Int) ((((((((((Cd.mk c.list at1 c.value).next th).2).next 9).2).next 4).2).next 3).1 : Nat) : Int) ((((((((((((Cd.mk c.list at1 c.value).next th).2).next 9).2).next 4).2).next 3).2).next 3).1 : Nat) : Int) 0)) rfl rfl rfl rfl rfl rfl) ?_
      refine Ow_q rfl rfl rfl (Qt_build (cs := Item.cells (Item.mk ((((Cd.mk c.list at1 c.value).next th).1 : Nat) : Int) (Access.mk (((((((Cd.mk c.list at1 c.value).next th).2).next 9).1 : Nat) : Int) + 1) ((((((((Cd.mk c.list at1 c.value).next th).2).next 9).2).next 4).1 : Nat) : Int) ((((((((((Cd.mk c.list at1 c.value).next th).2).next 9).2).next 4).2).next 3).1 : Nat) : Int) ((((((((((((Cd.mk c.list at1 c.value).next th).2).next 9).2).next 4).2).next 3).2).next 3).1 : Nat) : Int) 0) 0 false)) rfl rfl rfl rfl rfl rfl) ?_
      refine Ow_cons rfl (OpW_alloc (cs := [(.int .i64 0), (.int .i64 0), (.int .i64 0), (.int .u64 0), (.int .u64 0), (.int .i64 0), (.int .u64 0), (.bool false)]) rfl rfl rfl rfl (fun b14 => ?_))
      refine Ow_cons rfl (OpW_store (vs := [(.int .i64 ((((Cd.mk c.list at1 c.value).next th).1 : Nat) : Int)), (.int .i64 (((((((Cd.mk c.list at1 c.value).next th).2).next 9).1 : Nat) : Int) + 1)), (.int .i64 ((((((((Cd.mk c.list at1 c.value).next th).2).next 9).2).next 4).1 : Nat) : Int)), (.int .u64 ((((((((((Cd.mk c.list at1 c.value).next th).2).next 9).2).next 4).2).next 3).1 : Nat) : Int)), (.int .u64 ((((((((((((Cd.mk c.list at1 c.value).next th).2).next 9).2).next 4).2).next 3).2).next 3).1 : Nat) : Int)), (.int .i64 0), (.int .u64 0), (.bool false)]) (all' := [(.int .i64 ((((Cd.mk c.list at1 c.value).next th).1 : Nat) : Int)), (.int .i64 (((((((Cd.mk c.list at1 c.value).next th).2).next 9).1 : Nat) : Int) + 1)), (.int .i64 ((((((((Cd.mk c.list at1 c.value).next th).2).next 9).2).next 4).1 : Nat) : Int)), (.int .u64 ((((((((((Cd.mk c.list at1 c.value).next th).2).next 9).2).next 4).2).next 3).1 : Nat) : Int)), (.int .u64 ((((((((((((Cd.mk c.list at1 c.value).next th).2).next 9).2).next 4).2).next 3).2).next 3).1 : Nat) : Int)), (.int .i64 0), (.int .u64 0), (.bool false)]) rfl rfl rfl rfl rfl .here rfl rfl rfl ?_)
      refine Ow_nil ?_
      refine Cw_seq ?_
      refine Cw_seq ?_
      refine Cw_region ?_
      refine Ow_q rfl rfl rfl (Qt_fieldAddr (m := 1) rfl rfl rfl rfl rfl) ?_
      refine Ow_q rfl rfl rfl (Qt_fieldAddr (m := 1) rfl rfl rfl rfl rfl) ?_
      refine Ow_q rfl rfl rfl (Qt_load1 (v := (.int .i64 (((((((Cd.mk c.list at1 c.value).next th).2).next 9).1 : Nat) : Int) + 1))) rfl rfl rfl (Rdc.blk (.head _) rfl)) ?_
      refine Ow_nil ?_
      refine Cw_block ?_
      refine Cw_seq ?_
      refine Cw_seq ?_
      refine Cw_region ?_
      refine Ow_q rfl rfl rfl (Qt_cmp rfl rfl rfl) ?_
      refine Ow_q rfl rfl rfl (Qt_assign rfl) ?_
      refine Ow_nil ?_
      refine Cw_cond rfl ?_ ?_
      · intro h15
        have h15 := dcd_t (h15)
        refine Cw_skip ?_
        refine Cw_cond_kt rfl (dcd_pos h15) ?_
        refine Cw_region ?_
        refine Ow_q rfl rfl rfl (Qt_move rfl) ?_
        refine Ow_q rfl rfl rfl (Qt_fieldAddr (m := 1) rfl rfl rfl rfl rfl) ?_
        refine Ow_q rfl rfl rfl (Qt_fieldAddr (m := 2) rfl rfl rfl rfl rfl) ?_
        refine Ow_q rfl rfl rfl (Qt_load1 (v := (.int .i64 ((((((((Cd.mk c.list at1 c.value).next th).2).next 9).2).next 4).1 : Nat) : Int))) rfl rfl rfl (Rdc.blk (.head _) rfl)) ?_
        obtain ⟨x16, hx17⟩ : ∃ x, W[((((((Cd.mk c.list at1 c.value).next th).2).next 9).2).next 4).1]? = some x := ⟨_, List.getElem?_eq_getElem (by first | omega | (simp only [List.length_append, List.length_cons, List.length_nil, List.length_replicate, List.length_set]; omega) | (simp; omega))⟩
        refine Ow_q rfl rfl rfl (Qt_ixG (q := ((((((Cd.mk c.list at1 c.value).next th).2).next 9).2).next 4).1) (o := (((((((Cd.mk c.list at1 c.value).next th).2).next 9).2).next 4).1) * 1 + 0) rfl rfl rfl rfl rfl rfl (by first | omega | (simp only [List.length_append, List.length_cons, List.length_nil, List.length_replicate, List.length_set]; omega) | (simp; omega)) rfl) ?_
        refine Ow_q rfl rfl rfl (Qt_load1 (v := (.int .u64 x16)) rfl rfl rfl (Rdc.rowT (.tail _ (.tail _ (.head _))) Enc.u64 hx17 rfl rfl)) ?_
        refine Ow_q rfl rfl rfl (Qt_fieldAddr (m := 6) rfl rfl rfl rfl rfl) ?_
        refine Ow_cons rfl (OpW_store (vs := [(.int .u64 x16)]) (all' := [(.int .i64 ((((Cd.mk c.list at1 c.value).next th).1 : Nat) : Int)), (.int .i64 (((((((Cd.mk c.list at1 c.value).next th).2).next 9).1 : Nat) : Int) + 1)), (.int .i64 ((((((((Cd.mk c.list at1 c.value).next th).2).next 9).2).next 4).1 : Nat) : Int)), (.int .u64 ((((((((((Cd.mk c.list at1 c.value).next th).2).next 9).2).next 4).2).next 3).1 : Nat) : Int)), (.int .u64 ((((((((((((Cd.mk c.list at1 c.value).next th).2).next 9).2).next 4).2).next 3).2).next 3).1 : Nat) : Int)), (.int .i64 0), (.int .u64 x16), (.bool false)]) rfl rfl rfl rfl rfl .here rfl rfl rfl ?_)
        refine Ow_nil ?_
        refine Cw_region ?_
        refine Ow_q rfl rfl rfl (Qt_move rfl) ?_
        refine Ow_q rfl rfl rfl (Qt_loadA (m := 8) (cs := Item.cells (Item.mk ((((Cd.mk c.list at1 c.value).next th).1 : Nat) : Int) (Access.mk (((((((Cd.mk c.list at1 c.value).next th).2).next 9).1 : Nat) : Int) + 1) ((((((((Cd.mk c.list at1 c.value).next th).2).next 9).2).next 4).1 : Nat) : Int) ((((((((((Cd.mk c.list at1 c.value).next th).2).next 9).2).next 4).2).next 3).1 : Nat) : Int) ((((((((((((Cd.mk c.list at1 c.value).next th).2).next 9).2).next 4).2).next 3).2).next 3).1 : Nat) : Int) 0) x16 false)) rfl rfl rfl rfl ⟨rfl, Rdc.blk (.head _) rfl⟩) ?_
        refine Ow_cons rfl (OpW_buildSliceX (xs := (([(Item.mk ((((Cd.mk c.list at1 c.value).next th).1 : Nat) : Int) (Access.mk (((((((Cd.mk c.list at1 c.value).next th).2).next 9).1 : Nat) : Int) + 1) ((((((((Cd.mk c.list at1 c.value).next th).2).next 9).2).next 4).1 : Nat) : Int) ((((((((((Cd.mk c.list at1 c.value).next th).2).next 9).2).next 4).2).next 3).1 : Nat) : Int) ((((((((((((Cd.mk c.list at1 c.value).next th).2).next 9).2).next 4).2).next 3).2).next 3).1 : Nat) : Int) 0) x16 false)]).map Item.cells).flatten) rfl rfl rfl rfl rfl rfl rfl rfl rfl rfl rfl (fun a18 => ?_))
        refine Ow_cons rfl (OpW_appendT (bytes := 64) (L := L) (M := [(Item.mk ((((Cd.mk c.list at1 c.value).next th).1 : Nat) : Int) (Access.mk (((((((Cd.mk c.list at1 c.value).next th).2).next 9).1 : Nat) : Int) + 1) ((((((((Cd.mk c.list at1 c.value).next th).2).next 9).2).next 4).1 : Nat) : Int) ((((((((((Cd.mk c.list at1 c.value).next th).2).next 9).2).next 4).2).next 3).1 : Nat) : Int) ((((((((((((Cd.mk c.list at1 c.value).next th).2).next 9).2).next 4).2).next 3).2).next 3).1 : Nat) : Int) 0) x16 false)]) Enc.item rfl rfl rfl (.tail _ (.tail _ (.head _))) (Src.row (.head _)) rfl rfl rfl rfl rfl rfl rfl rfl rfl (by first | omega | (simp only [List.length_append, List.length_cons, List.length_nil, List.length_replicate, List.length_set]; omega) | (simp; omega)) (by first | omega | (simp only [List.length_append, List.length_cons, List.length_nil, List.length_replicate, List.length_set]; omega) | (simp; omega)) ?_)
        intro A19 cp20 hA21
        obtain ⟨a22, rfl⟩ := hA21 (by simp)
        refine ⟨_, (.there (.there .here)), ?_⟩
        refine Ow_q rfl rfl rfl (Qt_assign rfl) ?_
        refine Ow_nil ?_
        refine ⟨_, [(0, (.pointer (some ((⟨b, 0, none⟩ : Addr).add 0)))), (1, (.int .i64 ((th : Nat) : Int))), (2, (.int .i64 ((m : Nat) : Int))), (7, (.slice (some a22) ((L ++ [(Item.mk ((((Cd.mk c.list at1 c.value).next th).1 : Nat) : Int) (Access.mk (((((((Cd.mk c.list at1 c.value).next th).2).next 9).1 : Nat) : Int) + 1) ((((((((Cd.mk c.list at1 c.value).next th).2).next 9).2).next 4).1 : Nat) : Int) ((((((((((Cd.mk c.list at1 c.value).next th).2).next 9).2).next 4).2).next 3).1 : Nat) : Int) ((((((((((((Cd.mk c.list at1 c.value).next th).2).next 9).2).next 4).2).next 3).2).next 3).1 : Nat) : Int) 0) x16 false)]).length) cp20)), (8, (.slice (some a1) ((List.replicate 4 (0 : Int)).length) 4))], .row (.slice (some a22) ((L ++ [(Item.mk ((((Cd.mk c.list at1 c.value).next th).1 : Nat) : Int) (Access.mk (((((((Cd.mk c.list at1 c.value).next th).2).next 9).1 : Nat) : Int) + 1) ((((((((Cd.mk c.list at1 c.value).next th).2).next 9).2).next 4).1 : Nat) : Int) ((((((((((Cd.mk c.list at1 c.value).next th).2).next 9).2).next 4).2).next 3).1 : Nat) : Int) ((((((((((((Cd.mk c.list at1 c.value).next th).2).next 9).2).next 4).2).next 3).2).next 3).1 : Nat) : Int) 0) x16 false)]).length) cp20) 26 8 ((((L ++ [(Item.mk ((((Cd.mk c.list at1 c.value).next th).1 : Nat) : Int) (Access.mk (((((((Cd.mk c.list at1 c.value).next th).2).next 9).1 : Nat) : Int) + 1) ((((((((Cd.mk c.list at1 c.value).next th).2).next 9).2).next 4).1 : Nat) : Int) ((((((((((Cd.mk c.list at1 c.value).next th).2).next 9).2).next 4).2).next 3).1 : Nat) : Int) ((((((((((((Cd.mk c.list at1 c.value).next th).2).next 9).2).next 4).2).next 3).2).next 3).1 : Nat) : Int) 0) x16 false)])).map Item.cells).flatten) :: .row (.slice (some a1) ((List.replicate 4 (0 : Int)).length) 4) 22 1 (((W).map u64c).flatten) :: .blk b 70 [(.slice A ((Cd.mk c.list ((((((((((((Cd.mk c.list at1 c.value).next th).2).next 9).2).next 4).2).next 3).2).next 3).2).at_) c.value).list.length) cp), (.int .i64 (((Cd.mk c.list ((((((((((((Cd.mk c.list at1 c.value).next th).2).next 9).2).next 4).2).next 3).2).next 3).2).at_) c.value).at_ : Nat) : Int)), (.int .u64 ((Cd.mk c.list ((((((((((((Cd.mk c.list at1 c.value).next th).2).next 9).2).next 4).2).next 3).2).next 3).2).at_) c.value).value))] :: G, ⟨rfl, rfl, rfl, rfl, rfl, trivial⟩, (.cons _ (.cons _ (.cons_cons _ (.cons_cons _ (.cons_cons _ (.refl _)))))), (by first | omega | (simp only [List.length_append, List.length_cons, List.length_nil]; omega)), (some a22), cp20, (L ++ [(Item.mk ((((Cd.mk c.list at1 c.value).next th).1 : Nat) : Int) (Access.mk (((((((Cd.mk c.list at1 c.value).next th).2).next 9).1 : Nat) : Int) + 1) ((((((((Cd.mk c.list at1 c.value).next th).2).next 9).2).next 4).1 : Nat) : Int) ((((((((((Cd.mk c.list at1 c.value).next th).2).next 9).2).next 4).2).next 3).1 : Nat) : Int) ((((((((((((Cd.mk c.list at1 c.value).next th).2).next 9).2).next 4).2).next 3).2).next 3).1 : Nat) : Int) 0) x16 false)]), (((((((((((Cd.mk c.list at1 c.value).next th).2).next 9).2).next 4).2).next 3).2).next 3).2).at_, W, rfl, rfl, rfl, rfl, (by first | omega | (simp only [List.length_append, List.length_cons, List.length_nil, List.length_replicate, List.length_set]; omega) | (simp; omega)), (by first | omega | (simp; done) | (simp; omega) | (simp_all; done)), (ok_snoc hok (by simp only [okItem]; omega))⟩
      · intro h15
        have h15 := dcd_f (h15)
        refine Cw_seq ?_
        refine Cw_region ?_
        refine Ow_q rfl rfl rfl (Qt_cmp rfl rfl rfl) ?_
        refine Ow_q rfl rfl rfl (Qt_assign rfl) ?_
        refine Ow_nil ?_
        refine Cw_cond rfl ?_ ?_
        · intro h23
          have h23 := dcd_t (h23)
          refine Cw_skip ?_
          refine Cw_cond_kt rfl (dcd_pos h23) ?_
          refine Cw_region ?_
          refine Ow_q rfl rfl rfl (Qt_move rfl) ?_
          refine Ow_q rfl rfl rfl (Qt_fieldAddr (m := 1) rfl rfl rfl rfl rfl) ?_
          refine Ow_q rfl rfl rfl (Qt_fieldAddr (m := 2) rfl rfl rfl rfl rfl) ?_
          refine Ow_q rfl rfl rfl (Qt_load1 (v := (.int .i64 ((((((((Cd.mk c.list at1 c.value).next th).2).next 9).2).next 4).1 : Nat) : Int))) rfl rfl rfl (Rdc.blk (.head _) rfl)) ?_
          obtain ⟨x24, hx25⟩ : ∃ x, W[((((((Cd.mk c.list at1 c.value).next th).2).next 9).2).next 4).1]? = some x := ⟨_, List.getElem?_eq_getElem (by first | omega | (simp only [List.length_append, List.length_cons, List.length_nil, List.length_replicate, List.length_set]; omega) | (simp; omega))⟩
          refine Ow_q rfl rfl rfl (Qt_ixG (q := ((((((Cd.mk c.list at1 c.value).next th).2).next 9).2).next 4).1) (o := (((((((Cd.mk c.list at1 c.value).next th).2).next 9).2).next 4).1) * 1 + 0) rfl rfl rfl rfl rfl rfl (by first | omega | (simp only [List.length_append, List.length_cons, List.length_nil, List.length_replicate, List.length_set]; omega) | (simp; omega)) rfl) ?_
          refine Ow_q rfl rfl rfl (Qt_load1 (v := (.int .u64 x24)) rfl rfl rfl (Rdc.rowT (.tail _ (.tail _ (.head _))) Enc.u64 hx25 rfl rfl)) ?_
          refine Ow_q rfl rfl rfl (Qt_fieldAddr (m := 6) rfl rfl rfl rfl rfl) ?_
          refine Ow_cons rfl (OpW_store (vs := [(.int .u64 x24)]) (all' := [(.int .i64 ((((Cd.mk c.list at1 c.value).next th).1 : Nat) : Int)), (.int .i64 (((((((Cd.mk c.list at1 c.value).next th).2).next 9).1 : Nat) : Int) + 1)), (.int .i64 ((((((((Cd.mk c.list at1 c.value).next th).2).next 9).2).next 4).1 : Nat) : Int)), (.int .u64 ((((((((((Cd.mk c.list at1 c.value).next th).2).next 9).2).next 4).2).next 3).1 : Nat) : Int)), (.int .u64 ((((((((((((Cd.mk c.list at1 c.value).next th).2).next 9).2).next 4).2).next 3).2).next 3).1 : Nat) : Int)), (.int .i64 0), (.int .u64 x24), (.bool false)]) rfl rfl rfl rfl rfl .here rfl rfl rfl ?_)
          refine Ow_nil ?_
          refine Cw_region ?_
          refine Ow_q rfl rfl rfl (Qt_move rfl) ?_
          refine Ow_q rfl rfl rfl (Qt_loadA (m := 8) (cs := Item.cells (Item.mk ((((Cd.mk c.list at1 c.value).next th).1 : Nat) : Int) (Access.mk (((((((Cd.mk c.list at1 c.value).next th).2).next 9).1 : Nat) : Int) + 1) ((((((((Cd.mk c.list at1 c.value).next th).2).next 9).2).next 4).1 : Nat) : Int) ((((((((((Cd.mk c.list at1 c.value).next th).2).next 9).2).next 4).2).next 3).1 : Nat) : Int) ((((((((((((Cd.mk c.list at1 c.value).next th).2).next 9).2).next 4).2).next 3).2).next 3).1 : Nat) : Int) 0) x24 false)) rfl rfl rfl rfl ⟨rfl, Rdc.blk (.head _) rfl⟩) ?_
          refine Ow_cons rfl (OpW_buildSliceX (xs := (([(Item.mk ((((Cd.mk c.list at1 c.value).next th).1 : Nat) : Int) (Access.mk (((((((Cd.mk c.list at1 c.value).next th).2).next 9).1 : Nat) : Int) + 1) ((((((((Cd.mk c.list at1 c.value).next th).2).next 9).2).next 4).1 : Nat) : Int) ((((((((((Cd.mk c.list at1 c.value).next th).2).next 9).2).next 4).2).next 3).1 : Nat) : Int) ((((((((((((Cd.mk c.list at1 c.value).next th).2).next 9).2).next 4).2).next 3).2).next 3).1 : Nat) : Int) 0) x24 false)]).map Item.cells).flatten) rfl rfl rfl rfl rfl rfl rfl rfl rfl rfl rfl (fun a26 => ?_))
          refine Ow_cons rfl (OpW_appendT (bytes := 64) (L := L) (M := [(Item.mk ((((Cd.mk c.list at1 c.value).next th).1 : Nat) : Int) (Access.mk (((((((Cd.mk c.list at1 c.value).next th).2).next 9).1 : Nat) : Int) + 1) ((((((((Cd.mk c.list at1 c.value).next th).2).next 9).2).next 4).1 : Nat) : Int) ((((((((((Cd.mk c.list at1 c.value).next th).2).next 9).2).next 4).2).next 3).1 : Nat) : Int) ((((((((((((Cd.mk c.list at1 c.value).next th).2).next 9).2).next 4).2).next 3).2).next 3).1 : Nat) : Int) 0) x24 false)]) Enc.item rfl rfl rfl (.tail _ (.tail _ (.head _))) (Src.row (.head _)) rfl rfl rfl rfl rfl rfl rfl rfl rfl (by first | omega | (simp only [List.length_append, List.length_cons, List.length_nil, List.length_replicate, List.length_set]; omega) | (simp; omega)) (by first | omega | (simp only [List.length_append, List.length_cons, List.length_nil, List.length_replicate, List.length_set]; omega) | (simp; omega)) ?_)
          intro A27 cp28 hA29
          obtain ⟨a30, rfl⟩ := hA29 (by simp)
          refine ⟨_, (.there (.there .here)), ?_⟩
          refine Ow_q rfl rfl rfl (Qt_assign rfl) ?_
          refine Ow_nil ?_
          refine ⟨_, [(0, (.pointer (some ((⟨b, 0, none⟩ : Addr).add 0)))), (1, (.int .i64 ((th : Nat) : Int))), (2, (.int .i64 ((m : Nat) : Int))), (7, (.slice (some a30) ((L ++ [(Item.mk ((((Cd.mk c.list at1 c.value).next th).1 : Nat) : Int) (Access.mk (((((((Cd.mk c.list at1 c.value).next th).2).next 9).1 : Nat) : Int) + 1) ((((((((Cd.mk c.list at1 c.value).next th).2).next 9).2).next 4).1 : Nat) : Int) ((((((((((Cd.mk c.list at1 c.value).next th).2).next 9).2).next 4).2).next 3).1 : Nat) : Int) ((((((((((((Cd.mk c.list at1 c.value).next th).2).next 9).2).next 4).2).next 3).2).next 3).1 : Nat) : Int) 0) x24 false)]).length) cp28)), (8, (.slice (some a1) ((List.replicate 4 (0 : Int)).length) 4))], .row (.slice (some a30) ((L ++ [(Item.mk ((((Cd.mk c.list at1 c.value).next th).1 : Nat) : Int) (Access.mk (((((((Cd.mk c.list at1 c.value).next th).2).next 9).1 : Nat) : Int) + 1) ((((((((Cd.mk c.list at1 c.value).next th).2).next 9).2).next 4).1 : Nat) : Int) ((((((((((Cd.mk c.list at1 c.value).next th).2).next 9).2).next 4).2).next 3).1 : Nat) : Int) ((((((((((((Cd.mk c.list at1 c.value).next th).2).next 9).2).next 4).2).next 3).2).next 3).1 : Nat) : Int) 0) x24 false)]).length) cp28) 26 8 ((((L ++ [(Item.mk ((((Cd.mk c.list at1 c.value).next th).1 : Nat) : Int) (Access.mk (((((((Cd.mk c.list at1 c.value).next th).2).next 9).1 : Nat) : Int) + 1) ((((((((Cd.mk c.list at1 c.value).next th).2).next 9).2).next 4).1 : Nat) : Int) ((((((((((Cd.mk c.list at1 c.value).next th).2).next 9).2).next 4).2).next 3).1 : Nat) : Int) ((((((((((((Cd.mk c.list at1 c.value).next th).2).next 9).2).next 4).2).next 3).2).next 3).1 : Nat) : Int) 0) x24 false)])).map Item.cells).flatten) :: .row (.slice (some a1) ((List.replicate 4 (0 : Int)).length) 4) 22 1 (((W).map u64c).flatten) :: .blk b 70 [(.slice A ((Cd.mk c.list ((((((((((((Cd.mk c.list at1 c.value).next th).2).next 9).2).next 4).2).next 3).2).next 3).2).at_) c.value).list.length) cp), (.int .i64 (((Cd.mk c.list ((((((((((((Cd.mk c.list at1 c.value).next th).2).next 9).2).next 4).2).next 3).2).next 3).2).at_) c.value).at_ : Nat) : Int)), (.int .u64 ((Cd.mk c.list ((((((((((((Cd.mk c.list at1 c.value).next th).2).next 9).2).next 4).2).next 3).2).next 3).2).at_) c.value).value))] :: G, ⟨rfl, rfl, rfl, rfl, rfl, trivial⟩, (.cons _ (.cons _ (.cons_cons _ (.cons_cons _ (.cons_cons _ (.refl _)))))), (by first | omega | (simp only [List.length_append, List.length_cons, List.length_nil]; omega)), (some a30), cp28, (L ++ [(Item.mk ((((Cd.mk c.list at1 c.value).next th).1 : Nat) : Int) (Access.mk (((((((Cd.mk c.list at1 c.value).next th).2).next 9).1 : Nat) : Int) + 1) ((((((((Cd.mk c.list at1 c.value).next th).2).next 9).2).next 4).1 : Nat) : Int) ((((((((((Cd.mk c.list at1 c.value).next th).2).next 9).2).next 4).2).next 3).1 : Nat) : Int) ((((((((((((Cd.mk c.list at1 c.value).next th).2).next 9).2).next 4).2).next 3).2).next 3).1 : Nat) : Int) 0) x24 false)]), (((((((((((Cd.mk c.list at1 c.value).next th).2).next 9).2).next 4).2).next 3).2).next 3).2).at_, W, rfl, rfl, rfl, rfl, (by first | omega | (simp only [List.length_append, List.length_cons, List.length_nil, List.length_replicate, List.length_set]; omega) | (simp; omega)), (by first | omega | (simp; done) | (simp; omega) | (simp_all; done)), (ok_snoc hok (by simp only [okItem]; omega))⟩
        · intro h23
          have h23 := dcd_f (h23)
          refine Cw_region ?_
          refine Ow_q rfl rfl rfl (Qt_cmp rfl rfl rfl) ?_
          refine Ow_q rfl rfl rfl (Qt_assign rfl) ?_
          refine Ow_nil ?_
          refine Cw_cond rfl ?_ ?_
          · intro h31
            have h31 := dcd_t (h31)
            refine Cw_region ?_
            refine Ow_q rfl rfl rfl (Qt_move rfl) ?_
            refine Ow_q rfl rfl rfl (Qt_fieldAddr (m := 1) rfl rfl rfl rfl rfl) ?_
            refine Ow_q rfl rfl rfl (Qt_fieldAddr (m := 2) rfl rfl rfl rfl rfl) ?_
            refine Ow_q rfl rfl rfl (Qt_load1 (v := (.int .i64 ((((((((Cd.mk c.list at1 c.value).next th).2).next 9).2).next 4).1 : Nat) : Int))) rfl rfl rfl (Rdc.blk (.head _) rfl)) ?_
            obtain ⟨x32, hx33⟩ : ∃ x, W[((((((Cd.mk c.list at1 c.value).next th).2).next 9).2).next 4).1]? = some x := ⟨_, List.getElem?_eq_getElem (by first | omega | (simp only [List.length_append, List.length_cons, List.length_nil, List.length_replicate, List.length_set]; omega) | (simp; omega))⟩
            refine Ow_q rfl rfl rfl (Qt_ixG (q := ((((((Cd.mk c.list at1 c.value).next th).2).next 9).2).next 4).1) (o := (((((((Cd.mk c.list at1 c.value).next th).2).next 9).2).next 4).1) * 1 + 0) rfl rfl rfl rfl rfl rfl (by first | omega | (simp only [List.length_append, List.length_cons, List.length_nil, List.length_replicate, List.length_set]; omega) | (simp; omega)) rfl) ?_
            refine Ow_q rfl rfl rfl (Qt_load1 (v := (.int .u64 x32)) rfl rfl rfl (Rdc.rowT (.tail _ (.tail _ (.head _))) Enc.u64 hx33 rfl rfl)) ?_
            refine Ow_q rfl rfl rfl (Qt_fieldAddr (m := 6) rfl rfl rfl rfl rfl) ?_
            refine Ow_cons rfl (OpW_store (vs := [(.int .u64 x32)]) (all' := [(.int .i64 ((((Cd.mk c.list at1 c.value).next th).1 : Nat) : Int)), (.int .i64 (((((((Cd.mk c.list at1 c.value).next th).2).next 9).1 : Nat) : Int) + 1)), (.int .i64 ((((((((Cd.mk c.list at1 c.value).next th).2).next 9).2).next 4).1 : Nat) : Int)), (.int .u64 ((((((((((Cd.mk c.list at1 c.value).next th).2).next 9).2).next 4).2).next 3).1 : Nat) : Int)), (.int .u64 ((((((((((((Cd.mk c.list at1 c.value).next th).2).next 9).2).next 4).2).next 3).2).next 3).1 : Nat) : Int)), (.int .i64 0), (.int .u64 x32), (.bool false)]) rfl rfl rfl rfl rfl .here rfl rfl rfl ?_)
            refine Ow_nil ?_
            refine Cw_region ?_
            refine Ow_q rfl rfl rfl (Qt_move rfl) ?_
            refine Ow_q rfl rfl rfl (Qt_loadA (m := 8) (cs := Item.cells (Item.mk ((((Cd.mk c.list at1 c.value).next th).1 : Nat) : Int) (Access.mk (((((((Cd.mk c.list at1 c.value).next th).2).next 9).1 : Nat) : Int) + 1) ((((((((Cd.mk c.list at1 c.value).next th).2).next 9).2).next 4).1 : Nat) : Int) ((((((((((Cd.mk c.list at1 c.value).next th).2).next 9).2).next 4).2).next 3).1 : Nat) : Int) ((((((((((((Cd.mk c.list at1 c.value).next th).2).next 9).2).next 4).2).next 3).2).next 3).1 : Nat) : Int) 0) x32 false)) rfl rfl rfl rfl ⟨rfl, Rdc.blk (.head _) rfl⟩) ?_
            refine Ow_cons rfl (OpW_buildSliceX (xs := (([(Item.mk ((((Cd.mk c.list at1 c.value).next th).1 : Nat) : Int) (Access.mk (((((((Cd.mk c.list at1 c.value).next th).2).next 9).1 : Nat) : Int) + 1) ((((((((Cd.mk c.list at1 c.value).next th).2).next 9).2).next 4).1 : Nat) : Int) ((((((((((Cd.mk c.list at1 c.value).next th).2).next 9).2).next 4).2).next 3).1 : Nat) : Int) ((((((((((((Cd.mk c.list at1 c.value).next th).2).next 9).2).next 4).2).next 3).2).next 3).1 : Nat) : Int) 0) x32 false)]).map Item.cells).flatten) rfl rfl rfl rfl rfl rfl rfl rfl rfl rfl rfl (fun a34 => ?_))
            refine Ow_cons rfl (OpW_appendT (bytes := 64) (L := L) (M := [(Item.mk ((((Cd.mk c.list at1 c.value).next th).1 : Nat) : Int) (Access.mk (((((((Cd.mk c.list at1 c.value).next th).2).next 9).1 : Nat) : Int) + 1) ((((((((Cd.mk c.list at1 c.value).next th).2).next 9).2).next 4).1 : Nat) : Int) ((((((((((Cd.mk c.list at1 c.value).next th).2).next 9).2).next 4).2).next 3).1 : Nat) : Int) ((((((((((((Cd.mk c.list at1 c.value).next th).2).next 9).2).next 4).2).next 3).2).next 3).1 : Nat) : Int) 0) x32 false)]) Enc.item rfl rfl rfl (.tail _ (.tail _ (.head _))) (Src.row (.head _)) rfl rfl rfl rfl rfl rfl rfl rfl rfl (by first | omega | (simp only [List.length_append, List.length_cons, List.length_nil, List.length_replicate, List.length_set]; omega) | (simp; omega)) (by first | omega | (simp only [List.length_append, List.length_cons, List.length_nil, List.length_replicate, List.length_set]; omega) | (simp; omega)) ?_)
            intro A35 cp36 hA37
            obtain ⟨a38, rfl⟩ := hA37 (by simp)
            refine ⟨_, (.there (.there .here)), ?_⟩
            refine Ow_q rfl rfl rfl (Qt_assign rfl) ?_
            refine Ow_nil ?_
            refine ⟨_, [(0, (.pointer (some ((⟨b, 0, none⟩ : Addr).add 0)))), (1, (.int .i64 ((th : Nat) : Int))), (2, (.int .i64 ((m : Nat) : Int))), (7, (.slice (some a38) ((L ++ [(Item.mk ((((Cd.mk c.list at1 c.value).next th).1 : Nat) : Int) (Access.mk (((((((Cd.mk c.list at1 c.value).next th).2).next 9).1 : Nat) : Int) + 1) ((((((((Cd.mk c.list at1 c.value).next th).2).next 9).2).next 4).1 : Nat) : Int) ((((((((((Cd.mk c.list at1 c.value).next th).2).next 9).2).next 4).2).next 3).1 : Nat) : Int) ((((((((((((Cd.mk c.list at1 c.value).next th).2).next 9).2).next 4).2).next 3).2).next 3).1 : Nat) : Int) 0) x32 false)]).length) cp36)), (8, (.slice (some a1) ((List.replicate 4 (0 : Int)).length) 4))], .row (.slice (some a38) ((L ++ [(Item.mk ((((Cd.mk c.list at1 c.value).next th).1 : Nat) : Int) (Access.mk (((((((Cd.mk c.list at1 c.value).next th).2).next 9).1 : Nat) : Int) + 1) ((((((((Cd.mk c.list at1 c.value).next th).2).next 9).2).next 4).1 : Nat) : Int) ((((((((((Cd.mk c.list at1 c.value).next th).2).next 9).2).next 4).2).next 3).1 : Nat) : Int) ((((((((((((Cd.mk c.list at1 c.value).next th).2).next 9).2).next 4).2).next 3).2).next 3).1 : Nat) : Int) 0) x32 false)]).length) cp36) 26 8 ((((L ++ [(Item.mk ((((Cd.mk c.list at1 c.value).next th).1 : Nat) : Int) (Access.mk (((((((Cd.mk c.list at1 c.value).next th).2).next 9).1 : Nat) : Int) + 1) ((((((((Cd.mk c.list at1 c.value).next th).2).next 9).2).next 4).1 : Nat) : Int) ((((((((((Cd.mk c.list at1 c.value).next th).2).next 9).2).next 4).2).next 3).1 : Nat) : Int) ((((((((((((Cd.mk c.list at1 c.value).next th).2).next 9).2).next 4).2).next 3).2).next 3).1 : Nat) : Int) 0) x32 false)])).map Item.cells).flatten) :: .row (.slice (some a1) ((List.replicate 4 (0 : Int)).length) 4) 22 1 (((W).map u64c).flatten) :: .blk b 70 [(.slice A ((Cd.mk c.list ((((((((((((Cd.mk c.list at1 c.value).next th).2).next 9).2).next 4).2).next 3).2).next 3).2).at_) c.value).list.length) cp), (.int .i64 (((Cd.mk c.list ((((((((((((Cd.mk c.list at1 c.value).next th).2).next 9).2).next 4).2).next 3).2).next 3).2).at_) c.value).at_ : Nat) : Int)), (.int .u64 ((Cd.mk c.list ((((((((((((Cd.mk c.list at1 c.value).next th).2).next 9).2).next 4).2).next 3).2).next 3).2).at_) c.value).value))] :: G, ⟨rfl, rfl, rfl, rfl, rfl, trivial⟩, (.cons _ (.cons _ (.cons_cons _ (.cons_cons _ (.cons_cons _ (.refl _)))))), (by first | omega | (simp only [List.length_append, List.length_cons, List.length_nil]; omega)), (some a38), cp36, (L ++ [(Item.mk ((((Cd.mk c.list at1 c.value).next th).1 : Nat) : Int) (Access.mk (((((((Cd.mk c.list at1 c.value).next th).2).next 9).1 : Nat) : Int) + 1) ((((((((Cd.mk c.list at1 c.value).next th).2).next 9).2).next 4).1 : Nat) : Int) ((((((((((Cd.mk c.list at1 c.value).next th).2).next 9).2).next 4).2).next 3).1 : Nat) : Int) ((((((((((((Cd.mk c.list at1 c.value).next th).2).next 9).2).next 4).2).next 3).2).next 3).1 : Nat) : Int) 0) x32 false)]), (((((((((((Cd.mk c.list at1 c.value).next th).2).next 9).2).next 4).2).next 3).2).next 3).2).at_, W, rfl, rfl, rfl, rfl, (by first | omega | (simp only [List.length_append, List.length_cons, List.length_nil, List.length_replicate, List.length_set]; omega) | (simp; omega)), (by first | omega | (simp; done) | (simp; omega) | (simp_all; done)), (ok_snoc hok (by simp only [okItem]; omega))⟩
          · intro h31
            have h31 := dcd_f (h31)
            refine Cw_seq ?_
            refine Cw_seq ?_
            refine Cw_region ?_
            refine Ow_q rfl rfl rfl (Qt_cmp rfl rfl rfl) ?_
            refine Ow_q rfl rfl rfl (Qt_assign rfl) ?_
            refine Ow_nil ?_
            refine Cw_cond rfl ?_ ?_
            · intro h39
              have h39 := dcd_t (h39)
              refine Cw_skip ?_
              refine Cw_cond_kt rfl (dcd_pos h39) ?_
              refine Cw_region ?_
              refine Ow_q rfl rfl rfl (Qt_move rfl) ?_
              refine Ow_q rfl rfl rfl (Qt_fieldAddr (m := 1) rfl rfl rfl rfl rfl) ?_
              refine Ow_q rfl rfl rfl (Qt_fieldAddr (m := 2) rfl rfl rfl rfl rfl) ?_
              refine Ow_q rfl rfl rfl (Qt_load1 (v := (.int .i64 ((((((((Cd.mk c.list at1 c.value).next th).2).next 9).2).next 4).1 : Nat) : Int))) rfl rfl rfl (Rdc.blk (.head _) rfl)) ?_
              refine Ow_q rfl rfl rfl (Qt_fieldAddr (m := 1) rfl rfl rfl rfl rfl) ?_
              refine Ow_q rfl rfl rfl (Qt_fieldAddr (m := 4) rfl rfl rfl rfl rfl) ?_
              refine Ow_q rfl rfl rfl (Qt_load1 (v := (.int .u64 ((((((((((((Cd.mk c.list at1 c.value).next th).2).next 9).2).next 4).2).next 3).2).next 3).1 : Nat) : Int))) rfl rfl rfl (Rdc.blk (.head _) rfl)) ?_
              obtain ⟨x40, hx41⟩ : ∃ x, W[((((((Cd.mk c.list at1 c.value).next th).2).next 9).2).next 4).1]? = some x := ⟨_, List.getElem?_eq_getElem (by first | omega | (simp only [List.length_append, List.length_cons, List.length_nil, List.length_replicate, List.length_set]; omega) | (simp; omega))⟩
              refine Ow_q rfl rfl rfl (Qt_ixG (q := ((((((Cd.mk c.list at1 c.value).next th).2).next 9).2).next 4).1) (o := (((((((Cd.mk c.list at1 c.value).next th).2).next 9).2).next 4).1) * 1 + 0) rfl rfl rfl rfl rfl rfl (by first | omega | (simp only [List.length_append, List.length_cons, List.length_nil, List.length_replicate, List.length_set]; omega) | (simp; omega)) rfl) ?_
              refine Ow_cons rfl (OpW_storeRowT (q := (((((((Cd.mk c.list at1 c.value).next th).2).next 9).2).next 4).1)) (off := 0) (vs := [(.int .u64 ((((((((((((Cd.mk c.list at1 c.value).next th).2).next 9).2).next 4).2).next 3).2).next 3).1 : Nat) : Int))]) (L := W) (z' := ((((((((((((Cd.mk c.list at1 c.value).next th).2).next 9).2).next 4).2).next 3).2).next 3).1 : Nat) : Int)) Enc.u64 rfl rfl rfl rfl rfl hx41 rfl rfl rfl (.there (.there .here)) ?_)
              refine Ow_nil ?_
              refine Cw_region ?_
              refine Ow_q rfl rfl rfl (Qt_move rfl) ?_
              refine Ow_q rfl rfl rfl (Qt_loadA (m := 8) (cs := Item.cells (Item.mk ((((Cd.mk c.list at1 c.value).next th).1 : Nat) : Int) (Access.mk (((((((Cd.mk c.list at1 c.value).next th).2).next 9).1 : Nat) : Int) + 1) ((((((((Cd.mk c.list at1 c.value).next th).2).next 9).2).next 4).1 : Nat) : Int) ((((((((((Cd.mk c.list at1 c.value).next th).2).next 9).2).next 4).2).next 3).1 : Nat) : Int) ((((((((((((Cd.mk c.list at1 c.value).next th).2).next 9).2).next 4).2).next 3).2).next 3).1 : Nat) : Int) 0) 0 false)) rfl rfl rfl rfl ⟨rfl, Rdc.blk (.head _) rfl⟩) ?_
              refine Ow_cons rfl (OpW_buildSliceX (xs := (([(Item.mk ((((Cd.mk c.list at1 c.value).next th).1 : Nat) : Int) (Access.mk (((((((Cd.mk c.list at1 c.value).next th).2).next 9).1 : Nat) : Int) + 1) ((((((((Cd.mk c.list at1 c.value).next th).2).next 9).2).next 4).1 : Nat) : Int) ((((((((((Cd.mk c.list at1 c.value).next th).2).next 9).2).next 4).2).next 3).1 : Nat) : Int) ((((((((((((Cd.mk c.list at1 c.value).next th).2).next 9).2).next 4).2).next 3).2).next 3).1 : Nat) : Int) 0) 0 false)]).map Item.cells).flatten) rfl rfl rfl rfl rfl rfl rfl rfl rfl rfl rfl (fun a42 => ?_))
              refine Ow_cons rfl (OpW_appendT (bytes := 64) (L := L) (M := [(Item.mk ((((Cd.mk c.list at1 c.value).next th).1 : Nat) : Int) (Access.mk (((((((Cd.mk c.list at1 c.value).next th).2).next 9).1 : Nat) : Int) + 1) ((((((((Cd.mk c.list at1 c.value).next th).2).next 9).2).next 4).1 : Nat) : Int) ((((((((((Cd.mk c.list at1 c.value).next th).2).next 9).2).next 4).2).next 3).1 : Nat) : Int) ((((((((((((Cd.mk c.list at1 c.value).next th).2).next 9).2).next 4).2).next 3).2).next 3).1 : Nat) : Int) 0) 0 false)]) Enc.item rfl rfl rfl (.tail _ (.tail _ (.head _))) (Src.row (.head _)) rfl rfl rfl rfl rfl rfl rfl rfl rfl (by first | omega | (simp only [List.length_append, List.length_cons, List.length_nil, List.length_replicate, List.length_set]; omega) | (simp; omega)) (by first | omega | (simp only [List.length_append, List.length_cons, List.length_nil, List.length_replicate, List.length_set]; omega) | (simp; omega)) ?_)
              intro A43 cp44 hA45
              obtain ⟨a46, rfl⟩ := hA45 (by simp)
              refine ⟨_, (.there (.there .here)), ?_⟩
              refine Ow_q rfl rfl rfl (Qt_assign rfl) ?_
              refine Ow_nil ?_
              refine ⟨_, [(0, (.pointer (some ((⟨b, 0, none⟩ : Addr).add 0)))), (1, (.int .i64 ((th : Nat) : Int))), (2, (.int .i64 ((m : Nat) : Int))), (7, (.slice (some a46) ((L ++ [(Item.mk ((((Cd.mk c.list at1 c.value).next th).1 : Nat) : Int) (Access.mk (((((((Cd.mk c.list at1 c.value).next th).2).next 9).1 : Nat) : Int) + 1) ((((((((Cd.mk c.list at1 c.value).next th).2).next 9).2).next 4).1 : Nat) : Int) ((((((((((Cd.mk c.list at1 c.value).next th).2).next 9).2).next 4).2).next 3).1 : Nat) : Int) ((((((((((((Cd.mk c.list at1 c.value).next th).2).next 9).2).next 4).2).next 3).2).next 3).1 : Nat) : Int) 0) 0 false)]).length) cp44)), (8, (.slice (some a1) ((List.replicate 4 (0 : Int)).length) 4))], .row (.slice (some a46) ((L ++ [(Item.mk ((((Cd.mk c.list at1 c.value).next th).1 : Nat) : Int) (Access.mk (((((((Cd.mk c.list at1 c.value).next th).2).next 9).1 : Nat) : Int) + 1) ((((((((Cd.mk c.list at1 c.value).next th).2).next 9).2).next 4).1 : Nat) : Int) ((((((((((Cd.mk c.list at1 c.value).next th).2).next 9).2).next 4).2).next 3).1 : Nat) : Int) ((((((((((((Cd.mk c.list at1 c.value).next th).2).next 9).2).next 4).2).next 3).2).next 3).1 : Nat) : Int) 0) 0 false)]).length) cp44) 26 8 ((((L ++ [(Item.mk ((((Cd.mk c.list at1 c.value).next th).1 : Nat) : Int) (Access.mk (((((((Cd.mk c.list at1 c.value).next th).2).next 9).1 : Nat) : Int) + 1) ((((((((Cd.mk c.list at1 c.value).next th).2).next 9).2).next 4).1 : Nat) : Int) ((((((((((Cd.mk c.list at1 c.value).next th).2).next 9).2).next 4).2).next 3).1 : Nat) : Int) ((((((((((((Cd.mk c.list at1 c.value).next th).2).next 9).2).next 4).2).next 3).2).next 3).1 : Nat) : Int) 0) 0 false)])).map Item.cells).flatten) :: .row (.slice (some a1) ((List.replicate 4 (0 : Int)).length) 4) 22 1 ((((W.set (((((((Cd.mk c.list at1 c.value).next th).2).next 9).2).next 4).1) ((((((((((((Cd.mk c.list at1 c.value).next th).2).next 9).2).next 4).2).next 3).2).next 3).1 : Nat) : Int))).map u64c).flatten) :: .blk b 70 [(.slice A ((Cd.mk c.list ((((((((((((Cd.mk c.list at1 c.value).next th).2).next 9).2).next 4).2).next 3).2).next 3).2).at_) c.value).list.length) cp), (.int .i64 (((Cd.mk c.list ((((((((((((Cd.mk c.list at1 c.value).next th).2).next 9).2).next 4).2).next 3).2).next 3).2).at_) c.value).at_ : Nat) : Int)), (.int .u64 ((Cd.mk c.list ((((((((((((Cd.mk c.list at1 c.value).next th).2).next 9).2).next 4).2).next 3).2).next 3).2).at_) c.value).value))] :: G, ⟨rfl, rfl, rfl, rfl, rfl, trivial⟩, (.cons _ (.cons _ (.cons_cons _ (.cons_cons _ (.cons_cons _ (.refl _)))))), (by first | omega | (simp only [List.length_append, List.length_cons, List.length_nil]; omega)), (some a46), cp44, (L ++ [(Item.mk ((((Cd.mk c.list at1 c.value).next th).1 : Nat) : Int) (Access.mk (((((((Cd.mk c.list at1 c.value).next th).2).next 9).1 : Nat) : Int) + 1) ((((((((Cd.mk c.list at1 c.value).next th).2).next 9).2).next 4).1 : Nat) : Int) ((((((((((Cd.mk c.list at1 c.value).next th).2).next 9).2).next 4).2).next 3).1 : Nat) : Int) ((((((((((((Cd.mk c.list at1 c.value).next th).2).next 9).2).next 4).2).next 3).2).next 3).1 : Nat) : Int) 0) 0 false)]), (((((((((((Cd.mk c.list at1 c.value).next th).2).next 9).2).next 4).2).next 3).2).next 3).2).at_, (W.set (((((((Cd.mk c.list at1 c.value).next th).2).next 9).2).next 4).1) ((((((((((((Cd.mk c.list at1 c.value).next th).2).next 9).2).next 4).2).next 3).2).next 3).1 : Nat) : Int)), rfl, rfl, rfl, rfl, (by first | omega | (simp only [List.length_append, List.length_cons, List.length_nil, List.length_replicate, List.length_set]; omega) | (simp; omega)), (by first | omega | (simp; done) | (simp; omega) | (simp_all; done)), (ok_snoc hok (by simp only [okItem]; omega))⟩
            · intro h39
              have h39 := dcd_f (h39)
              refine Cw_region ?_
              refine Ow_q rfl rfl rfl (Qt_cmp rfl rfl rfl) ?_
              refine Ow_q rfl rfl rfl (Qt_assign rfl) ?_
              refine Ow_nil ?_
              refine Cw_cond rfl ?_ ?_
              · intro h47
                have h47 := dcd_t (h47)
                refine Cw_region ?_
                refine Ow_q rfl rfl rfl (Qt_move rfl) ?_
                refine Ow_q rfl rfl rfl (Qt_fieldAddr (m := 1) rfl rfl rfl rfl rfl) ?_
                refine Ow_q rfl rfl rfl (Qt_fieldAddr (m := 2) rfl rfl rfl rfl rfl) ?_
                refine Ow_q rfl rfl rfl (Qt_load1 (v := (.int .i64 ((((((((Cd.mk c.list at1 c.value).next th).2).next 9).2).next 4).1 : Nat) : Int))) rfl rfl rfl (Rdc.blk (.head _) rfl)) ?_
                refine Ow_q rfl rfl rfl (Qt_fieldAddr (m := 1) rfl rfl rfl rfl rfl) ?_
                refine Ow_q rfl rfl rfl (Qt_fieldAddr (m := 4) rfl rfl rfl rfl rfl) ?_
                refine Ow_q rfl rfl rfl (Qt_load1 (v := (.int .u64 ((((((((((((Cd.mk c.list at1 c.value).next th).2).next 9).2).next 4).2).next 3).2).next 3).1 : Nat) : Int))) rfl rfl rfl (Rdc.blk (.head _) rfl)) ?_
                obtain ⟨x48, hx49⟩ : ∃ x, W[((((((Cd.mk c.list at1 c.value).next th).2).next 9).2).next 4).1]? = some x := ⟨_, List.getElem?_eq_getElem (by first | omega | (simp only [List.length_append, List.length_cons, List.length_nil, List.length_replicate, List.length_set]; omega) | (simp; omega))⟩
                refine Ow_q rfl rfl rfl (Qt_ixG (q := ((((((Cd.mk c.list at1 c.value).next th).2).next 9).2).next 4).1) (o := (((((((Cd.mk c.list at1 c.value).next th).2).next 9).2).next 4).1) * 1 + 0) rfl rfl rfl rfl rfl rfl (by first | omega | (simp only [List.length_append, List.length_cons, List.length_nil, List.length_replicate, List.length_set]; omega) | (simp; omega)) rfl) ?_
                refine Ow_cons rfl (OpW_storeRowT (q := (((((((Cd.mk c.list at1 c.value).next th).2).next 9).2).next 4).1)) (off := 0) (vs := [(.int .u64 ((((((((((((Cd.mk c.list at1 c.value).next th).2).next 9).2).next 4).2).next 3).2).next 3).1 : Nat) : Int))]) (L := W) (z' := ((((((((((((Cd.mk c.list at1 c.value).next th).2).next 9).2).next 4).2).next 3).2).next 3).1 : Nat) : Int)) Enc.u64 rfl rfl rfl rfl rfl hx49 rfl rfl rfl (.there (.there .here)) ?_)
                refine Ow_nil ?_
                refine Cw_region ?_
                refine Ow_q rfl rfl rfl (Qt_move rfl) ?_
                refine Ow_q rfl rfl rfl (Qt_loadA (m := 8) (cs := Item.cells (Item.mk ((((Cd.mk c.list at1 c.value).next th).1 : Nat) : Int) (Access.mk (((((((Cd.mk c.list at1 c.value).next th).2).next 9).1 : Nat) : Int) + 1) ((((((((Cd.mk c.list at1 c.value).next th).2).next 9).2).next 4).1 : Nat) : Int) ((((((((((Cd.mk c.list at1 c.value).next th).2).next 9).2).next 4).2).next 3).1 : Nat) : Int) ((((((((((((Cd.mk c.list at1 c.value).next th).2).next 9).2).next 4).2).next 3).2).next 3).1 : Nat) : Int) 0) 0 false)) rfl rfl rfl rfl ⟨rfl, Rdc.blk (.head _) rfl⟩) ?_
                refine Ow_cons rfl (OpW_buildSliceX (xs := (([(Item.mk ((((Cd.mk c.list at1 c.value).next th).1 : Nat) : Int) (Access.mk (((((((Cd.mk c.list at1 c.value).next th).2).next 9).1 : Nat) : Int) + 1) ((((((((Cd.mk c.list at1 c.value).next th).2).next 9).2).next 4).1 : Nat) : Int) ((((((((((Cd.mk c.list at1 c.value).next th).2).next 9).2).next 4).2).next 3).1 : Nat) : Int) ((((((((((((Cd.mk c.list at1 c.value).next th).2).next 9).2).next 4).2).next 3).2).next 3).1 : Nat) : Int) 0) 0 false)]).map Item.cells).flatten) rfl rfl rfl rfl rfl rfl rfl rfl rfl rfl rfl (fun a50 => ?_))
                refine Ow_cons rfl (OpW_appendT (bytes := 64) (L := L) (M := [(Item.mk ((((Cd.mk c.list at1 c.value).next th).1 : Nat) : Int) (Access.mk (((((((Cd.mk c.list at1 c.value).next th).2).next 9).1 : Nat) : Int) + 1) ((((((((Cd.mk c.list at1 c.value).next th).2).next 9).2).next 4).1 : Nat) : Int) ((((((((((Cd.mk c.list at1 c.value).next th).2).next 9).2).next 4).2).next 3).1 : Nat) : Int) ((((((((((((Cd.mk c.list at1 c.value).next th).2).next 9).2).next 4).2).next 3).2).next 3).1 : Nat) : Int) 0) 0 false)]) Enc.item rfl rfl rfl (.tail _ (.tail _ (.head _))) (Src.row (.head _)) rfl rfl rfl rfl rfl rfl rfl rfl rfl (by first | omega | (simp only [List.length_append, List.length_cons, List.length_nil, List.length_replicate, List.length_set]; omega) | (simp; omega)) (by first | omega | (simp only [List.length_append, List.length_cons, List.length_nil, List.length_replicate, List.length_set]; omega) | (simp; omega)) ?_)
                intro A51 cp52 hA53
                obtain ⟨a54, rfl⟩ := hA53 (by simp)
                refine ⟨_, (.there (.there .here)), ?_⟩
                refine Ow_q rfl rfl rfl (Qt_assign rfl) ?_
                refine Ow_nil ?_
                refine ⟨_, [(0, (.pointer (some ((⟨b, 0, none⟩ : Addr).add 0)))), (1, (.int .i64 ((th : Nat) : Int))), (2, (.int .i64 ((m : Nat) : Int))), (7, (.slice (some a54) ((L ++ [(Item.mk ((((Cd.mk c.list at1 c.value).next th).1 : Nat) : Int) (Access.mk (((((((Cd.mk c.list at1 c.value).next th).2).next 9).1 : Nat) : Int) + 1) ((((((((Cd.mk c.list at1 c.value).next th).2).next 9).2).next 4).1 : Nat) : Int) ((((((((((Cd.mk c.list at1 c.value).next th).2).next 9).2).next 4).2).next 3).1 : Nat) : Int) ((((((((((((Cd.mk c.list at1 c.value).next th).2).next 9).2).next 4).2).next 3).2).next 3).1 : Nat) : Int) 0) 0 false)]).length) cp52)), (8, (.slice (some a1) ((List.replicate 4 (0 : Int)).length) 4))], .row (.slice (some a54) ((L ++ [(Item.mk ((((Cd.mk c.list at1 c.value).next th).1 : Nat) : Int) (Access.mk (((((((Cd.mk c.list at1 c.value).next th).2).next 9).1 : Nat) : Int) + 1) ((((((((Cd.mk c.list at1 c.value).next th).2).next 9).2).next 4).1 : Nat) : Int) ((((((((((Cd.mk c.list at1 c.value).next th).2).next 9).2).next 4).2).next 3).1 : Nat) : Int) ((((((((((((Cd.mk c.list at1 c.value).next th).2).next 9).2).next 4).2).next 3).2).next 3).1 : Nat) : Int) 0) 0 false)]).length) cp52) 26 8 ((((L ++ [(Item.mk ((((Cd.mk c.list at1 c.value).next th).1 : Nat) : Int) (Access.mk (((((((Cd.mk c.list at1 c.value).next th).2).next 9).1 : Nat) : Int) + 1) ((((((((Cd.mk c.list at1 c.value).next th).2).next 9).2).next 4).1 : Nat) : Int) ((((((((((Cd.mk c.list at1 c.value).next th).2).next 9).2).next 4).2).next 3).1 : Nat) : Int) ((((((((((((Cd.mk c.list at1 c.value).next th).2).next 9).2).next 4).2).next 3).2).next 3).1 : Nat) : Int) 0) 0 false)])).map Item.cells).flatten) :: .row (.slice (some a1) ((List.replicate 4 (0 : Int)).length) 4) 22 1 ((((W.set (((((((Cd.mk c.list at1 c.value).next th).2).next 9).2).next 4).1) ((((((((((((Cd.mk c.list at1 c.value).next th).2).next 9).2).next 4).2).next 3).2).next 3).1 : Nat) : Int))).map u64c).flatten) :: .blk b 70 [(.slice A ((Cd.mk c.list ((((((((((((Cd.mk c.list at1 c.value).next th).2).next 9).2).next 4).2).next 3).2).next 3).2).at_) c.value).list.length) cp), (.int .i64 (((Cd.mk c.list ((((((((((((Cd.mk c.list at1 c.value).next th).2).next 9).2).next 4).2).next 3).2).next 3).2).at_) c.value).at_ : Nat) : Int)), (.int .u64 ((Cd.mk c.list ((((((((((((Cd.mk c.list at1 c.value).next th).2).next 9).2).next 4).2).next 3).2).next 3).2).at_) c.value).value))] :: G, ⟨rfl, rfl, rfl, rfl, rfl, trivial⟩, (.cons _ (.cons _ (.cons_cons _ (.cons_cons _ (.cons_cons _ (.refl _)))))), (by first | omega | (simp only [List.length_append, List.length_cons, List.length_nil]; omega)), (some a54), cp52, (L ++ [(Item.mk ((((Cd.mk c.list at1 c.value).next th).1 : Nat) : Int) (Access.mk (((((((Cd.mk c.list at1 c.value).next th).2).next 9).1 : Nat) : Int) + 1) ((((((((Cd.mk c.list at1 c.value).next th).2).next 9).2).next 4).1 : Nat) : Int) ((((((((((Cd.mk c.list at1 c.value).next th).2).next 9).2).next 4).2).next 3).1 : Nat) : Int) ((((((((((((Cd.mk c.list at1 c.value).next th).2).next 9).2).next 4).2).next 3).2).next 3).1 : Nat) : Int) 0) 0 false)]), (((((((((((Cd.mk c.list at1 c.value).next th).2).next 9).2).next 4).2).next 3).2).next 3).2).at_, (W.set (((((((Cd.mk c.list at1 c.value).next th).2).next 9).2).next 4).1) ((((((((((((Cd.mk c.list at1 c.value).next th).2).next 9).2).next 4).2).next 3).2).next 3).1 : Nat) : Int)), rfl, rfl, rfl, rfl, (by first | omega | (simp only [List.length_append, List.length_cons, List.length_nil, List.length_replicate, List.length_set]; omega) | (simp; omega)), (by first | omega | (simp; done) | (simp; omega) | (simp_all; done)), (ok_snoc hok (by simp only [okItem]; omega))⟩
              · intro h47
                have h47 := dcd_f (h47)
                refine Cw_seq ?_
                refine Cw_region ?_
                refine Ow_q rfl rfl rfl (Qt_cmp rfl rfl rfl) ?_
                refine Ow_q rfl rfl rfl (Qt_assign rfl) ?_
                refine Ow_nil ?_
                refine Cw_cond rfl ?_ ?_
                · intro h55
                  have h55 := dcd_t (h55)
                  refine Cw_seq ?_
                  refine Cw_region ?_
                  refine Ow_q rfl rfl rfl (Qt_move rfl) ?_
                  refine Ow_q rfl rfl rfl (Qt_fieldAddr (m := 1) rfl rfl rfl rfl rfl) ?_
                  refine Ow_q rfl rfl rfl (Qt_fieldAddr (m := 2) rfl rfl rfl rfl rfl) ?_
                  refine Ow_q rfl rfl rfl (Qt_load1 (v := (.int .i64 ((((((((Cd.mk c.list at1 c.value).next th).2).next 9).2).next 4).1 : Nat) : Int))) rfl rfl rfl (Rdc.blk (.head _) rfl)) ?_
                  obtain ⟨x56, hx57⟩ : ∃ x, W[((((((Cd.mk c.list at1 c.value).next th).2).next 9).2).next 4).1]? = some x := ⟨_, List.getElem?_eq_getElem (by first | omega | (simp only [List.length_append, List.length_cons, List.length_nil, List.length_replicate, List.length_set]; omega) | (simp; omega))⟩
                  refine Ow_q rfl rfl rfl (Qt_ixG (q := ((((((Cd.mk c.list at1 c.value).next th).2).next 9).2).next 4).1) (o := (((((((Cd.mk c.list at1 c.value).next th).2).next 9).2).next 4).1) * 1 + 0) rfl rfl rfl rfl rfl rfl (by first | omega | (simp only [List.length_append, List.length_cons, List.length_nil, List.length_replicate, List.length_set]; omega) | (simp; omega)) rfl) ?_
                  refine Ow_q rfl rfl rfl (Qt_load1 (v := (.int .u64 x56)) rfl rfl rfl (Rdc.rowT (.tail _ (.tail _ (.head _))) Enc.u64 hx57 rfl rfl)) ?_
                  refine Ow_q rfl rfl rfl (Qt_fieldAddr (m := 6) rfl rfl rfl rfl rfl) ?_
                  refine Ow_cons rfl (OpW_store (vs := [(.int .u64 x56)]) (all' := [(.int .i64 ((((Cd.mk c.list at1 c.value).next th).1 : Nat) : Int)), (.int .i64 (((((((Cd.mk c.list at1 c.value).next th).2).next 9).1 : Nat) : Int) + 1)), (.int .i64 ((((((((Cd.mk c.list at1 c.value).next th).2).next 9).2).next 4).1 : Nat) : Int)), (.int .u64 ((((((((((Cd.mk c.list at1 c.value).next th).2).next 9).2).next 4).2).next 3).1 : Nat) : Int)), (.int .u64 ((((((((((((Cd.mk c.list at1 c.value).next th).2).next 9).2).next 4).2).next 3).2).next 3).1 : Nat) : Int)), (.int .i64 0), (.int .u64 x56), (.bool false)]) rfl rfl rfl rfl rfl .here rfl rfl rfl ?_)
                  refine Ow_nil ?_
                  refine Cw_seq ?_
                  refine Cw_region ?_
                  refine Ow_q rfl rfl rfl (Qt_fieldAddr (m := 6) rfl rfl rfl rfl rfl) ?_
                  refine Ow_q rfl rfl rfl (Qt_load1 (v := (.int .u64 x56)) rfl rfl rfl (Rdc.blk (.head _) rfl)) ?_
                  refine Ow_q rfl rfl rfl (Qt_fieldAddr (m := 1) rfl rfl rfl rfl rfl) ?_
                  refine Ow_q rfl rfl rfl (Qt_fieldAddr (m := 3) rfl rfl rfl rfl rfl) ?_
                  refine Ow_q rfl rfl rfl (Qt_load1 (v := (.int .u64 ((((((((((Cd.mk c.list at1 c.value).next th).2).next 9).2).next 4).2).next 3).1 : Nat) : Int))) rfl rfl rfl (Rdc.blk (.head _) rfl)) ?_
                  refine Ow_q rfl rfl rfl (Qt_cmp rfl rfl rfl) ?_
                  refine Ow_nil ?_
                  refine Cw_cond rfl ?_ ?_
                  · intro h58
                    have h58 := dcd_t (h58)
                    refine Cw_seq ?_
                    refine Cw_region ?_
                    refine Ow_q rfl rfl rfl (Qt_fieldAddr (m := 7) rfl rfl rfl rfl rfl) ?_
                    refine Ow_cons rfl (OpW_store (vs := [(.bool true)]) (all' := [(.int .i64 ((((Cd.mk c.list at1 c.value).next th).1 : Nat) : Int)), (.int .i64 (((((((Cd.mk c.list at1 c.value).next th).2).next 9).1 : Nat) : Int) + 1)), (.int .i64 ((((((((Cd.mk c.list at1 c.value).next th).2).next 9).2).next 4).1 : Nat) : Int)), (.int .u64 ((((((((((Cd.mk c.list at1 c.value).next th).2).next 9).2).next 4).2).next 3).1 : Nat) : Int)), (.int .u64 ((((((((((((Cd.mk c.list at1 c.value).next th).2).next 9).2).next 4).2).next 3).2).next 3).1 : Nat) : Int)), (.int .i64 0), (.int .u64 x56), (.bool true)]) rfl rfl rfl rfl rfl .here rfl rfl rfl ?_)
                    refine Ow_nil ?_
                    refine Cw_region ?_
                    refine Ow_q rfl rfl rfl (Qt_move rfl) ?_
                    refine Ow_q rfl rfl rfl (Qt_fieldAddr (m := 1) rfl rfl rfl rfl rfl) ?_
                    refine Ow_q rfl rfl rfl (Qt_fieldAddr (m := 2) rfl rfl rfl rfl rfl) ?_
                    refine Ow_q rfl rfl rfl (Qt_load1 (v := (.int .i64 ((((((((Cd.mk c.list at1 c.value).next th).2).next 9).2).next 4).1 : Nat) : Int))) rfl rfl rfl (Rdc.blk (.head _) rfl)) ?_
                    refine Ow_q rfl rfl rfl (Qt_fieldAddr (m := 1) rfl rfl rfl rfl rfl) ?_
                    refine Ow_q rfl rfl rfl (Qt_fieldAddr (m := 4) rfl rfl rfl rfl rfl) ?_
                    refine Ow_q rfl rfl rfl (Qt_load1 (v := (.int .u64 ((((((((((((Cd.mk c.list at1 c.value).next th).2).next 9).2).next 4).2).next 3).2).next 3).1 : Nat) : Int))) rfl rfl rfl (Rdc.blk (.head _) rfl)) ?_
                    refine Ow_q rfl rfl rfl (Qt_ixG (q := ((((((Cd.mk c.list at1 c.value).next th).2).next 9).2).next 4).1) (o := (((((((Cd.mk c.list at1 c.value).next th).2).next 9).2).next 4).1) * 1 + 0) rfl rfl rfl rfl rfl rfl (by first | omega | (simp only [List.length_append, List.length_cons, List.length_nil, List.length_replicate, List.length_set]; omega) | (simp; omega)) rfl) ?_
                    refine Ow_cons rfl (OpW_storeRowT (q := (((((((Cd.mk c.list at1 c.value).next th).2).next 9).2).next 4).1)) (off := 0) (vs := [(.int .u64 ((((((((((((Cd.mk c.list at1 c.value).next th).2).next 9).2).next 4).2).next 3).2).next 3).1 : Nat) : Int))]) (L := W) (z' := ((((((((((((Cd.mk c.list at1 c.value).next th).2).next 9).2).next 4).2).next 3).2).next 3).1 : Nat) : Int)) Enc.u64 rfl rfl rfl rfl rfl hx57 rfl rfl rfl (.there (.there .here)) ?_)
                    refine Ow_nil ?_
                    refine Cw_region ?_
                    refine Ow_q rfl rfl rfl (Qt_move rfl) ?_
                    refine Ow_q rfl rfl rfl (Qt_loadA (m := 8) (cs := Item.cells (Item.mk ((((Cd.mk c.list at1 c.value).next th).1 : Nat) : Int) (Access.mk (((((((Cd.mk c.list at1 c.value).next th).2).next 9).1 : Nat) : Int) + 1) ((((((((Cd.mk c.list at1 c.value).next th).2).next 9).2).next 4).1 : Nat) : Int) ((((((((((Cd.mk c.list at1 c.value).next th).2).next 9).2).next 4).2).next 3).1 : Nat) : Int) ((((((((((((Cd.mk c.list at1 c.value).next th).2).next 9).2).next 4).2).next 3).2).next 3).1 : Nat) : Int) 0) x56 true)) rfl rfl rfl rfl ⟨rfl, Rdc.blk (.head _) rfl⟩) ?_
                    refine Ow_cons rfl (OpW_buildSliceX (xs := (([(Item.mk ((((Cd.mk c.list at1 c.value).next th).1 : Nat) : Int) (Access.mk (((((((Cd.mk c.list at1 c.value).next th).2).next 9).1 : Nat) : Int) + 1) ((((((((Cd.mk c.list at1 c.value).next th).2).next 9).2).next 4).1 : Nat) : Int) ((((((((((Cd.mk c.list at1 c.value).next th).2).next 9).2).next 4).2).next 3).1 : Nat) : Int) ((((((((((((Cd.mk c.list at1 c.value).next th).2).next 9).2).next 4).2).next 3).2).next 3).1 : Nat) : Int) 0) x56 true)]).map Item.cells).flatten) rfl rfl rfl rfl rfl rfl rfl rfl rfl rfl rfl (fun a59 => ?_))
                    refine Ow_cons rfl (OpW_appendT (bytes := 64) (L := L) (M := [(Item.mk ((((Cd.mk c.list at1 c.value).next th).1 : Nat) : Int) (Access.mk (((((((Cd.mk c.list at1 c.value).next th).2).next 9).1 : Nat) : Int) + 1) ((((((((Cd.mk c.list at1 c.value).next th).2).next 9).2).next 4).1 : Nat) : Int) ((((((((((Cd.mk c.list at1 c.value).next th).2).next 9).2).next 4).2).next 3).1 : Nat) : Int) ((((((((((((Cd.mk c.list at1 c.value).next th).2).next 9).2).next 4).2).next 3).2).next 3).1 : Nat) : Int) 0) x56 true)]) Enc.item rfl rfl rfl (.tail _ (.tail _ (.head _))) (Src.row (.head _)) rfl rfl rfl rfl rfl rfl rfl rfl rfl (by first | omega | (simp only [List.length_append, List.length_cons, List.length_nil, List.length_replicate, List.length_set]; omega) | (simp; omega)) (by first | omega | (simp only [List.length_append, List.length_cons, List.length_nil, List.length_replicate, List.length_set]; omega) | (simp; omega)) ?_)
                    intro A60 cp61 hA62
                    obtain ⟨a63, rfl⟩ := hA62 (by simp)
                    refine ⟨_, (.there (.there .here)), ?_⟩
                    refine Ow_q rfl rfl rfl (Qt_assign rfl) ?_
                    refine Ow_nil ?_
                    refine ⟨_, [(0, (.pointer (some ((⟨b, 0, none⟩ : Addr).add 0)))), (1, (.int .i64 ((th : Nat) : Int))), (2, (.int .i64 ((m : Nat) : Int))), (7, (.slice (some a63) ((L ++ [(Item.mk ((((Cd.mk c.list at1 c.value).next th).1 : Nat) : Int) (Access.mk (((((((Cd.mk c.list at1 c.value).next th).2).next 9).1 : Nat) : Int) + 1) ((((((((Cd.mk c.list at1 c.value).next th).2).next 9).2).next 4).1 : Nat) : Int) ((((((((((Cd.mk c.list at1 c.value).next th).2).next 9).2).next 4).2).next 3).1 : Nat) : Int) ((((((((((((Cd.mk c.list at1 c.value).next th).2).next 9).2).next 4).2).next 3).2).next 3).1 : Nat) : Int) 0) x56 true)]).length) cp61)), (8, (.slice (some a1) ((List.replicate 4 (0 : Int)).length) 4))], .row (.slice (some a63) ((L ++ [(Item.mk ((((Cd.mk c.list at1 c.value).next th).1 : Nat) : Int) (Access.mk (((((((Cd.mk c.list at1 c.value).next th).2).next 9).1 : Nat) : Int) + 1) ((((((((Cd.mk c.list at1 c.value).next th).2).next 9).2).next 4).1 : Nat) : Int) ((((((((((Cd.mk c.list at1 c.value).next th).2).next 9).2).next 4).2).next 3).1 : Nat) : Int) ((((((((((((Cd.mk c.list at1 c.value).next th).2).next 9).2).next 4).2).next 3).2).next 3).1 : Nat) : Int) 0) x56 true)]).length) cp61) 26 8 ((((L ++ [(Item.mk ((((Cd.mk c.list at1 c.value).next th).1 : Nat) : Int) (Access.mk (((((((Cd.mk c.list at1 c.value).next th).2).next 9).1 : Nat) : Int) + 1) ((((((((Cd.mk c.list at1 c.value).next th).2).next 9).2).next 4).1 : Nat) : Int) ((((((((((Cd.mk c.list at1 c.value).next th).2).next 9).2).next 4).2).next 3).1 : Nat) : Int) ((((((((((((Cd.mk c.list at1 c.value).next th).2).next 9).2).next 4).2).next 3).2).next 3).1 : Nat) : Int) 0) x56 true)])).map Item.cells).flatten) :: .row (.slice (some a1) ((List.replicate 4 (0 : Int)).length) 4) 22 1 ((((W.set (((((((Cd.mk c.list at1 c.value).next th).2).next 9).2).next 4).1) ((((((((((((Cd.mk c.list at1 c.value).next th).2).next 9).2).next 4).2).next 3).2).next 3).1 : Nat) : Int))).map u64c).flatten) :: .blk b 70 [(.slice A ((Cd.mk c.list ((((((((((((Cd.mk c.list at1 c.value).next th).2).next 9).2).next 4).2).next 3).2).next 3).2).at_) c.value).list.length) cp), (.int .i64 (((Cd.mk c.list ((((((((((((Cd.mk c.list at1 c.value).next th).2).next 9).2).next 4).2).next 3).2).next 3).2).at_) c.value).at_ : Nat) : Int)), (.int .u64 ((Cd.mk c.list ((((((((((((Cd.mk c.list at1 c.value).next th).2).next 9).2).next 4).2).next 3).2).next 3).2).at_) c.value).value))] :: G, ⟨rfl, rfl, rfl, rfl, rfl, trivial⟩, (.cons _ (.cons _ (.cons_cons _ (.cons_cons _ (.cons_cons _ (.refl _)))))), (by first | omega | (simp only [List.length_append, List.length_cons, List.length_nil]; omega)), (some a63), cp61, (L ++ [(Item.mk ((((Cd.mk c.list at1 c.value).next th).1 : Nat) : Int) (Access.mk (((((((Cd.mk c.list at1 c.value).next th).2).next 9).1 : Nat) : Int) + 1) ((((((((Cd.mk c.list at1 c.value).next th).2).next 9).2).next 4).1 : Nat) : Int) ((((((((((Cd.mk c.list at1 c.value).next th).2).next 9).2).next 4).2).next 3).1 : Nat) : Int) ((((((((((((Cd.mk c.list at1 c.value).next th).2).next 9).2).next 4).2).next 3).2).next 3).1 : Nat) : Int) 0) x56 true)]), (((((((((((Cd.mk c.list at1 c.value).next th).2).next 9).2).next 4).2).next 3).2).next 3).2).at_, (W.set (((((((Cd.mk c.list at1 c.value).next th).2).next 9).2).next 4).1) ((((((((((((Cd.mk c.list at1 c.value).next th).2).next 9).2).next 4).2).next 3).2).next 3).1 : Nat) : Int)), rfl, rfl, rfl, rfl, (by first | omega | (simp only [List.length_append, List.length_cons, List.length_nil, List.length_replicate, List.length_set]; omega) | (simp; omega)), (by first | omega | (simp; done) | (simp; omega) | (simp_all; done)), (ok_snoc hok (by simp only [okItem]; omega))⟩
                  · intro h58
                    have h58 := dcd_f (h58)
                    refine Cw_skip ?_
                    refine Cw_region ?_
                    refine Ow_q rfl rfl rfl (Qt_move rfl) ?_
                    refine Ow_q rfl rfl rfl (Qt_loadA (m := 8) (cs := Item.cells (Item.mk ((((Cd.mk c.list at1 c.value).next th).1 : Nat) : Int) (Access.mk (((((((Cd.mk c.list at1 c.value).next th).2).next 9).1 : Nat) : Int) + 1) ((((((((Cd.mk c.list at1 c.value).next th).2).next 9).2).next 4).1 : Nat) : Int) ((((((((((Cd.mk c.list at1 c.value).next th).2).next 9).2).next 4).2).next 3).1 : Nat) : Int) ((((((((((((Cd.mk c.list at1 c.value).next th).2).next 9).2).next 4).2).next 3).2).next 3).1 : Nat) : Int) 0) x56 false)) rfl rfl rfl rfl ⟨rfl, Rdc.blk (.head _) rfl⟩) ?_
                    refine Ow_cons rfl (OpW_buildSliceX (xs := (([(Item.mk ((((Cd.mk c.list at1 c.value).next th).1 : Nat) : Int) (Access.mk (((((((Cd.mk c.list at1 c.value).next th).2).next 9).1 : Nat) : Int) + 1) ((((((((Cd.mk c.list at1 c.value).next th).2).next 9).2).next 4).1 : Nat) : Int) ((((((((((Cd.mk c.list at1 c.value).next th).2).next 9).2).next 4).2).next 3).1 : Nat) : Int) ((((((((((((Cd.mk c.list at1 c.value).next th).2).next 9).2).next 4).2).next 3).2).next 3).1 : Nat) : Int) 0) x56 false)]).map Item.cells).flatten) rfl rfl rfl rfl rfl rfl rfl rfl rfl rfl rfl (fun a64 => ?_))
                    refine Ow_cons rfl (OpW_appendT (bytes := 64) (L := L) (M := [(Item.mk ((((Cd.mk c.list at1 c.value).next th).1 : Nat) : Int) (Access.mk (((((((Cd.mk c.list at1 c.value).next th).2).next 9).1 : Nat) : Int) + 1) ((((((((Cd.mk c.list at1 c.value).next th).2).next 9).2).next 4).1 : Nat) : Int) ((((((((((Cd.mk c.list at1 c.value).next th).2).next 9).2).next 4).2).next 3).1 : Nat) : Int) ((((((((((((Cd.mk c.list at1 c.value).next th).2).next 9).2).next 4).2).next 3).2).next 3).1 : Nat) : Int) 0) x56 false)]) Enc.item rfl rfl rfl (.tail _ (.tail _ (.head _))) (Src.row (.head _)) rfl rfl rfl rfl rfl rfl rfl rfl rfl (by first | omega | (simp only [List.length_append, List.length_cons, List.length_nil, List.length_replicate, List.length_set]; omega) | (simp; omega)) (by first | omega | (simp only [List.length_append, List.length_cons, List.length_nil, List.length_replicate, List.length_set]; omega) | (simp; omega)) ?_)
                    intro A65 cp66 hA67
                    obtain ⟨a68, rfl⟩ := hA67 (by simp)
                    refine ⟨_, (.there (.there .here)), ?_⟩
                    refine Ow_q rfl rfl rfl (Qt_assign rfl) ?_
                    refine Ow_nil ?_
                    refine ⟨_, [(0, (.pointer (some ((⟨b, 0, none⟩ : Addr).add 0)))), (1, (.int .i64 ((th : Nat) : Int))), (2, (.int .i64 ((m : Nat) : Int))), (7, (.slice (some a68) ((L ++ [(Item.mk ((((Cd.mk c.list at1 c.value).next th).1 : Nat) : Int) (Access.mk (((((((Cd.mk c.list at1 c.value).next th).2).next 9).1 : Nat) : Int) + 1) ((((((((Cd.mk c.list at1 c.value).next th).2).next 9).2).next 4).1 : Nat) : Int) ((((((((((Cd.mk c.list at1 c.value).next th).2).next 9).2).next 4).2).next 3).1 : Nat) : Int) ((((((((((((Cd.mk c.list at1 c.value).next th).2).next 9).2).next 4).2).next 3).2).next 3).1 : Nat) : Int) 0) x56 false)]).length) cp66)), (8, (.slice (some a1) ((List.replicate 4 (0 : Int)).length) 4))], .row (.slice (some a68) ((L ++ [(Item.mk ((((Cd.mk c.list at1 c.value).next th).1 : Nat) : Int) (Access.mk (((((((Cd.mk c.list at1 c.value).next th).2).next 9).1 : Nat) : Int) + 1) ((((((((Cd.mk c.list at1 c.value).next th).2).next 9).2).next 4).1 : Nat) : Int) ((((((((((Cd.mk c.list at1 c.value).next th).2).next 9).2).next 4).2).next 3).1 : Nat) : Int) ((((((((((((Cd.mk c.list at1 c.value).next th).2).next 9).2).next 4).2).next 3).2).next 3).1 : Nat) : Int) 0) x56 false)]).length) cp66) 26 8 ((((L ++ [(Item.mk ((((Cd.mk c.list at1 c.value).next th).1 : Nat) : Int) (Access.mk (((((((Cd.mk c.list at1 c.value).next th).2).next 9).1 : Nat) : Int) + 1) ((((((((Cd.mk c.list at1 c.value).next th).2).next 9).2).next 4).1 : Nat) : Int) ((((((((((Cd.mk c.list at1 c.value).next th).2).next 9).2).next 4).2).next 3).1 : Nat) : Int) ((((((((((((Cd.mk c.list at1 c.value).next th).2).next 9).2).next 4).2).next 3).2).next 3).1 : Nat) : Int) 0) x56 false)])).map Item.cells).flatten) :: .row (.slice (some a1) ((List.replicate 4 (0 : Int)).length) 4) 22 1 (((W).map u64c).flatten) :: .blk b 70 [(.slice A ((Cd.mk c.list ((((((((((((Cd.mk c.list at1 c.value).next th).2).next 9).2).next 4).2).next 3).2).next 3).2).at_) c.value).list.length) cp), (.int .i64 (((Cd.mk c.list ((((((((((((Cd.mk c.list at1 c.value).next th).2).next 9).2).next 4).2).next 3).2).next 3).2).at_) c.value).at_ : Nat) : Int)), (.int .u64 ((Cd.mk c.list ((((((((((((Cd.mk c.list at1 c.value).next th).2).next 9).2).next 4).2).next 3).2).next 3).2).at_) c.value).value))] :: G, ⟨rfl, rfl, rfl, rfl, rfl, trivial⟩, (.cons _ (.cons _ (.cons_cons _ (.cons_cons _ (.cons_cons _ (.refl _)))))), (by first | omega | (simp only [List.length_append, List.length_cons, List.length_nil]; omega)), (some a68), cp66, (L ++ [(Item.mk ((((Cd.mk c.list at1 c.value).next th).1 : Nat) : Int) (Access.mk (((((((Cd.mk c.list at1 c.value).next th).2).next 9).1 : Nat) : Int) + 1) ((((((((Cd.mk c.list at1 c.value).next th).2).next 9).2).next 4).1 : Nat) : Int) ((((((((((Cd.mk c.list at1 c.value).next th).2).next 9).2).next 4).2).next 3).1 : Nat) : Int) ((((((((((((Cd.mk c.list at1 c.value).next th).2).next 9).2).next 4).2).next 3).2).next 3).1 : Nat) : Int) 0) x56 false)]), (((((((((((Cd.mk c.list at1 c.value).next th).2).next 9).2).next 4).2).next 3).2).next 3).2).at_, W, rfl, rfl, rfl, rfl, (by first | omega | (simp only [List.length_append, List.length_cons, List.length_nil, List.length_replicate, List.length_set]; omega) | (simp; omega)), (by first | omega | (simp; done) | (simp; omega) | (simp_all; done)), (ok_snoc hok (by simp only [okItem]; omega))⟩
                · intro h55
                  have h55 := dcd_f (h55)
                  refine Cw_skip ?_
                  refine Cw_region ?_
                  refine Ow_q rfl rfl rfl (Qt_move rfl) ?_
                  refine Ow_q rfl rfl rfl (Qt_loadA (m := 8) (cs := Item.cells (Item.mk ((((Cd.mk c.list at1 c.value).next th).1 : Nat) : Int) (Access.mk (((((((Cd.mk c.list at1 c.value).next th).2).next 9).1 : Nat) : Int) + 1) ((((((((Cd.mk c.list at1 c.value).next th).2).next 9).2).next 4).1 : Nat) : Int) ((((((((((Cd.mk c.list at1 c.value).next th).2).next 9).2).next 4).2).next 3).1 : Nat) : Int) ((((((((((((Cd.mk c.list at1 c.value).next th).2).next 9).2).next 4).2).next 3).2).next 3).1 : Nat) : Int) 0) 0 false)) rfl rfl rfl rfl ⟨rfl, Rdc.blk (.head _) rfl⟩) ?_
                  refine Ow_cons rfl (OpW_buildSliceX (xs := (([(Item.mk ((((Cd.mk c.list at1 c.value).next th).1 : Nat) : Int) (Access.mk (((((((Cd.mk c.list at1 c.value).next th).2).next 9).1 : Nat) : Int) + 1) ((((((((Cd.mk c.list at1 c.value).next th).2).next 9).2).next 4).1 : Nat) : Int) ((((((((((Cd.mk c.list at1 c.value).next th).2).next 9).2).next 4).2).next 3).1 : Nat) : Int) ((((((((((((Cd.mk c.list at1 c.value).next th).2).next 9).2).next 4).2).next 3).2).next 3).1 : Nat) : Int) 0) 0 false)]).map Item.cells).flatten) rfl rfl rfl rfl rfl rfl rfl rfl rfl rfl rfl (fun a69 => ?_))
                  refine Ow_cons rfl (OpW_appendT (bytes := 64) (L := L) (M := [(Item.mk ((((Cd.mk c.list at1 c.value).next th).1 : Nat) : Int) (Access.mk (((((((Cd.mk c.list at1 c.value).next th).2).next 9).1 : Nat) : Int) + 1) ((((((((Cd.mk c.list at1 c.value).next th).2).next 9).2).next 4).1 : Nat) : Int) ((((((((((Cd.mk c.list at1 c.value).next th).2).next 9).2).next 4).2).next 3).1 : Nat) : Int) ((((((((((((Cd.mk c.list at1 c.value).next th).2).next 9).2).next 4).2).next 3).2).next 3).1 : Nat) : Int) 0) 0 false)]) Enc.item rfl rfl rfl (.tail _ (.tail _ (.head _))) (Src.row (.head _)) rfl rfl rfl rfl rfl rfl rfl rfl rfl (by first | omega | (simp only [List.length_append, List.length_cons, List.length_nil, List.length_replicate, List.length_set]; omega) | (simp; omega)) (by first | omega | (simp only [List.length_append, List.length_cons, List.length_nil, List.length_replicate, List.length_set]; omega) | (simp; omega)) ?_)
                  intro A70 cp71 hA72
                  obtain ⟨a73, rfl⟩ := hA72 (by simp)
                  refine ⟨_, (.there (.there .here)), ?_⟩
                  refine Ow_q rfl rfl rfl (Qt_assign rfl) ?_
                  refine Ow_nil ?_
                  refine ⟨_, [(0, (.pointer (some ((⟨b, 0, none⟩ : Addr).add 0)))), (1, (.int .i64 ((th : Nat) : Int))), (2, (.int .i64 ((m : Nat) : Int))), (7, (.slice (some a73) ((L ++ [(Item.mk ((((Cd.mk c.list at1 c.value).next th).1 : Nat) : Int) (Access.mk (((((((Cd.mk c.list at1 c.value).next th).2).next 9).1 : Nat) : Int) + 1) ((((((((Cd.mk c.list at1 c.value).next th).2).next 9).2).next 4).1 : Nat) : Int) ((((((((((Cd.mk c.list at1 c.value).next th).2).next 9).2).next 4).2).next 3).1 : Nat) : Int) ((((((((((((Cd.mk c.list at1 c.value).next th).2).next 9).2).next 4).2).next 3).2).next 3).1 : Nat) : Int) 0) 0 false)]).length) cp71)), (8, (.slice (some a1) ((List.replicate 4 (0 : Int)).length) 4))], .row (.slice (some a73) ((L ++ [(Item.mk ((((Cd.mk c.list at1 c.value).next th).1 : Nat) : Int) (Access.mk (((((((Cd.mk c.list at1 c.value).next th).2).next 9).1 : Nat) : Int) + 1) ((((((((Cd.mk c.list at1 c.value).next th).2).next 9).2).next 4).1 : Nat) : Int) ((((((((((Cd.mk c.list at1 c.value).next th).2).next 9).2).next 4).2).next 3).1 : Nat) : Int) ((((((((((((Cd.mk c.list at1 c.value).next th).2).next 9).2).next 4).2).next 3).2).next 3).1 : Nat) : Int) 0) 0 false)]).length) cp71) 26 8 ((((L ++ [(Item.mk ((((Cd.mk c.list at1 c.value).next th).1 : Nat) : Int) (Access.mk (((((((Cd.mk c.list at1 c.value).next th).2).next 9).1 : Nat) : Int) + 1) ((((((((Cd.mk c.list at1 c.value).next th).2).next 9).2).next 4).1 : Nat) : Int) ((((((((((Cd.mk c.list at1 c.value).next th).2).next 9).2).next 4).2).next 3).1 : Nat) : Int) ((((((((((((Cd.mk c.list at1 c.value).next th).2).next 9).2).next 4).2).next 3).2).next 3).1 : Nat) : Int) 0) 0 false)])).map Item.cells).flatten) :: .row (.slice (some a1) ((List.replicate 4 (0 : Int)).length) 4) 22 1 (((W).map u64c).flatten) :: .blk b 70 [(.slice A ((Cd.mk c.list ((((((((((((Cd.mk c.list at1 c.value).next th).2).next 9).2).next 4).2).next 3).2).next 3).2).at_) c.value).list.length) cp), (.int .i64 (((Cd.mk c.list ((((((((((((Cd.mk c.list at1 c.value).next th).2).next 9).2).next 4).2).next 3).2).next 3).2).at_) c.value).at_ : Nat) : Int)), (.int .u64 ((Cd.mk c.list ((((((((((((Cd.mk c.list at1 c.value).next th).2).next 9).2).next 4).2).next 3).2).next 3).2).at_) c.value).value))] :: G, ⟨rfl, rfl, rfl, rfl, rfl, trivial⟩, (.cons _ (.cons _ (.cons_cons _ (.cons_cons _ (.cons_cons _ (.refl _)))))), (by first | omega | (simp only [List.length_append, List.length_cons, List.length_nil]; omega)), (some a73), cp71, (L ++ [(Item.mk ((((Cd.mk c.list at1 c.value).next th).1 : Nat) : Int) (Access.mk (((((((Cd.mk c.list at1 c.value).next th).2).next 9).1 : Nat) : Int) + 1) ((((((((Cd.mk c.list at1 c.value).next th).2).next 9).2).next 4).1 : Nat) : Int) ((((((((((Cd.mk c.list at1 c.value).next th).2).next 9).2).next 4).2).next 3).1 : Nat) : Int) ((((((((((((Cd.mk c.list at1 c.value).next th).2).next 9).2).next 4).2).next 3).2).next 3).1 : Nat) : Int) 0) 0 false)]), (((((((((((Cd.mk c.list at1 c.value).next th).2).next 9).2).next 4).2).next 3).2).next 3).2).at_, W, rfl, rfl, rfl, rfl, (by first | omega | (simp only [List.length_append, List.length_cons, List.length_nil, List.length_replicate, List.length_set]; omega) | (simp; omega)), (by first | omega | (simp; done) | (simp; omega) | (simp_all; done)), (ok_snoc hok (by simp only [okItem]; omega))⟩
    · intro h3
      have h3 := dcd_f (h3)
      refine Cw_exit ?_
      refine Cw_seq ?_
      refine Cw_region ?_
      refine Ow_q rfl rfl rfl (Qt_move rfl) ?_
      refine Ow_q rfl rfl rfl (Qt_assign rfl) ?_
      refine Ow_nil ?_
      refine Cw_ret ?_
      refine ⟨(by first | exact .inl rfl | exact .inr rfl), [(.slice A1 L.length cp1)], .row (.slice A1 L.length cp1) 26 8 (((L).map Item.cells).flatten) :: .blk b 70 [(.slice A ((Cd.mk c.list at1 c.value).list.length) cp), (.int .i64 (((Cd.mk c.list at1 c.value).at_ : Nat) : Int)), (.int .u64 ((Cd.mk c.list at1 c.value).value))] :: G, ⟨(.slice A1 L.length cp1), _, rfl, rfl, rfl⟩, .cons_cons _ (.cons _ (.cons_cons _ (.refl _))), ?_⟩
      exact ⟨[_], _, rfl, _, _, _, _, rfl, rfl, rfl, rfl, hL, hok⟩
  · intro h2
    have h2 := dcd_f (h2)
    refine Ow_pass rfl rfl rfl rfl rfl rfl rfl ?_
    refine Ow_pass rfl rfl rfl rfl rfl rfl rfl ?_
    refine Ow_pass rfl rfl rfl rfl rfl rfl rfl ?_
    refine Ow_pass rfl rfl rfl rfl rfl rfl rfl ?_
    refine Ow_q rfl rfl rfl (Qt_pick_f rfl rfl) ?_
    refine Ow_nil ?_
    refine Cw_cond_f rfl ?_
    refine Cw_exit ?_
    refine Cw_seq ?_
    refine Cw_region ?_
    refine Ow_q rfl rfl rfl (Qt_move rfl) ?_
    refine Ow_q rfl rfl rfl (Qt_assign rfl) ?_
    refine Ow_nil ?_
    refine Cw_ret ?_
    refine ⟨(by first | exact .inl rfl | exact .inr rfl), [(.slice A1 L.length cp1)], .row (.slice A1 L.length cp1) 26 8 (((L).map Item.cells).flatten) :: .blk b 70 [(.slice A ((Cd.mk c.list at1 c.value).list.length) cp), (.int .i64 (((Cd.mk c.list at1 c.value).at_ : Nat) : Int)), (.int .u64 ((Cd.mk c.list at1 c.value).value))] :: G, ⟨(.slice A1 L.length cp1), _, rfl, rfl, rfl⟩, .cons_cons _ (.cons _ (.cons_cons _ (.refl _))), ?_⟩
    exact ⟨[_], _, rfl, _, _, _, _, rfl, rfl, rfl, rfl, hL, hok⟩

end Go.Ghl
