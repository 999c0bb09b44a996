/-
  Own rows cut, appended to in place, cleared behind their end: what slices.Delete does.
-/
import Derived.Test.YtgkmiemclhaahaaGhlTyped
namespace Go.Ghl
open Go
set_option linter.unusedVariables false

theorem row_full {w : World} {A : Addr} {m c size : Nat} {e : TypeId} {xs : List Value} (h : (Ent.row (.slice (some A) m c) e size xs).holds w) :
    ∃ g cur, A = ⟨g, 0, none⟩ ∧ w.heap[g]? = some (.cells cur e (0, 0)) ∧ m ≤ c ∧ c ≤ maxLen ∧ cur.size = c * size ∧ cur.toList.take (m * size) = xs := by
  obtain ⟨n, h1, h2⟩ := h
  rcases h2 with ⟨h2, _⟩ | ⟨g, cap, cur, h2, _, hg, hnc, hcm, hcs, htake⟩
  · cases h2
  · cases h2
    exact ⟨g, cur, rfl, hg, hnc, hcm, hcs, htake⟩
theorem row_back {w : World} {g m c size : Nat} {e : TypeId} {cur : Array Value} (hg : w.heap[g]? = some (.cells cur e (0, 0))) (hmc : m ≤ c) (hc : c ≤ maxLen) (hcs : cur.size = c * size) {xs : List Value} (hx : cur.toList.take (m * size) = xs) :
    (Ent.row (.slice (some ⟨g, 0, none⟩) m c) e size xs).holds w := by
  subst hx
  have : m * size ≤ c * size := Nat.mul_le_mul_right _ hmc
  exact ⟨m, by rw [List.length_take, Array.length_toList, hcs]; omega, .inr ⟨g, c, cur, rfl, Nat.zero_le _, hg, hmc, hc, hcs, rfl⟩⟩

theorem Upd.self {G : List Ent} {e : Ent} (h : e ∈ G) : Upd G e e G := by
  induction h with
  | head _ => exact .here
  | tail _ _ ih => exact .there ih
theorem ovw_take : ∀ (vs cs : List Value) (k q : Nat), q ≤ k → (ovw cs k vs).take q = cs.take q
  | [], cs, k, q, _ => by cases cs <;> rfl
  | v :: vs, cs, k, q, h => by
    rw [ovw_cons, ovw_take vs _ (k + 1) q (by omega), List.take_set_of_le h]
section
variable {P : Program} {n : Nat} {env : Env} {K : Kp} {G : List Ent} {R : Cont} {Q : Post} {ops : Array Oper} {l rest : List Oper}
variable {d : Nat} {dd : Option Tmp} {ty : TypeId} {pos : String} {af : Array Edge} {g : Option (Nat × Bool)}

/-- What a row's length and room are. -/
theorem Cw.rowcap {cd : Code} {A : Option Addr} {m c size : Nat} {t : TypeId} {xs : List Value} (hm : Ent.row (.slice A m c) t size xs ∈ G) (h : m ≤ c → m ≤ 9223372036854775807 → Cw P n cd env K G Q) : Cw P n cd env K G Q := fun E w a hs ha => by
  obtain ⟨k, h1, h2⟩ := hs.g _ hm
  rcases h2 with ⟨h2, h3⟩ | ⟨g0, cap, cur, h2, _, hg, hnc, hcm, _⟩
  · cases h2
    exact h (Nat.le_refl _) (by omega) E w a hs ha
  · cases h2
    simp only [maxLen] at hcm
    exact h hnc (by omega) E w a hs ha

theorem Src.rowDrop {A : Addr} {m c j size : Nat} {t : TypeId} {xs : List Value} (h : Ent.row (.slice (some A) m c) t size xs ∈ G) (hj : j ≤ m) : Src K G (slCut (some A) c size j m) (m - j) (xs.drop (j * size)) := by
  refine ⟨_, _, rfl, fun w hs hm => ?_⟩
  obtain ⟨g0, cur, rfl, hg, hmc, _, hcs, htake⟩ := row_full (hs.g _ h)
  rw [if_neg (by omega)]
  refine ⟨_, rfl, fun k u hu => ?_⟩
  subst htake
  rw [List.getElem?_drop, List.getElem?_take] at hu
  split at hu
  · dsimp only
    rw [add_lit, add_lit]
    unfold World.cell?
    simp only [hg]
    simpa using hu
  · cases hu

theorem Qt_slice_lhm {t e : TypeId} {x lo hi mx : Operand} {A : Option Addr} {m c q r s size : Nat} {k k' k2 : IntKind} {j j' j2 : Int} (hx : ev env x = some (.slice A m c)) (hh : ev env lo = some (.int k j)) (hh' : ev env hi = some (.int k' j')) (h2 : ev env mx = some (.int k2 j2)) (ht : P.underlying t = some (.slice e)) (hs : P.cellsOf e = size) (hz : Nat.beq size 0 = false)
    (hj : j = (q : Int)) (hj' : j' = (r : Int)) (hj2 : j2 = (s : Int)) (hq : q ≤ r) (hrc : r ≤ s) (hsc : s ≤ c) : Qt P n ⟨dd, .slice t x (some lo) (some hi) (some mx), ty, pos, af, g⟩ env K G (.slice (if s = q then A else A.map (·.add (q * size))) (r - q) (s - q)) := fun w a _ ha => by
  have hz' : size ≠ 0 := fun e => by rw [e] at hz; cases hz
  subst hj hj' hj2
  have hr := run_size hs hz' w
  simp [execOp, ha.ev hx, ha.ev hh, ha.ev hh', ha.ev h2, Instr.sliceAt, run_und ht, Instr.slice, Instr.sliceBounds, Instr.sliceBound, asIntOf, hq, hrc, hsc, hr]

/-- An append onto a row that was cut, with room: in place. -/
theorem OpW_appendIn {t e : TypeId} {s x : Operand} {A : Addr} {m c i k size bytes : Nat} {u : Value} {ti : TypeInfo} {xs news : List Value} {G' : List Ent} (hlt : Nat.blt d n = true)
    (hx : ev env s = some (.slice (some A) i c)) (hy : ev env x = some u) (hsrc : Src K G u k news) (hl : news.length = k * size) (hk0 : 0 < k ∨ ∃ B c2, u = .slice (some B) k c2)
    (ht : P.underlying t = some (.slice e)) (hi : P.info? e = some ti) (hsize : ti.size = size)
    (h1 : ∀ y ∈ news, y.oneCell' = true) (him : i ≤ m) (hik : i + k ≤ m)
    (hu : Upd G (.row (.slice (some A) m c) e size xs) (.row (.slice (some A) (i + k) c) e size (xs.take (i * size) ++ news)) G')
    (h : R ((d, .slice (some A) (i + k) c) :: env) K G') :
    OpW P n ⟨some d, .call { callee := .builtin .append, args := #[s, x], argTypes := #[t, t] }, ty, pos, af, g⟩ env K G R :=
  fun E w a hs ha next Q hk => by
    subst hsize
    obtain ⟨B, c2, rfl, hr⟩ := hsrc
    obtain ⟨g0, cur, rfl, hg, hmc, hcm, hcs, htake⟩ := row_full (hs.g _ hu.mem)
    have hB : ∃ ad, B = some ad ∧ ∀ j y, news[j]? = some y → w.cell? (ad.add j) = some y := by
      rcases hk0 with hk0 | ⟨B', c3, hB⟩
      · exact hr w hs.toSatW hk0
      · cases hB
        rcases Nat.eq_zero_or_pos k with h0 | h0
        · subst h0
          have hn : news = [] := List.eq_nil_of_length_eq_zero (by simpa using hl)
          subst hn
          exact ⟨B', rfl, fun j y hy => by simp at hy⟩
        · exact hr w hs.toSatW h0
    obtain ⟨ad, rfl, hcells⟩ := hB
    have hroom : i + k ≤ c := by omega
    have hsz : (i + k) * ti.size ≤ c * ti.size := Nat.mul_le_mul_right _ hroom
    have hfit : i * ti.size + news.length ≤ cur.size := by rw [hl, hcs, ← Nat.add_mul]; exact hsz
    have hrun := run_append_room (P := P) w t ty e ti ht hi g0 i c cur hg ad k c2 news hl hcells h1 hroom hfit
    unfold Oper.wp
    simp only [execOp, resolve, Sem.run_bind, Sem.run_pure, Result.andThen_ok, invoke, builtin, List.map_toArray, List.map_cons, List.map_nil, ha.ev hx, ha.ev hy, hrun]
    rw [Oper.upon_value]
    have him' : i * ti.size ≤ m * ti.size := Nat.mul_le_mul_right _ him
    have hmc' : m * ti.size ≤ c * ti.size := Nat.mul_le_mul_right _ hmc
    have hold : xs.take (i * ti.size) = cur.toList.take (i * ti.size) := by
      rw [← htake, List.take_take, Nat.min_eq_left him']
    refine hk _ _ _ _ _ (Kp.le_refl K) (hs.upd hu rfl rfl (by simp) (fun b _ hne => setRow_other w g0 b _ (fun e => hne (by rw [e]; rfl))) (row_back (setRow_heap w g0 cur _ e _ hg) hroom hcm ?_ ?_) (fun b hb => .inl hb)) (ha.put (lt_of_blt hlt) _) h
    · simp only [List.size_toArray, List.length_append, List.length_take, List.length_drop, Array.length_toList]
      omega
    · rw [hold]
      have : (cur.toList.take (i * ti.size) ++ news).length = (i + k) * ti.size := by
        rw [List.length_append, List.length_take, Array.length_toList, hl, Nat.add_mul]; omega
      rw [← this]
      exact List.take_left

/-- What lies behind a row's end is cleared. -/
theorem OpW_clearTail {t e : TypeId} {s : Operand} {A : Addr} {m c r size : Nat} {ti : TypeInfo} {z : Value} {xs : List Value}
    (hx : ev env s = some (slCut (some A) c size m r)) (ht : P.underlying t = some (.slice e)) (hi : P.info? e = some ti) (hz : ti.zero = some z) (hsize : ti.size = size) (hzs : Nat.beq z.cells.size size = true) (h1 : z.cells.all Value.oneCell' = true)
    (hm : Ent.row (.slice (some A) m c) e size xs ∈ G) (hmr : m ≤ r) (hrc : r ≤ c)
    (h : R env K G) : OpW P n ⟨none, .call { callee := .builtin .clear, args := #[s], argTypes := #[t] }, ty, pos, af, g⟩ env K G R :=
  fun E w a hs ha next Q hk => by
    have hzs' : z.cells.size = size := Nat.eq_of_beq_eq_true hzs
    unfold Oper.wp
    by_cases hrm : r = m
    · subst hrm
      have hrun : (Builtin.clear_ #[t] ty #[slCut (some A) c size r r]).run P w = .ok (.tuple #[]) w := by
        by_cases hc : c = r <;> simp [Builtin.clear_, slCut, run_underlying ht, hc]
      simp only [execOp, resolve, Sem.run_bind, Sem.run_pure, Result.andThen_ok, invoke, builtin, List.map_toArray, List.map_cons, List.map_nil, ha.ev hx, hrun]
      simp only [Oper.upon]
      exact hk _ _ _ _ _ (Kp.le_refl K) hs ha h
    · obtain ⟨g0, cur, rfl, hg, hmc, hcm, hcs, htake⟩ := row_full (hs.g _ hm)
      have hown : w.ownsRow 0 e size (.slice (some ⟨g0, 0, none⟩) c c) c cur.toList := ⟨by rw [Array.length_toList, hcs], .inr ⟨g0, c, cur, rfl, Nat.zero_le _, hg, Nat.le_refl _, hcm, hcs, by rw [List.take_of_length_le (by rw [Array.length_toList, hcs]; exact Nat.le_refl _)]⟩⟩
      have hzl : ((Builtin.zeroCells z.cells (r - m)).toList).length = (r - m) * size := by simp [Builtin.zeroCells, hzs']
      have hz1 : ∀ u ∈ (Builtin.zeroCells z.cells (r - m)).toList, u.oneCell' = true := by
        intro u hu
        simp only [Builtin.zeroCells, Array.toList_map, List.mem_map] at hu
        obtain ⟨j, hj, rfl⟩ := hu
        rcases Nat.eq_zero_or_pos size with h0 | h0
        · simp [hzs', h0] at hj
        · have hlt : j % z.cells.size < z.cells.size := Nat.mod_lt _ (by omega)
          rw [getElem!_pos z.cells (j % z.cells.size) hlt]
          exact Array.all_eq_true'.1 h1 _ (Array.getElem_mem hlt)
      have hle : m * size + (r - m) * size ≤ c * size := by rw [← Nat.add_mul]; exact Nat.mul_le_mul_right _ (by omega)
      obtain ⟨w', hr, hh, hgr, hsz⟩ := run_storeCells_row (P := P) (Builtin.zeroCells z.cells (r - m)).toList w cur.toList (m * size) 0 hown (by rw [hzl, Array.length_toList, hcs]; omega) hz1
      have hrun : (Builtin.clear_ #[t] ty #[slCut (some ⟨g0, 0, none⟩) c size m r]).run P w = .ok (.tuple #[]) w' := by
        have hne : ¬ c = m := by omega
        obtain ⟨q, hq⟩ : ∃ q, r - m = q + 1 := ⟨r - m - 1, by omega⟩
        rw [hq] at hr
        simp [Builtin.clear_, slCut, run_underlying ht, hne, hq, zeroValue, typeInfo, hi, hz, hr]
      simp only [execOp, resolve, Sem.run_bind, Sem.run_pure, Result.andThen_ok, invoke, builtin, List.map_toArray, List.map_cons, List.map_nil, ha.ev hx, hrun]
      simp only [Oper.upon]
      obtain ⟨_, h2⟩ := hh
      rcases h2 with ⟨h2, _⟩ | ⟨g1, cap, cur', h2, _, hg', hnc, hcm', hcs', htake'⟩
      · cases h2
      · cases h2
        refine hk _ _ _ _ _ (Kp.le_refl K) (hs.upd (Upd.self hm) hgr.os hgr.tape hgr.output (fun b hb hne => hgr.block b hb (fun e => hne (by rw [e]; rfl))) (row_back hg' hmc hcm hcs' ?_) (fun b hb => .inl hb)) ha h
        have hall : cur'.toList = ovw cur.toList (m * size + 0) (Builtin.zeroCells z.cells (r - m)).toList := by
          rw [← htake', List.take_of_length_le (by rw [Array.length_toList, hcs']; exact Nat.le_refl _)]
        rw [hall, Nat.add_zero, ovw_take _ _ _ _ (Nat.le_refl _), htake]
end
end Go.Ghl
