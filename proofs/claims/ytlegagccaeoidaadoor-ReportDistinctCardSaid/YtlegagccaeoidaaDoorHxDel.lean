/-
  Rows of the call's own: cut, appended to in place, cleared behind their end.
-/
import Derived.Test.YtlegagccaeoidaaDoorHxMore
namespace Go.Hx
open Go
set_option linter.unusedVariables false
set_option linter.unusedSimpArgs false

theorem row_full {w : World} {A : Addr} {m c size : Nat} {e : TypeId} {xs : List Value} (h : (Ent.row (.slice (some A) m c) e size xs).holds w) :
    ∃ g cur, A = ⟨g, 0, none⟩ ∧ w.heap[g]? = some (.cells cur e (0, 0)) ∧ m ≤ c ∧ c ≤ maxLen ∧ cur.size = c * size ∧ cur.toList.take (m * size) = xs := by
  obtain ⟨n, h1, h2⟩ := h
  rcases h2 with ⟨h2, _⟩ | ⟨g, cap, cur, h2, _, hg, hnc, hcm, hcs, htake⟩
  · cases h2
  · cases h2
    exact ⟨g, cur, rfl, hg, hnc, hcm, hcs, htake⟩
theorem row_back {w : World} {g m c size : Nat} {e : TypeId} {cur : Array Value} (hg : w.heap[g]? = some (.cells cur e (0, 0))) (hmc : m ≤ c) (hc : c ≤ maxLen) (hcs : cur.size = c * size) {xs : List Value} (hx : cur.toList.take (m * size) = xs) :
    (Ent.row (.slice (some ⟨g, 0, none⟩) m c) e size xs).holds w := by
  subst hx
  have : m * size ≤ c * size := Nat.mul_le_mul_right _ hmc
  exact ⟨m, by rw [List.length_take, Array.length_toList, hcs]; omega, .inr ⟨g, c, cur, rfl, Nat.zero_le _, hg, hmc, hc, hcs, rfl⟩⟩
theorem Upd.self {G : List Ent} {e : Ent} (h : e ∈ G) : Upd G e e G := by
  induction h with
  | head _ => exact .here
  | tail _ _ ih => exact .there ih
theorem ovw_take : ∀ (vs cs : List Value) (k q : Nat), q ≤ k → (ovw cs k vs).take q = cs.take q
  | [], cs, k, q, _ => by cases cs <;> rfl
  | v :: vs, cs, k, q, h => by
    rw [ovw_cons, ovw_take vs _ (k + 1) q (by omega), List.take_set_of_le h]
theorem flatten_dropq {size : Nat} : ∀ {rows : List (List Value)} (_ : ∀ r ∈ rows, r.length = size) (q : Nat), (rows.drop q).flatten = rows.flatten.drop (q * size)
  | rows, _, 0 => by simp
  | [], _, q + 1 => by simp
  | r :: rows, h, q + 1 => by
    have hr : r.length = size := h r (.head _)
    rw [List.drop_succ_cons, flatten_dropq (fun r hr => h r (.tail _ hr)) q, List.flatten_cons, Nat.succ_mul, Nat.add_comm, ← List.drop_drop]
    congr 1
    rw [← hr, List.drop_left]
/-- An append that stays where it is. -/
def appIn {α : Type} (n : Nat) (a b : List α) : Option (List α) := if 0 < n ∧ a.length + b.length ≤ n then some (a ++ b) else none
/-- The same row with another length. -/
def cutA (s : SV) (k : Nat) : SV := ⟨s.A, k, s.c⟩
section
variable {P : Program} {n : Nat} {env : Env} {K : Kp} {G : List Ent} {R : Cont} {Q : Post} {ops : Array Oper} {rest : List Oper}
variable {d : Nat} {dd : Option Tmp} {ty : TypeId} {pos : String} {af : Array Edge} {g : Option (Nat × Bool)}
variable {α : Type} {T : Ty α} {l m l' : List α} {rows : List (List Value)} {s : SV}

theorem row_sv {w : World} {e : TypeId} (h : (Ent.row (sv s) e T.size rows.flatten).holds w) (hr : RowR T K rows l) (hz : 0 < T.size) : s.n = l.length ∧ l.length ≤ s.c ∧ l.length ≤ maxLen ∧ (0 < l.length → ∃ g, s.A = some ⟨g, 0, none⟩) := by
  obtain ⟨A, c, h1, h2, h3, h4⟩ := row_shape h hr.sizes hz
  have hl := All2.len hr
  simp only [sv, Value.slice.injEq] at h1
  obtain ⟨rfl, h5, rfl⟩ := h1
  rw [hl] at h2 h3 h4 h5
  exact ⟨h5, h2, h3, h4⟩
theorem Q_cutRH {t e e' : TypeId} {x hi : Operand} {k : IntKind} {j : Int} (hm : Ent.row (sv s) e' T.size rows.flatten ∈ G) (hr : RowR T K rows l) (hz : Nat.blt 0 T.size = true) (hc : cutI l 0 j = some l') (hx : ev env x = some (sv s)) (hh : ev env hi = some (.int k j)) (ht : P.underlying t = some (.slice e)) (hi' : (P.info? e).isSome = true) :
    Qt P n ⟨dd, .slice t x none (some hi) none, ty, pos, af, g⟩ env K G (sv (cutS s T.size 0 j.toNat)) := fun w a hs ha => by
  obtain ⟨h0, h1, h2, rfl⟩ := cutI_some hc
  obtain ⟨g1, g2, g3, _⟩ := row_sv (hs.g _ hm) hr (lt_of_blt hz)
  have := Qt_slice_h (P := P) (n := n) (dd := dd) (ty := ty) (pos := pos) (af := af) (g := g) (K := K) (G := G) (q := j.toNat) (A := s.A) (m := s.n) (c := s.c) hx hh ht hi' rfl (by omega) (by omega)
  have e1 : sv (cutS s T.size 0 j.toNat) = .slice s.A j.toNat s.c := by
    unfold sv cutS
    cases s.A <;> simp [Addr.add]
  rw [e1]; exact this w a hs ha
theorem Q_cutRL {t e e' : TypeId} {x lo : Operand} {k : IntKind} {i : Int} (hm : Ent.row (sv s) e' T.size rows.flatten ∈ G) (hr : RowR T K rows l) (hz' : Nat.blt 0 T.size = true) (hc : cutI l i (l.length : Int) = some l') (hx : ev env x = some (sv s)) (hl : ev env lo = some (.int k i)) (ht : P.underlying t = some (.slice e))
    (hs : P.cellsOf e = T.size) (hz : Nat.beq T.size 0 = false) : Qt P n ⟨dd, .slice t x (some lo) none none, ty, pos, af, g⟩ env K G (sv (cutS s T.size i.toNat l.length)) := fun w a hsat ha => by
  obtain ⟨h0, h1, h2, rfl⟩ := cutI_some hc
  obtain ⟨g1, g2, g3, _⟩ := row_sv (hsat.g _ hm) hr (lt_of_blt hz')
  have := Qt_slice_l (P := P) (n := n) (dd := dd) (ty := ty) (pos := pos) (af := af) (g := g) (K := K) (G := G) (q := i.toNat) (A := s.A) (m := s.n) (c := s.c) hx hl ht hs hz (by omega) (by omega)
  rw [g1] at this
  exact this w a hsat ha
/-- 's[i:j:len(s)]': only that it does not panic. -/
def cut3 (s : SV) (size lo hi mx : Nat) : SV := ⟨if mx = lo then s.A else s.A.map (·.add (lo * size)), hi - lo, mx - lo⟩
theorem Q_cutR3 {t e e' : TypeId} {x lo hi mx : Operand} {k k' k2 : IntKind} {i j : Int} (hm : Ent.row (sv s) e' T.size rows.flatten ∈ G) (hr : RowR T K rows l) (hz' : Nat.blt 0 T.size = true) (hc : cutI l i j = some l') (hx : ev env x = some (sv s)) (hl : ev env lo = some (.int k i)) (hh : ev env hi = some (.int k' j)) (h2 : ev env mx = some (.int k2 (l.length : Int))) (ht : P.underlying t = some (.slice e))
    (hs : P.cellsOf e = T.size) (hz : Nat.beq T.size 0 = false) : Qt P n ⟨dd, .slice t x (some lo) (some hi) (some mx), ty, pos, af, g⟩ env K G (sv (cut3 s T.size i.toNat j.toNat l.length)) := fun w a hsat ha => by
  obtain ⟨h0, h1, h3, rfl⟩ := cutI_some hc
  obtain ⟨g1, g2, g3, _⟩ := row_sv (hsat.g _ hm) hr (lt_of_blt hz')
  have hz0 : T.size ≠ 0 := fun e => by rw [e] at hz; cases hz
  have hx' : ev env x = some (.slice s.A s.n s.c) := hx
  obtain ⟨q, rfl⟩ : ∃ q : Nat, i = (q : Int) := ⟨i.toNat, by omega⟩
  obtain ⟨r, rfl⟩ : ∃ r : Nat, j = (r : Int) := ⟨j.toNat, by omega⟩
  have hr' := run_size hs hz0 w
  have hqr : q ≤ r := by omega
  have hrl : r ≤ l.length := by omega
  simp [execOp, ha.ev hx', ha.ev hl, ha.ev hh, ha.ev h2, Instr.sliceAt, run_und ht, Instr.slice, Instr.sliceBounds, Instr.sliceBound, asIntOf, hqr, hrl, g2, hr', cut3, sv]
/-- What lies behind the end of a row that was cut. -/
theorem Q_tail {t e : TypeId} {x lo hi : Operand} {k k' : IntKind} {r : Nat} {q : Nat} (hrc : r ≤ s.c) (hq : q ≤ r) (hx : ev env x = some (sv (cutA s q))) (hl : ev env lo = some (.int k (q : Int))) (hh : ev env hi = some (.int k' (r : Int))) (ht : P.underlying t = some (.slice e))
    (hs : P.cellsOf e = T.size) (hz : Nat.beq T.size 0 = false) : Qt P n ⟨dd, .slice t x (some lo) (some hi) none, ty, pos, af, g⟩ env K G (sv (cutS (cutA s q) T.size q r)) :=
  Qt_slice_lh (A := s.A) (m := q) (c := s.c) hx hl hh ht hs hz rfl rfl hq hrc

theorem SrcT.cutL {e : TypeId} {i : Int} (hm : Ent.row (sv s) e T.size rows.flatten ∈ G) (hr : RowR T K rows l) (hz : Nat.blt 0 T.size = true) (hc : cutI l i (l.length : Int) = some l') : SrcT T K G (sv (cutS s T.size i.toNat l.length)) l' := by
  obtain ⟨h0, h1, h2, rfl⟩ := cutI_some hc
  have hl := All2.len hr
  refine ⟨rows.drop i.toNat, ?_, fun w hsat => ?_⟩
  · have := All2.drop i.toNat (All2.take l.length hr)
    rw [List.take_of_length_le (by omega)] at this
    rwa [Int.toNat_natCast]
  · obtain ⟨g1, g2, g3, g4⟩ := row_sv (hsat.g _ hm) hr (lt_of_blt hz)
    have hlen : ((l.take (l.length : Int).toNat).drop i.toNat).length = l.length - i.toNat := by simp
    rw [hlen]
    refine ⟨_, _, rfl, fun hpos => ?_⟩
    obtain ⟨b, hb⟩ := g4 (by omega)
    have hmw := hsat.g _ hm
    rw [show sv s = .slice (some ⟨b, 0, none⟩) s.n s.c from by unfold sv; rw [hb]] at hmw
    obtain ⟨g0, cur, hg0, hg, hmc, _, hcs, htake⟩ := row_full hmw
    cases hg0
    simp only [cutS, hb]
    rw [if_neg (by omega)]
    refine ⟨_, rfl, fun k u hu => ?_⟩
    have hfl : (rows.drop i.toNat).flatten = rows.flatten.drop (i.toNat * T.size) :=
      flatten_dropq hr.sizes _
    rw [hfl, ← htake, List.getElem?_drop, List.getElem?_take] at hu
    split at hu
    · show w.cell? (((⟨b, 0, none⟩ : Addr).add (i.toNat * T.size)).add k) = some u
      rw [add_lit, add_lit]
      unfold World.cell?
      simp only [hg]
      simpa using hu
    · cases hu

theorem cutS_some {s : SV} {size lo hi : Nat} (h : s.A.isSome = true) : (cutS s size lo hi).A.isSome = true := by
  unfold cutS; simp only; split <;> simp [h]
theorem O_appCut {t e : TypeId} {x y : Operand} {u : Value} {i : Int} {ti : TypeInfo} {lc : List α} (hlt : Nat.blt d n = true)
    (hx : ev env x = some (sv (cutS s T.size 0 i.toNat))) (hy : ev env y = some u) (hm : Ent.row (sv s) e T.size rows.flatten ∈ G) (hr : RowR T K rows l) (hc : cutI l 0 i = some lc) (hsrc : SrcT T K G u m) (hu : ∃ B k c, u = .slice B k c ∧ (s.A.isSome = true → B.isSome = true)) (ha : appIn l.length lc m = some l')
    (ht : P.underlying t = some (.slice e)) (hi : P.info? e = some ti) (hsize : ti.size = T.size) (hsz : Nat.blt 0 T.size = true)
    (h : l.length ≤ s.c → l'.length ≤ l.length → ∀ rows', RowR T K rows' l' → ∃ G', Upd G (.row (sv s) e T.size rows.flatten) (.row (sv (cutA s l'.length)) e T.size rows'.flatten) G' ∧ R ((d, sv (cutA s l'.length)) :: env) K G') :
    OpW P n ⟨some d, .call { callee := .builtin .append, args := #[x, y], argTypes := #[t, t] }, ty, pos, af, g⟩ env K G R :=
  fun E w a hs ha' next Q hk => by
    obtain ⟨h0, h1, h2, rfl⟩ := cutI_some hc
    unfold appIn at ha
    split at ha
    rotate_left
    · cases ha
    rename_i hcond
    cases ha
    obtain ⟨nrows, hn1, hn2⟩ := hsrc
    have hlR := All2.len hr
    have hlN := All2.len hn1
    obtain ⟨g1, g2, g3, g4⟩ := row_sv (hs.g _ hm) hr (lt_of_blt hsz)
    obtain ⟨b, hb⟩ := g4 hcond.1
    have esv : sv s = .slice (some ⟨b, 0, none⟩) l.length s.c := by unfold sv; rw [hb, g1]
    have hmw := hs.g _ hm
    rw [esv] at hmw
    obtain ⟨g0, cur, hg0, hg, hmc, hcm, hcs, htake⟩ := row_full hmw
    cases hg0
    have hlc : ((l.take i.toNat).drop (0 : Int).toNat) = l.take i.toNat := by simp
    rw [hlc] at hcond h
    have hli : (l.take i.toNat).length = i.toNat := by rw [List.length_take]; omega
    have hrowsz : ∀ r ∈ rows.take i.toNat, r.length = T.size := fun r hr' => hr.sizes r (List.mem_of_mem_take hr')
    have hflN : nrows.flatten.length = m.length * T.size := by rw [flatten_length hn1.sizes, hlN]
    obtain ⟨B, c2, rfl, hcells⟩ := hn2 w hs.toSatW
    obtain ⟨B', k', c', hB, hBs⟩ := hu
    cases hB
    obtain ⟨ad, rfl⟩ := Option.isSome_iff_exists.1 (hBs (by rw [hb]; rfl))
    have hcells' : ∀ j y, nrows.flatten[j]? = some y → w.cell? (ad.add j) = some y := fun j y hj => by
      rcases Nat.eq_zero_or_pos m.length with h0 | h0
      · have : nrows.flatten = [] := List.eq_nil_of_length_eq_zero (by rw [hflN, h0]; simp)
        rw [this] at hj; simp at hj
      · obtain ⟨a', e', h'⟩ := hcells h0
        cases e'
        exact h' j y hj
    have hroom : i.toNat + m.length ≤ s.c := by omega
    have hsz' : (i.toNat + m.length) * T.size ≤ s.c * T.size := Nat.mul_le_mul_right _ hroom
    have hfit : i.toNat * T.size + nrows.flatten.length ≤ cur.size := by rw [hflN, hcs, ← Nat.add_mul]; exact hsz'
    have hx' : ev env x = some (.slice (some ⟨b, 0, none⟩) i.toNat s.c) := by
      rw [hx]; unfold sv cutS; rw [hb]; simp [Addr.add]
    have hrun := run_append_room (P := P) w t ty e ti ht hi b i.toNat s.c cur hg ad m.length c2 nrows.flatten (by rw [hflN, hsize]) hcells' hn1.ones hroom (by rw [hsize]; exact hfit)
    rw [hsize] at hrun
    unfold Oper.wp
    simp only [execOp, resolve, Sem.run_bind, Sem.run_pure, Result.andThen_ok, invoke, builtin, List.map_toArray, List.map_cons, List.map_nil, ha'.ev hx', ha'.ev hy, hrun]
    rw [Oper.upon_value]
    have hlen' : (l.take i.toNat ++ m).length = i.toNat + m.length := by rw [List.length_append, hli]
    obtain ⟨G', hu, hR⟩ := h g2 (by rw [hlen']; omega) (rows.take i.toNat ++ nrows) (RowR.app (All2.take _ hr) hn1)
    rw [hlen'] at hu hR
    have ecut : sv (cutA s (i.toNat + m.length)) = .slice (some ⟨b, 0, none⟩) (i.toNat + m.length) s.c := by unfold sv cutA; rw [hb]
    rw [ecut] at hu hR
    rw [esv] at hu
    have hfree := hs.apart _ hm
    refine hk _ _ _ _ _ (Kp.le_refl K) (hs.upd hu rfl rfl (by simp) (fun c hc hne => setRow_other w b c _ (fun e => hne (by rw [e]; simp [Ent.own, Value.ownBlock]))) (row_back (setRow_heap w b cur _ e _ hg) hroom hcm ?_ ?_) (fun c hc => .inl hc) (by simp [Ent.own, Value.ownBlock]) (fun c hc => ?_) (fun c hc j => ?_)) (ha'.put (lt_of_blt hlt) _) hR
    · simp only [List.size_toArray, List.length_append, List.length_take, List.length_drop, Array.length_toList]
      omega
    · have hold : (rows.take i.toNat).flatten = cur.toList.take (i.toNat * T.size) := by
        have h3 : (rows.take i.toNat).flatten = rows.flatten.take (i.toNat * T.size) := by
          have e3 : rows.flatten = (rows.take i.toNat).flatten ++ (rows.drop i.toNat).flatten := by rw [← List.flatten_append, List.take_append_drop]
          have e4 : (rows.take i.toNat).flatten.length = i.toNat * T.size := by rw [flatten_length hrowsz, List.length_take]; congr 1; omega
          rw [e3, ← e4, List.take_left]
        rw [h3, ← htake, List.take_take]
        congr 1
        have : i.toNat * T.size ≤ l.length * T.size := Nat.mul_le_mul_right _ (by omega)
        omega
      rw [List.flatten_append, hold]
      have : (cur.toList.take (i.toNat * T.size) ++ nrows.flatten).length = (i.toNat + m.length) * T.size := by
        rw [List.length_append, List.length_take, Array.length_toList, hflN, Nat.add_mul]; omega
      rw [← this]
      exact List.take_left
    · exact hfree c (by rw [esv]; exact hc)
    · exact row_off hfree c (by simpa [Ent.own, esv, Value.ownBlock] using hc) j

/-- What lies behind a row's end is cleared. -/
theorem O_clearTail {t e : TypeId} {x : Operand} {r : Nat} {ti : TypeInfo} {z : Value}
    (hx : ev env x = some (sv (cutS s T.size l.length r))) (ht : P.underlying t = some (.slice e)) (hi : P.info? e = some ti) (hz : ti.zero = some z) (hsize : ti.size = T.size) (hsz : Nat.blt 0 T.size = true) (hzs : Nat.beq z.cells.size T.size = true) (h1 : z.cells.all Value.oneCell' = true)
    (hm : Ent.row (sv s) e T.size rows.flatten ∈ G) (hrw : RowR T K rows l) (hmr : l.length ≤ r) (hrc : r ≤ s.c)
    (h : R env K G) : OpW P n ⟨none, .call { callee := .builtin .clear, args := #[x], argTypes := #[t] }, ty, pos, af, g⟩ env K G R :=
  fun E w a hs ha next Q hk => by
    have hzs' : z.cells.size = T.size := Nat.eq_of_beq_eq_true hzs
    obtain ⟨g1, g2, g3, g4⟩ := row_sv (hs.g _ hm) hrw (lt_of_blt hsz)
    unfold Oper.wp
    by_cases hrm : r = l.length
    · subst hrm
      have hrun : (Builtin.clear_ #[t] ty #[sv (cutS s T.size l.length l.length)]).run P w = .ok (.tuple #[]) w := by
        cases hA : s.A <;> by_cases hc : s.c = l.length <;> simp [Builtin.clear_, sv, cutS, run_underlying ht, hc, hA]
      simp only [execOp, resolve, Sem.run_bind, Sem.run_pure, Result.andThen_ok, invoke, builtin, List.map_toArray, List.map_cons, List.map_nil, ha.ev hx, hrun]
      simp only [Oper.upon]
      exact hk _ _ _ _ _ (Kp.le_refl K) hs ha h
    · have hmw := hs.g _ hm
      cases hA : s.A with
      | none =>
        exfalso
        have : sv s = .slice none s.n s.c := by unfold sv; rw [hA]
        rw [this] at hmw
        obtain ⟨k, h2, h3⟩ := hmw
        rcases h3 with ⟨h3, _⟩ | ⟨_, _, _, h3, _⟩
        · simp only [Value.slice.injEq] at h3; omega
        · cases h3
      | some A =>
      have esv : sv s = .slice (some A) l.length s.c := by unfold sv; rw [hA, g1]
      rw [esv] at hmw
      obtain ⟨g0, cur, rfl, hg, hmc, hcm, hcs, htake⟩ := row_full hmw
      have hown : w.ownsRow 0 e T.size (.slice (some ⟨g0, 0, none⟩) s.c s.c) s.c cur.toList := ⟨by rw [Array.length_toList, hcs], .inr ⟨g0, s.c, cur, rfl, Nat.zero_le _, hg, Nat.le_refl _, hcm, hcs, by rw [List.take_of_length_le (by rw [Array.length_toList, hcs]; exact Nat.le_refl _)]⟩⟩
      have hzl : ((Builtin.zeroCells z.cells (r - l.length)).toList).length = (r - l.length) * T.size := by simp [Builtin.zeroCells, hzs']
      have hz1 : ∀ u ∈ (Builtin.zeroCells z.cells (r - l.length)).toList, u.oneCell' = true := by
        intro u hu
        simp only [Builtin.zeroCells, Array.toList_map, List.mem_map] at hu
        obtain ⟨j, hj, rfl⟩ := hu
        have hpos := lt_of_blt hsz
        have hlt : j % z.cells.size < z.cells.size := Nat.mod_lt _ (by omega)
        rw [getElem!_pos z.cells (j % z.cells.size) hlt]
        exact Array.all_eq_true'.1 h1 _ (Array.getElem_mem hlt)
      have hle : l.length * T.size + (r - l.length) * T.size ≤ s.c * T.size := by rw [← Nat.add_mul]; exact Nat.mul_le_mul_right _ (by omega)
      have h9 : cur.toList.length = s.c * T.size := by rw [Array.length_toList, hcs]
      obtain ⟨w', hr, hh, hgr, hsz2⟩ := run_storeCells_row (P := P) (Builtin.zeroCells z.cells (r - l.length)).toList w cur.toList (l.length * T.size) 0 hown (by rw [hzl, h9]; omega) hz1
      have hrun : (Builtin.clear_ #[t] ty #[sv (cutS s T.size l.length r)]).run P w = .ok (.tuple #[]) w' := by
        have hne : ¬ s.c = l.length := by omega
        obtain ⟨q, hq⟩ : ∃ q, r - l.length = q + 1 := ⟨r - l.length - 1, by omega⟩
        rw [hq] at hr
        simp [Builtin.clear_, sv, cutS, hA, run_underlying ht, hne, hq, zeroValue, typeInfo, hi, hz, hr]
      simp only [execOp, resolve, Sem.run_bind, Sem.run_pure, Result.andThen_ok, invoke, builtin, List.map_toArray, List.map_cons, List.map_nil, ha.ev hx, hrun]
      simp only [Oper.upon]
      obtain ⟨_, h2⟩ := hh
      rcases h2 with ⟨h2, _⟩ | ⟨g1', cap, cur', h2, _, hg', hnc, hcm', hcs', htake'⟩
      · cases h2
      · cases h2
        have hfree := hs.apart _ hm
        have hnew : (Ent.row (sv s) e T.size rows.flatten).holds w' := by
          rw [esv]
          refine row_back hg' hmc hcm hcs' ?_
          have hall : cur'.toList = ovw cur.toList (l.length * T.size + 0) (Builtin.zeroCells z.cells (r - l.length)).toList := by
            rw [← htake', List.take_of_length_le (by rw [Array.length_toList, hcs']; exact Nat.le_refl _)]
          rw [hall, Nat.add_zero, ovw_take _ _ _ _ (Nat.le_refl _), htake]
        exact hk _ _ _ _ _ (Kp.le_refl K) (hs.upd (Upd.self hm) hgr.os hgr.tape hgr.output (fun b hb hne => hgr.block b hb (fun e => hne (by cases e; simp [Ent.own, esv, Value.ownBlock]))) hnew (fun b hb => .inl hb) (by simp only [Ent.own]; cases (sv s).ownBlock <;> simp) hfree (row_off hfree)) ha h
end
end Go.Hx
