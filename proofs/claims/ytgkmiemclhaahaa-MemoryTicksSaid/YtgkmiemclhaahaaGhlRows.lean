/-
  The rules of the small logic for slices: rows of the call's own, settled slices, append, make, slice expressions; what is built by value.
-/
import Derived.Test.YtgkmiemclhaahaaGhlMem
namespace Go.Ghl
open Go

/-! ### reading -/
theorem row_form {w : World} {K : Kp} {G : List Ent} {v : Value} {t : TypeId} {size : Nat} {xs : List Value} (hs : SatW w K G) (h : Ent.row v t size xs ∈ G) : ∃ n, w.ownsRow 0 t size v n xs := hs.g _ h

theorem Rdc.row {K : Kp} {G : List Ent} {A : Addr} {m c k size : Nat} {t : TypeId} {xs cs : List Value} (h : Ent.row (.slice (some A) m c) t size xs ∈ G) (hd : (xs.drop k).take cs.length = cs) : Rdc K G (A.add k) cs := by
  intro w hs j v hv
  obtain ⟨n, h1, h2⟩ := row_form hs h
  rcases h2 with ⟨h2, _⟩ | ⟨g, cap, cur, h2, _, hg, _, _, _, htake⟩
  · cases h2
  · cases h2
    rw [add_add, add_lit, cell_of_row w g _ _ t (0, 0) hg]
    have hj : j < cs.length := (List.getElem?_eq_some_iff.1 hv).1
    rw [← hd, List.getElem?_take, if_pos hj, List.getElem?_drop, ← htake] at hv
    rw [List.getElem?_take] at hv
    split at hv
    · simpa using hv
    · cases hv

theorem Rdm.row {K : Kp} {G : List Ent} {A : Addr} {m c k size q : Nat} {t : TypeId} {xs : List Value} (h : Ent.row (.slice (some A) m c) t size xs ∈ G) (hl : k + q ≤ xs.length) : Rdm K G (A.add k) q ((xs.drop k).take q) :=
  have hl' : Nat.ble (k + q) xs.length = true := by simpa [Nat.ble_eq] using hl
  ⟨(take_drop_self hl').1, Rdc.row h (take_drop_self hl').2⟩

/-- A slice that reads, element by element, as a list of rows of cells; nothing is said of its spare room. -/
def Sl (K : Kp) (v : Value) (size : Nat) (rows : List (List Value)) : Prop :=
  ∃ A n c, v = .slice A n c ∧ n = rows.length ∧ n ≤ maxLen ∧ n ≤ c ∧ (∀ r ∈ rows, r.length = size) ∧ (0 < n → ∃ a, A = some a ∧ KAt K a rows.flatten)
theorem Sl.mono {K K' : Kp} {v : Value} {size : Nat} {rows : List (List Value)} (h : Sl K v size rows) (hk : K.le K') : Sl K' v size rows := by
  obtain ⟨A, n, c, h1, h2, h3, h4, h5, h6⟩ := h
  exact ⟨A, n, c, h1, h2, h3, h4, h5, fun hn => let ⟨a, e, hr⟩ := h6 hn; ⟨a, e, hr.mono hk⟩⟩
theorem Sl.nil (K : Kp) (size : Nat) : Sl K (.slice none 0 0) size [] := ⟨none, 0, 0, rfl, rfl, by simp [maxLen], Nat.le_refl _, by simp, fun h => absurd h (by omega)⟩

theorem flatten_drop {size : Nat} : ∀ {rows : List (List Value)} (_ : ∀ r ∈ rows, r.length = size) {q : Nat} {r : List Value}, rows[q]? = some r → (rows.flatten.drop (q * size)).take size = r
  | [], _, q, r, h => by simp at h
  | x :: rows, hl, 0, r, h => by
    simp at h
    subst h
    have := hl x (.head _)
    simp [← this]
  | x :: rows, hl, q + 1, r, h => by
    have hx := hl x (.head _)
    have ih := flatten_drop (rows := rows) (fun y hy => hl y (.tail _ hy)) (q := q) (r := r) (by simpa using h)
    rw [List.flatten_cons, Nat.succ_mul, Nat.add_comm, ← List.drop_drop]
    rw [show (x ++ rows.flatten).drop size = rows.flatten by rw [← hx]; simp]
    exact ih
theorem flatten_length {size : Nat} : ∀ {rows : List (List Value)} (_ : ∀ r ∈ rows, r.length = size), rows.flatten.length = rows.length * size
  | [], _ => by simp
  | x :: rows, hl => by
    rw [List.flatten_cons, List.length_append, flatten_length (fun y hy => hl y (.tail _ hy)), hl x (.head _), List.length_cons, Nat.succ_mul]
    omega

theorem KAt.sub {K : Kp} {A : Addr} {all cs : List Value} {k : Nat} (h : KAt K A all) (hd : (all.drop k).take cs.length = cs) : KAt K (A.add k) cs := by
  intro j v hv
  have hj : j < cs.length := (List.getElem?_eq_some_iff.1 hv).1
  rw [← hd, List.getElem?_take, if_pos hj, List.getElem?_drop] at hv
  rw [add_add]
  exact h _ _ hv
theorem Sl.elem {K : Kp} {A : Addr} {n c size q : Nat} {rows : List (List Value)} {r : List Value} (h : Sl K (.slice (some A) n c) size rows) (hq : rows[q]? = some r) : KAt K (A.add (q * size)) r := by
  obtain ⟨A', n', c', h1, h2, _, _, h3, h4⟩ := h
  cases h1
  have hlt : q < rows.length := (List.getElem?_eq_some_iff.1 hq).1
  obtain ⟨a, e, hr⟩ := h4 (by omega)
  cases e
  refine hr.sub ?_
  have hm : r ∈ rows := List.mem_of_getElem? hq
  rw [h3 r hm]
  exact flatten_drop h3 hq

/-- The address of an element. -/
def slA (A : Option Addr) (q size : Nat) : Addr := match A with
  | some a => a.add (q * size)
  | none => ⟨0, 0, none⟩
theorem Sl.at {K : Kp} {A : Option Addr} {n c size q : Nat} {rows : List (List Value)} {r : List Value} (h : Sl K (.slice A n c) size rows) (hq : rows[q]? = some r) : KAt K (slA A q size) r := by
  have hlt : q < rows.length := (List.getElem?_eq_some_iff.1 hq).1
  obtain ⟨A', n', c', e, h2, _, _, _, h4⟩ := id h
  cases e
  obtain ⟨a, e, _⟩ := h4 (by omega)
  subst e
  exact h.elem hq
theorem Sl.len {K : Kp} {A : Option Addr} {n c size : Nat} {rows : List (List Value)} (h : Sl K (.slice A n c) size rows) : n = rows.length ∧ n ≤ maxLen ∧ n ≤ c := by
  obtain ⟨A', n', c', e, h2, h3, h4, _⟩ := h
  cases e
  exact ⟨h2, h3, h4⟩
theorem Sl.ix {K : Kp} {A : Option Addr} {n c size q : Nat} {rows : List (List Value)} {r : List Value} (h : Sl K (.slice A n c) size rows) (hq : rows[q]? = some r) : q < n ∧ ∃ a, A = some a := by
  obtain ⟨A', n', c', e, h2, _, _, _, h4⟩ := h
  cases e
  have hlt : q < rows.length := (List.getElem?_eq_some_iff.1 hq).1
  obtain ⟨a, e, _⟩ := h4 (by omega)
  exact ⟨by omega, a, e⟩

section
variable {P : Program} {n : Nat} {env : Env} {K : Kp} {G : List Ent} {R : Cont} {Q : Post} {ops : Array Oper} {l rest : List Oper}
variable {d : Nat} {dd : Option Tmp} {ty : TypeId} {pos : String} {af : Array Edge} {g : Option (Nat × Bool)}

/-! ### ghost steps -/
theorem Ow.nilRow (t : TypeId) (size : Nat) (h : Ow P n ops l env K (.row (.slice none 0 0) t size [] :: G) R) : Ow P n ops l env K G R :=
  fun E w a hs ha Q hq => h E w a (hs.nilRow t size) ha Q hq
theorem Cw.nilRow {c : Code} (t : TypeId) (size : Nat) (h : Cw P n c env K (.row (.slice none 0 0) t size [] :: G) Q) : Cw P n c env K G Q :=
  fun E w a hs ha => h E w a (hs.nilRow t size) ha
theorem Cw.drop {c : Code} {e : Ent} (h : Cw P n c env K G Q) : Cw P n c env K (e :: G) Q := fun E w a hs ha => h E w a hs.drop ha
theorem Cw.perm {c : Code} {G' : List Ent} (hp : G.Perm G') (h : Cw P n c env K G' Q) : Cw P n c env K G Q := fun E w a hs ha =>
  h E w a { k := hs.k, g := fun x hx => hs.g x (hp.mem_iff.2 hx), os := hs.os, tape := hs.tape, output := hs.output, apart := fun x hx => hs.apart x (hp.mem_iff.2 hx), nodup := (hp.filterMap Ent.own).nodup_iff.1 hs.nodup } ha

theorem sat_settle_row {E w : World} {A : Option Addr} {m c size : Nat} {t : TypeId} {rows : List (List Value)} (hs : Sat E w K (.row (.slice A m c) t size rows.flatten :: G)) (hr : ∀ r ∈ rows, r.length = size) (hz : 0 < size) :
    ∃ K', K.le K' ∧ Sat E w K' G ∧ Sl K' (.slice A m c) size rows := by
  obtain ⟨k, h1, h2⟩ := hs.g _ (.head _)
  have hlen := flatten_length hr
  have hk : k = rows.length := Nat.eq_of_mul_eq_mul_right hz (by rw [← h1, hlen])
  rcases h2 with ⟨h2, h3⟩ | ⟨g, cap, cur, h2, _, hg, hnc, hcm, _, htake⟩
  · cases h2
    exact ⟨K, Kp.le_refl K, hs.drop, none, 0, 0, rfl, by omega, by simp [maxLen], Nat.le_refl _, hr, fun h => absurd h (by omega)⟩
  · cases h2
    obtain ⟨hs', hle⟩ := hs.settle rfl hg
    refine ⟨_, hle, hs', some ⟨g, 0, none⟩, _, _, rfl, hk, by omega, hnc, hr, fun _ => ⟨_, rfl, fun j v hv => ⟨cur, t, (0, 0), ?_, ?_, ?_⟩⟩⟩
    · rw [add_lit]; simp [Kp.add]
    · rw [add_lit]
    · rw [add_lit]
      rw [← htake, List.getElem?_take] at hv
      split at hv
      · simpa using hv
      · cases hv
/-- A row of the call's own is settled: from here on it is a slice that everybody may read. -/
theorem Ow.settle {A : Option Addr} {m c size : Nat} {t : TypeId} (rows : List (List Value)) {xs : List Value} (hx : xs = rows.flatten) (hr : ∀ r ∈ rows, r.length = size) (hz : 0 < size)
    (h : ∀ K', K.le K' → Sl K' (.slice A m c) size rows → Ow P n ops l env K' G R) : Ow P n ops l env K (.row (.slice A m c) t size xs :: G) R := fun E w a hs ha Q hq => by
  subst hx
  obtain ⟨K', hle, hs', hsl⟩ := sat_settle_row hs hr hz
  exact h K' hle hsl E w a hs' ha Q fun a' w' env' K'' G' h1 => hq a' w' env' K'' G' (hle.trans h1)
theorem Cw.settle {c : Code} {A : Option Addr} {m cp size : Nat} {t : TypeId} (rows : List (List Value)) {xs : List Value} (hx : xs = rows.flatten) (hr : ∀ r ∈ rows, r.length = size) (hz : 0 < size)
    (h : ∀ K', K.le K' → Sl K' (.slice A m cp) size rows → Cw P n c env K' G Q) : Cw P n c env K (.row (.slice A m cp) t size xs :: G) Q := fun E w a hs ha => by
  subst hx
  obtain ⟨K', hle, hs', hsl⟩ := sat_settle_row hs hr hz
  exact Code.wp_mono (fun _ _ _ hq => QL.le hle hq) (h K' hle hsl E w a hs' ha)
theorem Fc.settleArg {f : FuncId} {args : Array Value} {Qf : Value → Kp → List Ent → Prop} {A : Option Addr} {m cp size : Nat} {t : TypeId} (rows : List (List Value)) {xs : List Value} (hx : xs = rows.flatten) (hr : ∀ r ∈ rows, r.length = size) (hz : 0 < size)
    (h : ∀ K', K.le K' → Sl K' (.slice A m cp) size rows → Fc P f args K' G Qf) : Fc P f args K (.row (.slice A m cp) t size xs :: G) Qf := fun E w hs => by
  subst hx
  obtain ⟨K', hle, hs', hsl⟩ := sat_settle_row hs hr hz
  exact (h K' hle hsl E w hs').mono fun _ _ ⟨v, K'', G', h1, h2, h3, h4⟩ => ⟨v, K'', G', h1, hle.trans h2, h3, h4⟩

/-- What a row's value looks like. -/
theorem Ow.rowForm {A : Option Addr} {m c size : Nat} {t : TypeId} {xs : List Value} (hm : Ent.row (.slice A m c) t size xs ∈ G)
    (h : xs.length = m * size → m ≤ c → c ≤ maxLen → (0 < m → ∃ a, A = some a) → Ow P n ops l env K G R) : Ow P n ops l env K G R := fun E w a hs ha Q hq => by
  obtain ⟨k, h1, h2⟩ := hs.g _ hm
  rcases h2 with ⟨h2, h3⟩ | ⟨g, cap, cur, h2, _, hg, hnc, hcm, _, htake⟩
  · cases h2
    subst h3
    exact h h1 (Nat.le_refl _) (by simp [maxLen]) (fun hh => absurd hh (by omega)) E w a hs ha Q hq
  · cases h2
    exact h h1 hnc hcm (fun _ => ⟨_, rfl⟩) E w a hs ha Q hq
theorem Cw.rowForm {c : Code} {A : Option Addr} {m cp size : Nat} {t : TypeId} {xs : List Value} (hm : Ent.row (.slice A m cp) t size xs ∈ G)
    (h : xs.length = m * size → m ≤ cp → cp ≤ maxLen → (0 < m → ∃ a, A = some a) → Cw P n c env K G Q) : Cw P n c env K G Q := fun E w a hs ha => by
  obtain ⟨k, h1, h2⟩ := hs.g _ hm
  rcases h2 with ⟨h2, h3⟩ | ⟨g, cap, cur, h2, _, hg, hnc, hcm, _, htake⟩
  · cases h2
    subst h3
    exact h h1 (Nat.le_refl _) (by simp [maxLen]) (fun hh => absurd hh (by omega)) E w a hs ha
  · cases h2
    exact h h1 hnc hcm (fun _ => ⟨_, rfl⟩) E w a hs ha

/-- An element of a settled slice. -/
theorem Qt_ixK {t e : TypeId} {x i : Operand} {A : Option Addr} {m c size : Nat} {k : IntKind} {j : Int} {q : Nat} {rows : List (List Value)} {r : List Value} (hx : ev env x = some (.slice A m c)) (hi : ev env i = some (.int k j)) (ht : P.underlying t = some (.slice e))
    (hs : P.cellsOf e = size) (hz : Nat.beq size 0 = false) (hsl : Sl K (.slice A m c) size rows) (hj : j = (q : Int)) (hr : rows[q]? = some r) : Qt P n ⟨dd, .indexAddr t x i, ty, pos, af, g⟩ env K G (.pointer (some ((slA A q size).add 0))) := by
  obtain ⟨hq, a, rfl⟩ := hsl.ix hr
  have := Qt_indexAddr (P := P) (n := n) (d := dd) (ty := ty) (pos := pos) (af := af) (g := g) (K := K) (G := G) hx hi ht hs hz hj hq
  simpa [slA, Addr.add_zero'] using this
/-- An element of a row of the call's own. -/
theorem Qt_ixG {t e : TypeId} {x i : Operand} {A : Addr} {m c size : Nat} {k : IntKind} {j : Int} {q o : Nat} (hx : ev env x = some (.slice (some A) m c)) (hi : ev env i = some (.int k j)) (ht : P.underlying t = some (.slice e))
    (hs : P.cellsOf e = size) (hz : Nat.beq size 0 = false) (hj : j = (q : Int)) (hq : q < m) (ho : q * size = o) : Qt P n ⟨dd, .indexAddr t x i, ty, pos, af, g⟩ env K G (.pointer (some (A.add o))) := by
  subst ho
  exact Qt_indexAddr hx hi ht hs hz hj hq

/-! ### append -/
/-- A source of cells for append or copy. -/
def Src (K : Kp) (G : List Ent) (v : Value) (m : Nat) (cs : List Value) : Prop :=
  ∃ A c, v = .slice A m c ∧ ∀ w, SatW w K G → 0 < m → ∃ a, A = some a ∧ ∀ j u, cs[j]? = some u → w.cell? (a.add j) = some u
theorem Src.sl {v : Value} {size : Nat} {rows : List (List Value)} (h : Sl K v size rows) : Src K G v rows.length rows.flatten := by
  obtain ⟨A, k, c, rfl, rfl, _, _, hr, h4⟩ := h
  refine ⟨A, c, rfl, fun w hs hk => ?_⟩
  obtain ⟨a, e, hr'⟩ := h4 hk
  exact ⟨a, e, fun j u hu => hr'.cell hs hu⟩
theorem Src.row {A : Option Addr} {m c size : Nat} {t : TypeId} {xs : List Value} (h : Ent.row (.slice A m c) t size xs ∈ G) : Src K G (.slice A m c) m xs := by
  refine ⟨A, c, rfl, fun w hs hm => ?_⟩
  obtain ⟨k, h1, h2⟩ := row_form hs h
  rcases h2 with ⟨h2, h3⟩ | ⟨g, cap, cur, h2, _, hg, hnc, hcm, _, htake⟩
  · cases h2; omega
  · cases h2
    exact ⟨_, rfl, World.ownsRow.cells (w := w) (base := 0) (e := t) (size := size) ⟨h1, .inr ⟨g, _, cur, rfl, Nat.zero_le _, hg, hnc, hcm, ‹_›, htake⟩⟩ rfl⟩
theorem Src.nil (K : Kp) (G : List Ent) (c : Nat) : Src K G (.slice none 0 c) 0 [] := ⟨none, c, rfl, fun _ _ h => absurd h (by omega)⟩

theorem OpW_append {t e : TypeId} {s x : Operand} {A : Option Addr} {m c k size bytes : Nat} {u : Value} {i : TypeInfo} {z : Value} {xs news : List Value} (hlt : Nat.blt d n = true)
    (hx : ev env s = some (.slice A m c)) (hy : ev env x = some u) (hm : Ent.row (.slice A m c) e size xs ∈ G) (hsrc : Src K G u k news) (hl : news.length = k * size)
    (ht : P.underlying t = some (.slice e)) (hi : P.info? e = some i) (hz : i.zero = some z) (hsize : i.size = size) (hby : i.bytes = bytes) (hzs : z.cells.size = size) (hsz : 0 < size)
    (h1 : ∀ y ∈ news, y.oneCell' = true) (h63 : m + k ≤ maxLen) (hbytes : (m + k) * bytes ≤ 140737488355328)
    (h : ∀ A' c', (0 < m + k → ∃ a, A' = some a) → ∃ G', Upd G (.row (.slice A m c) e size xs) (.row (.slice A' (m + k) c') e size (xs ++ news)) G' ∧ R ((d, .slice A' (m + k) c') :: env) K G') :
    OpW P n ⟨some d, .call { callee := .builtin .append, args := #[s, x], argTypes := #[t, t] }, ty, pos, af, g⟩ env K G R :=
  fun E w a hs ha next Q hk => by
    obtain ⟨B, c2, rfl, hr⟩ := hsrc
    obtain ⟨m', hown⟩ := hs.g _ hm
    have hm' : m' = m := by
      rcases hown.2 with ⟨h2, h3⟩ | ⟨g, cap, cur, h2, _⟩
      · cases h2; exact h3
      · cases h2; rfl
    subst hm'
    -- whatever the source's address, the run is one of two
    have key : ∃ v' w', (Builtin.append_ #[t, t] ty #[.slice A m' c, .slice B k c2]).run P w = .ok v' w' ∧ w'.ownsRow 0 e size v' (m' + k) (xs ++ news) ∧ w.grownBy w' (Value.slice A m' c).ownBlock ∧
        (v'.ownBlock = (Value.slice A m' c).ownBlock ∨ v'.ownBlock = some w.heap.size) := by
      cases B with
      | none =>
        have hk0 : k = 0 := by
          rcases Nat.eq_zero_or_pos k with h0 | h0
          · exact h0
          · obtain ⟨a, h, _⟩ := hr w hs.toSatW h0; cases h
        subst hk0
        have hn : news = [] := List.eq_nil_of_length_eq_zero (by simpa using hl)
        subst hn
        refine ⟨.slice A m' c, w, ?_, by simpa using hown, World.grownBy.refl w _, .inl rfl⟩
        rcases hown.2 with ⟨h2, h3⟩ | ⟨g, cap, cur, h2, _, _, hnc, _⟩
        · cases h2
          simp [Builtin.append_, run_underlying ht, sizeOf, typeInfo, hi, Builtin.lenOf, Builtin.firstCells]
        · cases h2
          simp [Builtin.append_, run_underlying ht, sizeOf, typeInfo, hi, Builtin.lenOf, Builtin.firstCells, hnc, storeCells]
      | some ad =>
        have hcells : ∀ j y, news[j]? = some y → w.cell? (ad.add j) = some y := by
          intro j y hy'
          rcases Nat.eq_zero_or_pos k with h0 | h0
          · subst h0
            have hn : news = [] := List.eq_nil_of_length_eq_zero (by simpa using hl)
            subst hn
            simp at hy'
          · obtain ⟨a', h', hc⟩ := hr w hs.toSatW h0
            cases h'
            exact hc j y hy'
        obtain ⟨v', w', h2, h3, h4, _, h5⟩ := run_append_own_at (P := P) w 0 t ty e i z size bytes ht hi hz hsize hby hzs hsz _ m' xs hown ad k c2 news hl hcells h1 h63 hbytes (Nat.zero_le _)
        exact ⟨v', w', h2, h3, h4, h5⟩
    obtain ⟨v', w', hrun, hown', hgr, hat⟩ := key
    have hform : ∃ A' c', v' = .slice A' (m' + k) c' ∧ (0 < m' + k → ∃ a, A' = some a) := by
      rcases hown'.2 with ⟨h2, h3⟩ | ⟨g, cap, cur, h2, _⟩
      · exact ⟨none, 0, by rw [h2, h3], fun h => absurd h (by omega)⟩
      · exact ⟨_, _, h2, fun _ => ⟨_, rfl⟩⟩
    obtain ⟨A', c', rfl, hA'⟩ := hform
    obtain ⟨G', hu, hR⟩ := h A' c' hA'
    unfold Oper.wp
    simp only [execOp, resolve, Sem.run_bind, Sem.run_pure, Result.andThen_ok, invoke, builtin, List.map_toArray, List.map_cons, List.map_nil, ha.ev hx, ha.ev hy, hrun]
    rw [Oper.upon_value]
    refine hk _ _ _ _ _ (Kp.le_refl K) (hs.upd hu hgr.os hgr.tape hgr.output (fun b hb hne => hgr.block b hb (fun e => hne e.symm)) ⟨_, hown'⟩ (fun b hb => ?_)) (ha.put (lt_of_blt hlt) _) hR
    rcases hat with h2 | h2
    · have hb' : (Value.slice A' (m' + k) c').ownBlock = some b := hb
      rw [h2] at hb'
      exact .inl hb'
    · right
      have hb' : (Value.slice A' (m' + k) c').ownBlock = some b := hb
      rw [h2] at hb'
      cases hb'
      exact Nat.le_refl _

/-! ### make -/
theorem OpW_make {t e : TypeId} {lo co : Operand} {kl kc : IntKind} {m size bytes : Nat} {i : TypeInfo} {z : Value} {ml mc : Int} (hlt : Nat.blt d n = true) (hl : ev env lo = some (.int kl ml)) (hc : ev env co = some (.int kc mc)) (hml : ml = (m : Int)) (hmc : mc = (m : Int))
    (ht : P.underlying t = some (.slice e)) (hi : P.info? e = some i) (hz : i.zero = some z) (hsize : i.size = size) (hby : i.bytes = bytes) (hbytes : bytes * m ≤ 281474976710656) (h63 : m ≤ maxLen)
    (h : ∀ a, R ((d, .slice (some a) m m) :: env) K (.row (.slice (some a) m m) e size (madeCells z.cells (m * size)).toList :: G)) :
    OpW P n ⟨some d, .makeSlice t lo co, ty, pos, af, g⟩ env K G R := fun E w a hs ha next Q hk => by
  subst hml hmc
  subst hsize
  have hb' : (i.bytes : Int) * (m : Int) ≤ 281474976710656 := by
    have h : ((i.bytes * m : Nat) : Int) ≤ 281474976710656 := by rw [hby]; omega
    rwa [Int.natCast_mul] at h
  have h63' : (m : Int) ≤ 9223372036854775807 := by have h := h63; simp [maxLen] at h; omega
  have hr := run_make (P := P) w t e i z ht hi hz kl kc m m (by omega) (Int.le_refl _) hb' h63'
  simp only [Int.toNat_natCast] at hr
  unfold Oper.wp
  simp only [execOp, ha.ev hl, ha.ev hc, Sem.run_bind, Sem.run_pure, Result.andThen_ok, hr]
  rw [Oper.upon_value]
  exact hk _ _ _ _ _ (Kp.le_refl K) (hs.new (e := .row (.slice (some ⟨w.heap.size, 0, none⟩) m m) e i.size (madeCells z.cells (m * i.size)).toList) ⟨m, World.ownsRow_lit w _ m (Nat.zero_le _) h63 (size_madeCells _ _)⟩ rfl) (ha.put (lt_of_blt hlt) _) (h _)

/-! ### slice expressions -/
theorem Qt_slice_h {t e : TypeId} {x hi : Operand} {A : Option Addr} {m c q : Nat} {k : IntKind} {j : Int} {mx : Option Operand} (hx : ev env x = some (.slice A m c)) (hh : ev env hi = some (.int k j)) (ht : P.underlying t = some (.slice e)) (hsz : (P.info? e).isSome = true)
    (hmx : mx = none) (hj : j = (q : Int)) (hq : q ≤ c) : Qt P n ⟨dd, .slice t x none (some hi) mx, ty, pos, af, g⟩ env K G (.slice A q c) := fun w a _ ha => by
  subst hmx hj
  obtain ⟨i, hi'⟩ := Option.isSome_iff_exists.1 hsz
  cases A <;> simp [execOp, ha.ev hx, ha.ev hh, Instr.sliceAt, run_und ht, Instr.slice, Instr.sliceBounds, Instr.sliceBound, asIntOf, hq, sizeOf, typeInfo, hi', Addr.add]
/-- The value of 's[lo:hi]'. -/
def slCut (A : Option Addr) (c size lo hi : Nat) : Value := .slice (if c = lo then A else A.map (·.add (lo * size))) (hi - lo) (c - lo)
theorem Qt_slice_l {t e : TypeId} {x lo : Operand} {A : Option Addr} {m c q size : Nat} {k : IntKind} {j : Int} (hx : ev env x = some (.slice A m c)) (hh : ev env lo = some (.int k j)) (ht : P.underlying t = some (.slice e)) (hs : P.cellsOf e = size) (hz : Nat.beq size 0 = false)
    (hj : j = (q : Int)) (hq : q ≤ m) : Qt P n ⟨dd, .slice t x (some lo) none none, ty, pos, af, g⟩ env K G (slCut A c size q m) := fun w a _ ha => by
  have hz' : size ≠ 0 := fun e => by rw [e] at hz; cases hz
  subst hj
  have hr := run_size hs hz' w
  simp [execOp, ha.ev hx, ha.ev hh, Instr.sliceAt, run_und ht, Instr.slice, Instr.sliceBounds, Instr.sliceBound, asIntOf, hq, hr, slCut]
theorem Qt_slice_lh {t e : TypeId} {x lo hi : Operand} {A : Option Addr} {m c q r size : Nat} {k k' : IntKind} {j j' : Int} (hx : ev env x = some (.slice A m c)) (hh : ev env lo = some (.int k j)) (hh' : ev env hi = some (.int k' j')) (ht : P.underlying t = some (.slice e)) (hs : P.cellsOf e = size) (hz : Nat.beq size 0 = false)
    (hj : j = (q : Int)) (hj' : j' = (r : Int)) (hq : q ≤ r) (hrc : r ≤ c) : Qt P n ⟨dd, .slice t x (some lo) (some hi) none, ty, pos, af, g⟩ env K G (slCut A c size q r) := fun w a _ ha => by
  have hz' : size ≠ 0 := fun e => by rw [e] at hz; cases hz
  subst hj hj'
  have hr := run_size hs hz' w
  simp [execOp, ha.ev hx, ha.ev hh, ha.ev hh', Instr.sliceAt, run_und ht, Instr.slice, Instr.sliceBounds, Instr.sliceBound, asIntOf, hq, hrc, hr, slCut]
theorem Sl.cut {K : Kp} {A : Option Addr} {m c size lo hi : Nat} {rows : List (List Value)} (h : Sl K (.slice A m c) size rows) (h1 : lo ≤ hi) (h2 : hi ≤ m) : Sl K (slCut A c size lo hi) size ((rows.take hi).drop lo) := by
  obtain ⟨A', m', c', e, h3, h4, h5, h6, h7⟩ := h
  cases e
  have hr' : ∀ r ∈ (rows.take hi).drop lo, r.length = size := fun r hr => h6 r (List.mem_of_mem_take (List.mem_of_mem_drop hr))
  refine ⟨_, _, _, rfl, by simp; omega, by omega, by omega, hr', fun hlt => ?_⟩
  obtain ⟨a, rfl, ha⟩ := h7 (by omega)
  rw [if_neg (by omega)]
  refine ⟨_, rfl, ha.sub ?_⟩
  rw [flatten_length hr', List.length_drop, List.length_take]
  -- both sides are the rows in between
  have key : ∀ (rows : List (List Value)) (_ : ∀ r ∈ rows, r.length = size) (lo hi : Nat), lo ≤ hi → hi ≤ rows.length → (rows.flatten.drop (lo * size)).take ((hi - lo) * size) = ((rows.take hi).drop lo).flatten := by
    intro rows
    induction rows with
    | nil => intro _ lo hi _ h; simp at h; subst h; simp
    | cons r rows ih =>
      intro hrs lo hi h1 h2
      have hr := hrs r (.head _)
      cases lo with
      | succ lo =>
        cases hi with
        | zero => omega
        | succ hi =>
          simp only [List.flatten_cons, List.take_succ_cons, List.drop_succ_cons]
          have hd : (r ++ rows.flatten).drop size = rows.flatten := by rw [← hr]; simp
          rw [← ih (fun y hy => hrs y (.tail _ hy)) lo hi (by omega) (by simpa using h2), show (lo + 1) * size = size + lo * size by rw [Nat.succ_mul]; omega, ← List.drop_drop, hd, show hi + 1 - (lo + 1) = hi - lo by omega]
      | zero =>
        cases hi with
        | zero => simp
        | succ hi =>
          have := ih (fun y hy => hrs y (.tail _ hy)) 0 hi (by omega) (by simpa using h2)
          simp only [Nat.zero_mul, List.drop_zero, Nat.sub_zero] at this ⊢
          simp only [List.flatten_cons, List.take_succ_cons]
          rw [← this, Nat.succ_mul, List.take_append, hr, show hi * size + size - size = hi * size by omega, List.take_of_length_le (by rw [hr]; omega)]
  rw [show min hi rows.length - lo = hi - lo by omega]
  exact key rows h6 lo hi h1 (by omega)
end
end Go.Ghl
