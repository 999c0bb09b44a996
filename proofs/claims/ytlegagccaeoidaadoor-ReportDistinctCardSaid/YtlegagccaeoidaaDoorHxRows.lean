/-
  The rules of the small logic for slices: rows of the call's own, settled slices, append, make, slice expressions; what is built by value.
-/
import Derived.Test.YtlegagccaeoidaaDoorHxMem
namespace Go.Hx
open Go

/-! ### reading -/
theorem row_form {w : World} {K : Kp} {G : List Ent} {v : Value} {t : TypeId} {size : Nat} {xs : List Value} (hs : SatW w K G) (h : Ent.row v t size xs ∈ G) : ∃ n, w.ownsRow 0 t size v n xs := hs.g _ h

theorem Rdc.row {K : Kp} {G : List Ent} {A : Addr} {m c k size : Nat} {t : TypeId} {xs cs : List Value} (h : Ent.row (.slice (some A) m c) t size xs ∈ G) (hd : (xs.drop k).take cs.length = cs) : Rdc K G (A.add k) cs := by
  intro w hs j v hv
  obtain ⟨n, h1, h2⟩ := row_form hs h
  rcases h2 with ⟨h2, _⟩ | ⟨g, cap, cur, h2, _, hg, _, _, _, htake⟩
  · cases h2
  · cases h2
    rw [add_add, add_lit, cell_of_row w g _ _ t (0, 0) hg]
    have hj : j < cs.length := (List.getElem?_eq_some_iff.1 hv).1
    rw [← hd, List.getElem?_take, if_pos hj, List.getElem?_drop, ← htake] at hv
    rw [List.getElem?_take] at hv
    split at hv
    · simpa using hv
    · cases hv

theorem Rdm.row {K : Kp} {G : List Ent} {A : Addr} {m c k size q : Nat} {t : TypeId} {xs : List Value} (h : Ent.row (.slice (some A) m c) t size xs ∈ G) (hl : k + q ≤ xs.length) : Rdm K G (A.add k) q ((xs.drop k).take q) :=
  have hl' : Nat.ble (k + q) xs.length = true := by simpa [Nat.ble_eq] using hl
  ⟨(take_drop_self hl').1, Rdc.row h (take_drop_self hl').2⟩

/-- A slice that reads, element by element, as a list of rows of cells; nothing is said of its spare room. -/
def Sl (K : Kp) (v : Value) (size : Nat) (rows : List (List Value)) : Prop :=
  ∃ A n c, v = .slice A n c ∧ n = rows.length ∧ n ≤ maxLen ∧ n ≤ c ∧ (∀ r ∈ rows, r.length = size) ∧ (0 < n → ∃ a, A = some a ∧ KAt K a rows.flatten)
theorem Sl.mono {K K' : Kp} {v : Value} {size : Nat} {rows : List (List Value)} (h : Sl K v size rows) (hk : K.le K') : Sl K' v size rows := by
  obtain ⟨A, n, c, h1, h2, h3, h4, h5, h6⟩ := h
  exact ⟨A, n, c, h1, h2, h3, h4, h5, fun hn => let ⟨a, e, hr⟩ := h6 hn; ⟨a, e, hr.mono hk⟩⟩
theorem Sl.nil (K : Kp) (size : Nat) : Sl K (.slice none 0 0) size [] := ⟨none, 0, 0, rfl, rfl, by simp [maxLen], Nat.le_refl _, by simp, fun h => absurd h (by omega)⟩

theorem flatten_drop {size : Nat} : ∀ {rows : List (List Value)} (_ : ∀ r ∈ rows, r.length = size) {q : Nat} {r : List Value}, rows[q]? = some r → (rows.flatten.drop (q * size)).take size = r
  | [], _, q, r, h => by simp at h
  | x :: rows, hl, 0, r, h => by
    simp at h
    subst h
    have := hl x (.head _)
    simp [← this]
  | x :: rows, hl, q + 1, r, h => by
    have hx := hl x (.head _)
    have ih := flatten_drop (rows := rows) (fun y hy => hl y (.tail _ hy)) (q := q) (r := r) (by simpa using h)
    rw [List.flatten_cons, Nat.succ_mul, Nat.add_comm, ← List.drop_drop]
    rw [show (x ++ rows.flatten).drop size = rows.flatten by rw [← hx]; simp]
    exact ih
theorem flatten_length {size : Nat} : ∀ {rows : List (List Value)} (_ : ∀ r ∈ rows, r.length = size), rows.flatten.length = rows.length * size
  | [], _ => by simp
  | x :: rows, hl => by
    rw [List.flatten_cons, List.length_append, flatten_length (fun y hy => hl y (.tail _ hy)), hl x (.head _), List.length_cons, Nat.succ_mul]
    omega

theorem KAt.sub {K : Kp} {A : Addr} {all cs : List Value} {k : Nat} (h : KAt K A all) (hd : (all.drop k).take cs.length = cs) : KAt K (A.add k) cs := by
  intro j v hv
  have hj : j < cs.length := (List.getElem?_eq_some_iff.1 hv).1
  rw [← hd, List.getElem?_take, if_pos hj, List.getElem?_drop] at hv
  rw [add_add]
  exact h _ _ hv
theorem Sl.elem {K : Kp} {A : Addr} {n c size q : Nat} {rows : List (List Value)} {r : List Value} (h : Sl K (.slice (some A) n c) size rows) (hq : rows[q]? = some r) : KAt K (A.add (q * size)) r := by
  obtain ⟨A', n', c', h1, h2, _, _, h3, h4⟩ := h
  cases h1
  have hlt : q < rows.length := (List.getElem?_eq_some_iff.1 hq).1
  obtain ⟨a, e, hr⟩ := h4 (by omega)
  cases e
  refine hr.sub ?_
  have hm : r ∈ rows := List.mem_of_getElem? hq
  rw [h3 r hm]
  exact flatten_drop h3 hq

/-- A slice as a value. -/
structure SV where
  A : Option Addr
  n : Nat
  c : Nat
def sv (s : SV) : Value := .slice s.A s.n s.c
def nilS : SV := ⟨none, 0, 0⟩
/-- The address of an element of a slice. -/
def elA (v : Value) (q size : Nat) : Addr := match v with
  | .slice (some a) _ _ => a.add (q * size)
  | _ => ⟨0, 0, none⟩
theorem Sl.at {K : Kp} {v : Value} {size q : Nat} {rows : List (List Value)} {r : List Value} (h : Sl K v size rows) (hq : rows[q]? = some r) : KAt K (elA v q size) r := by
  have hlt : q < rows.length := (List.getElem?_eq_some_iff.1 hq).1
  obtain ⟨A, n, c, rfl, h2, _, _, _, h4⟩ := id h
  obtain ⟨a, rfl, _⟩ := h4 (by omega)
  exact h.elem hq

section
variable {P : Program} {n : Nat} {env : Env} {K : Kp} {G : List Ent} {R : Cont} {Q : Post} {ops : Array Oper} {l rest : List Oper}
variable {d : Nat} {dd : Option Tmp} {ty : TypeId} {pos : String} {af : Array Edge} {g : Option (Nat × Bool)}

/-! ### ghost steps -/
theorem Ow.ghost {G' : List Ent} (hp : ∀ E w, Sat E w K G → Sat E w K G') (h : Ow P n ops l env K G' R) : Ow P n ops l env K G R := fun E w a hs ha Q hq => h E w a (hp E w hs) ha Q hq
theorem Cw.ghost {c : Code} {G' : List Ent} (hp : ∀ E w, Sat E w K G → Sat E w K G') (h : Cw P n c env K G' Q) : Cw P n c env K G Q := fun E w a hs ha => h E w a (hp E w hs) ha
inductive Rem : List Ent → Ent → List Ent → Prop
  | here {e : Ent} {G : List Ent} : Rem (e :: G) e G
  | there {x e : Ent} {G G2 : List Ent} : Rem G e G2 → Rem (x :: G) e (x :: G2)
theorem Rem.perm {G G2 : List Ent} {e : Ent} (h : Rem G e G2) : G.Perm (e :: G2) := by
  induction h with
  | here => exact List.Perm.refl _
  | there _ ih => exact (ih.cons _).trans (List.Perm.swap _ _ _)
theorem Sat.rem {E w : World} {e : Ent} {G2 : List Ent} (h : Sat E w K G) (hr : Rem G e G2) : Sat E w K G2 := (h.perm hr.perm).drop
theorem Ow.rem {e : Ent} {G2 : List Ent} (hr : Rem G e G2) (h : Ow P n ops l env K G2 R) : Ow P n ops l env K G R := Ow.ghost (fun _ _ hs => hs.rem hr) h
theorem Cw.rem {c : Code} {e : Ent} {G2 : List Ent} (hr : Rem G e G2) (h : Cw P n c env K G2 Q) : Cw P n c env K G Q := Cw.ghost (fun _ _ hs => hs.rem hr) h
theorem Ow.nilRow (t : TypeId) (size : Nat) (h : Ow P n ops l env K (.row (.slice none 0 0) t size [] :: G) R) : Ow P n ops l env K G R := Ow.ghost (fun _ _ hs => hs.nilRow t size) h
theorem Cw.nilRow {c : Code} (t : TypeId) (size : Nat) (h : Cw P n c env K (.row (.slice none 0 0) t size [] :: G) Q) : Cw P n c env K G Q := Cw.ghost (fun _ _ hs => hs.nilRow t size) h
theorem Ow.nilTok (t : TypeId) (size m : Nat) (h : Ow P n ops l env K (.tok t size (List.replicate m (.slice none 0 0)) :: G) R) : Ow P n ops l env K G R := Ow.ghost (fun _ _ hs => hs.nilTok t size m) h
theorem Cw.nilTok {c : Code} (t : TypeId) (size m : Nat) (h : Cw P n c env K (.tok t size (List.replicate m (.slice none 0 0)) :: G) Q) : Cw P n c env K G Q := Cw.ghost (fun _ _ hs => hs.nilTok t size m) h

/-- A row of the call's own is settled: everybody may read it from here on; what is left is the room behind it. -/
theorem sat_settle {E w : World} {G' : List Ent} {v : Value} {size : Nat} {t : TypeId} {rows : List (List Value)} (hs : Sat E w K G) (hu : Upd G (.row v t size rows.flatten) (.tok t size [v]) G') (hr : ∀ r ∈ rows, r.length = size) (hz : 0 < size) :
    ∃ K', K.le K' ∧ Sat E w K' G' ∧ Sl K' v size rows := by
  obtain ⟨R, h1, h2⟩ := hu.perms
  have h' := hs.perm h1
  obtain ⟨k, hk⟩ := h'.g _ (.head _)
  have hf := h'.apart _ (.head _)
  have hlen := flatten_length hr
  have hkr : k = rows.length := Nat.eq_of_mul_eq_mul_right hz (by rw [← hk.1, hlen])
  rcases hk.2 with ⟨rfl, h3⟩ | ⟨g, cap, cur, rfl, _, hg, hnc, hcm, hcs, htake⟩
  · subst h3
    refine ⟨K, Kp.le_refl K, ?_, none, 0, 0, rfl, by omega, by simp [maxLen], Nat.le_refl _, hr, fun h => absurd h (by omega)⟩
    exact ((h'.drop).nilTok t size 1).perm h2.symm
  · have hoff : K.off g 0 := hf g rfl
    have hcell : ∀ j v, rows.flatten[j]? = some v → cur[j]? = some v := fun j v hj => by
      rw [← htake, List.getElem?_take] at hj
      split at hj
      · simpa using hj
      · cases hj
    have hle : K.le (K.add g rows.flatten) := Kp.le_add fun j v u _ hc => by rw [hoff.2 j (Nat.zero_le _)] at hc; cases hc
    refine ⟨_, hle, ?_, some ⟨g, 0, none⟩, _, _, rfl, hkr, by omega, hnc, hr, fun _ => ⟨_, rfl, fun j v hv => ?_⟩⟩
    · refine (Sat.upd1 (K' := K.add g rows.flatten) h' rfl rfl rfl (fun _ _ _ => rfl) rfl (fun b hb j => Kp.add_other (fun e => hb (by subst e; simp [Ent.own, Value.ownBlock]))) (fun b hb j v hc => ?_) (fun b hb hb' => absurd (by simpa [Ent.own] using hb) (by simpa [Ent.own] using hb')) ?_ ?_ ?_ ?_).perm h2.symm
      · have hbg : b = g := by simpa [Ent.own, Value.ownBlock, eq_comm] using hb
        subst hbg
        refine ⟨cur, t, (0, 0), hg, ?_⟩
        cases hj : rows.flatten[j]? with
        | some u => rw [Kp.add_same hj] at hc; cases hc; exact hcell j _ hj
        | none => rw [Kp.add_beyond (List.getElem?_eq_none_iff.1 hj), hoff.2 j (Nat.zero_le _)] at hc; cases hc
      · intro v hv
        simp at hv
        subst hv
        exact ⟨_, _, hk⟩
      · intro v hv A n' c' e
        simp at hv
        subst hv
        cases e
        refine ⟨hoff.1, fun j hj => ?_⟩
        show (K.add g rows.flatten).c g j = none
        rw [Kp.add_beyond (by rw [hk.1]; exact hj)]
        exact hoff.2 j (Nat.zero_le _)
      · intro b hb; left; simpa [Ent.own] using hb
      · simp [Ent.own, Value.ownBlock]
    · rw [add_lit]
      exact ⟨rfl, by rw [Nat.zero_add]; exact Kp.add_same hv⟩
theorem Ow.settle {G' : List Ent} {v : Value} {size : Nat} {t : TypeId} {rows : List (List Value)} (hu : Upd G (.row v t size rows.flatten) (.tok t size [v]) G') (hr : ∀ r ∈ rows, r.length = size) (hz : 0 < size)
    (h : ∀ K', K.le K' → Sl K' v size rows → Ow P n ops l env K' G' R) : Ow P n ops l env K G R := fun E w a hs ha Q hq => by
  obtain ⟨K', hle, hs', hsl⟩ := sat_settle hs hu hr hz
  exact h K' hle hsl E w a hs' ha Q fun a' w' env' K'' G' h1 => hq a' w' env' K'' G' (hle.trans h1)
theorem Cw.settle {c : Code} {G' : List Ent} {v : Value} {size : Nat} {t : TypeId} {rows : List (List Value)} (hu : Upd G (.row v t size rows.flatten) (.tok t size [v]) G') (hr : ∀ r ∈ rows, r.length = size) (hz : 0 < size)
    (h : ∀ K', K.le K' → Sl K' v size rows → Cw P n c env K' G' Q) : Cw P n c env K G Q := fun E w a hs ha => by
  obtain ⟨K', hle, hs', hsl⟩ := sat_settle hs hu hr hz
  exact Code.wp_mono (fun _ _ _ hq => QL.le hle hq) (h K' hle hsl E w a hs' ha)

/-- What a row's value looks like. -/
theorem row_shape {w : World} {v : Value} {t : TypeId} {size : Nat} {rows : List (List Value)} (h : (Ent.row v t size rows.flatten).holds w) (hr : ∀ r ∈ rows, r.length = size) (hz : 0 < size) :
    ∃ A c, v = .slice A rows.length c ∧ rows.length ≤ c ∧ rows.length ≤ maxLen ∧ (0 < rows.length → ∃ g, A = some ⟨g, 0, none⟩) := by
  obtain ⟨k, h1, h2⟩ := h
  have hlen := flatten_length hr
  have hkr : k = rows.length := Nat.eq_of_mul_eq_mul_right hz (by rw [← h1, hlen])
  rcases h2 with ⟨h2, h3⟩ | ⟨g, cap, cur, h2, _, hg, hnc, hcm, _, htake⟩
  · exact ⟨none, 0, by rw [h2, ← hkr, h3], by omega, by simp only [maxLen]; omega, fun hh => absurd hh (by omega)⟩
  · exact ⟨some ⟨g, 0, none⟩, cap, by rw [h2, ← hkr], by omega, by omega, fun _ => ⟨_, rfl⟩⟩

/-- An element of a settled slice. -/
theorem Qt_ixK {t e : TypeId} {x i : Operand} {v : Value} {size : Nat} {k : IntKind} {j : Int} {q : Nat} {rows : List (List Value)} {r : List Value} (hx : ev env x = some v) (hi : ev env i = some (.int k j)) (ht : P.underlying t = some (.slice e))
    (hs : P.cellsOf e = size) (hz : Nat.beq size 0 = false) (hsl : Sl K v size rows) (hj : j = (q : Int)) (hr : rows[q]? = some r) : Qt P n ⟨dd, .indexAddr t x i, ty, pos, af, g⟩ env K G (.pointer (some ((elA v q size).add 0))) := by
  obtain ⟨A, m, c, rfl, h2, _, _, _, h4⟩ := hsl
  have hlt : q < rows.length := (List.getElem?_eq_some_iff.1 hr).1
  obtain ⟨a, rfl, _⟩ := h4 (by omega)
  have := Qt_indexAddr (P := P) (n := n) (d := dd) (ty := ty) (pos := pos) (af := af) (g := g) (K := K) (G := G) hx hi ht hs hz hj (by omega)
  simpa [elA, Addr.add_zero'] using this
/-- An element of a row of the call's own. -/
theorem Qt_ixG {t e t' : TypeId} {x i : Operand} {v : Value} {size : Nat} {k : IntKind} {j : Int} {q : Nat} {rows : List (List Value)} {r : List Value} (hx : ev env x = some v) (hi : ev env i = some (.int k j)) (ht : P.underlying t = some (.slice e))
    (hs : P.cellsOf e = size) (hz : Nat.beq size 0 = false) (hm : Ent.row v t' size rows.flatten ∈ G) (hrs : ∀ r ∈ rows, r.length = size) (hj : j = (q : Int)) (hr : rows[q]? = some r) : Qt P n ⟨dd, .indexAddr t x i, ty, pos, af, g⟩ env K G (.pointer (some ((elA v q size).add 0))) := by
  intro w a hsat ha
  have hz' : 0 < size := by rcases Nat.eq_zero_or_pos size with h0 | h0; · rw [h0] at hz; cases hz
                            · exact h0
  obtain ⟨A, c, rfl, h1, h2, h3⟩ := row_shape (hsat.g _ hm) hrs hz'
  have hlt : q < rows.length := (List.getElem?_eq_some_iff.1 hr).1
  obtain ⟨g0, rfl⟩ := h3 (by omega)
  have := Qt_indexAddr (P := P) (n := n) (d := dd) (ty := ty) (pos := pos) (af := af) (g := g) (K := K) (G := G) hx hi ht hs hz hj hlt w a hsat ha
  simpa [elA, Addr.add_zero'] using this
theorem Rdc.rowR {t : TypeId} {v : Value} {size q off : Nat} {rows : List (List Value)} {r cs : List Value} (h : Ent.row v t size rows.flatten ∈ G) (hrs : ∀ r ∈ rows, r.length = size) (hr : rows[q]? = some r) (hd : (r.drop off).take cs.length = cs) (hl : Nat.ble (off + cs.length) size = true) : Rdc K G ((elA v q size).add off) cs := by
  intro w hs j u hu
  have hz' : 0 < size ∨ cs.length = 0 := by have : off + cs.length ≤ size := by simpa [Nat.ble_eq] using hl
                                            omega
  rcases hz' with hz' | h0
  · obtain ⟨A, c, rfl, h1, h2, h3⟩ := row_shape (hs.g _ h) hrs hz'
    have hlt : q < rows.length := (List.getElem?_eq_some_iff.1 hr).1
    obtain ⟨g0, rfl⟩ := h3 (by omega)
    have hl' : off + cs.length ≤ size := by simpa [Nat.ble_eq] using hl
    have h5 := flatten_drop hrs hr
    have : (rows.flatten.drop (q * size + off)).take cs.length = cs := by
      rw [← List.drop_drop]
      conv => rhs; rw [← hd, ← h5]
      rw [List.drop_take, List.take_take]
      congr 1
      omega
    have h6 := Rdc.row (K := K) h this w hs j u hu
    rw [show (elA (.slice (some ⟨g0, 0, none⟩) rows.length c) q size).add off = (⟨g0, 0, none⟩ : Addr).add (q * size + off) by simp only [elA]; rw [add_add]]
    exact h6
  · rw [List.eq_nil_of_length_eq_zero h0] at hu; simp at hu

/-! ### append -/
/-- A source of cells for append or copy. -/
def Src (K : Kp) (G : List Ent) (v : Value) (m : Nat) (cs : List Value) : Prop :=
  ∀ w, SatW w K G → ∃ A c, v = .slice A m c ∧ (0 < m → ∃ a, A = some a ∧ ∀ j u, cs[j]? = some u → w.cell? (a.add j) = some u)
theorem Src.sl {v : Value} {size : Nat} {rows : List (List Value)} (h : Sl K v size rows) : Src K G v rows.length rows.flatten := by
  obtain ⟨A, k, c, rfl, rfl, _, _, hr, h4⟩ := h
  refine fun w hs => ⟨A, c, rfl, fun hk => ?_⟩
  obtain ⟨a, e, hr'⟩ := h4 hk
  exact ⟨a, e, fun j u hu => hr'.cell hs hu⟩
theorem Src.row {v : Value} {size : Nat} {t : TypeId} {rows : List (List Value)} (h : Ent.row v t size rows.flatten ∈ G) (hr : ∀ r ∈ rows, r.length = size) (hz : 0 < size) : Src K G v rows.length rows.flatten := by
  intro w hs
  obtain ⟨k, h1, h2⟩ := row_form hs h
  have hlen := flatten_length hr
  have hkr : k = rows.length := Nat.eq_of_mul_eq_mul_right hz (by rw [← h1, hlen])
  rcases h2 with ⟨h2, h3⟩ | ⟨g, cap, cur, h2, _, hg, hnc, hcm, _, htake⟩
  · exact ⟨none, 0, by rw [h2, ← hkr, h3], fun h => absurd h (by omega)⟩
  · subst h2 hkr
    exact ⟨_, _, rfl, fun _ => ⟨_, rfl, World.ownsRow.cells (w := w) (base := 0) (e := t) (size := size) ⟨h1, .inr ⟨g, _, cur, rfl, Nat.zero_le _, hg, hnc, hcm, ‹_›, htake⟩⟩ rfl⟩⟩
theorem Src.nil (K : Kp) (G : List Ent) (c : Nat) : Src K G (.slice none 0 c) 0 [] := fun _ _ => ⟨none, c, rfl, fun h => absurd h (by omega)⟩

theorem OpW_appendRow {t e : TypeId} {s x : Operand} {v u : Value} {k size bytes : Nat} {i : TypeInfo} {z : Value} {rows : List (List Value)} (nrows : List (List Value)) (hlt : Nat.blt d n = true)
    (hx : ev env s = some v) (hy : ev env x = some u) (hm : Ent.row v e size rows.flatten ∈ G) (hrs : ∀ r ∈ rows, r.length = size) (hsrc : Src K G u k nrows.flatten) (hl : nrows.length = k) (hnr : ∀ r ∈ nrows, r.length = size)
    (ht : P.underlying t = some (.slice e)) (hi : P.info? e = some i) (hz : i.zero = some z) (hsize : i.size = size) (hby : i.bytes = bytes) (hzs : Nat.beq z.cells.size size = true) (hsz : Nat.blt 0 size = true)
    (h1 : ∀ y ∈ nrows.flatten, y.oneCell' = true) (h63 : rows.length + k ≤ 9223372036854775807) (hbytes : (rows.length + k) * bytes ≤ 140737488355328)
    (h : ∀ s', ∃ G', Upd G (.row v e size rows.flatten) (.row (sv s') e size (rows ++ nrows).flatten) G' ∧ R ((d, sv s') :: env) K G') :
    OpW P n ⟨some d, .call { callee := .builtin .append, args := #[s, x], argTypes := #[t, t] }, ty, pos, af, g⟩ env K G R :=
  fun E w a hs ha next Q hk => by
    have hzs' : z.cells.size = size := Nat.eq_of_beq_eq_true hzs
    have hsz' : 0 < size := lt_of_blt hsz
    have hfl := flatten_length hnr
    have hfr := flatten_length hrs
    rw [hl] at hfl
    have h63' : rows.length + k ≤ maxLen := by simpa [maxLen] using h63
    obtain ⟨B, c2, rfl, hr⟩ := hsrc w hs.toSatW
    obtain ⟨m, hown⟩ := hs.g _ hm
    have hmr : m = rows.length := Nat.eq_of_mul_eq_mul_right hsz' (by rw [← hown.1, hfr])
    subst hmr
    have key : ∃ v' w', (Builtin.append_ #[t, t] ty #[v, .slice B k c2]).run P w = .ok v' w' ∧ w'.ownsRow 0 e size v' (rows.length + k) (rows ++ nrows).flatten ∧ w.grownBy w' v.ownBlock ∧
        (v'.ownBlock = v.ownBlock ∨ v'.ownBlock = some w.heap.size) := by
      rw [List.flatten_append]
      cases B with
      | none =>
        have hk0 : k = 0 := by
          rcases Nat.eq_zero_or_pos k with h0 | h0
          · exact h0
          · obtain ⟨a, h, _⟩ := hr h0; cases h
        subst hk0
        have hn : nrows.flatten = [] := List.eq_nil_of_length_eq_zero (by simpa using hfl)
        refine ⟨v, w, ?_, by simpa [hn] using hown, World.grownBy.refl w _, .inl rfl⟩
        rcases hown.2 with ⟨rfl, h3⟩ | ⟨g, cap, cur, rfl, _, _, hnc, _⟩
        · simp [Builtin.append_, run_underlying ht, sizeOf, typeInfo, hi, Builtin.lenOf, Builtin.firstCells]
        · simp [Builtin.append_, run_underlying ht, sizeOf, typeInfo, hi, Builtin.lenOf, Builtin.firstCells, hnc, storeCells]
      | some ad =>
        have hcells : ∀ j y, nrows.flatten[j]? = some y → w.cell? (ad.add j) = some y := by
          intro j y hy'
          rcases Nat.eq_zero_or_pos k with h0 | h0
          · subst h0
            have hn : nrows.flatten = [] := List.eq_nil_of_length_eq_zero (by simpa using hfl)
            rw [hn] at hy'
            simp at hy'
          · obtain ⟨a', h', hc⟩ := hr h0
            cases h'
            exact hc j y hy'
        obtain ⟨v', w', h2, h3, h4, _, h5⟩ := run_append_own_at (P := P) w 0 t ty e i z size bytes ht hi hz hsize hby hzs' hsz' v rows.length rows.flatten hown ad k c2 nrows.flatten hfl hcells h1 h63' hbytes (Nat.zero_le _)
        exact ⟨v', w', h2, h3, h4, h5⟩
    obtain ⟨v', w', hrun, hown', hgr, hat⟩ := key
    obtain ⟨s', rfl⟩ : ∃ s', v' = sv s' := by
      rcases hown'.2 with ⟨h2, _⟩ | ⟨g, cap, cur, h2, _⟩
      · exact ⟨nilS, h2⟩
      · exact ⟨⟨_, _, _⟩, h2⟩
    obtain ⟨G', hu, hR⟩ := h s'
    unfold Oper.wp
    simp only [execOp, resolve, Sem.run_bind, Sem.run_pure, Result.andThen_ok, invoke, builtin, List.map_toArray, List.map_cons, List.map_nil, ha.ev hx, ha.ev hy, hrun]
    rw [Oper.upon_value]
    have hf := hs.apart _ hm
    refine hk _ _ _ _ _ (Kp.le_refl K) (hs.upd hu hgr.os hgr.tape hgr.output (fun b hb hne => hgr.block b hb (fun e => hne (by simp [Ent.own, ← e]))) ⟨_, hown'⟩ (fun b hb => ?_) ?_ (fun b hb => ?_) (row_off hf)) (ha.put (lt_of_blt hlt) _) hR
    · simp only [Ent.own, Option.mem_toList] at hb ⊢
      rcases hat with h2 | h2
      · exact .inl (h2 ▸ hb)
      · right
        rw [h2] at hb; cases hb; exact Nat.le_refl _
    · simp only [Ent.own]; cases (sv s').ownBlock <;> simp
    · rcases hat with h2 | h2
      · exact hf b (h2 ▸ hb)
      · rw [h2] at hb; cases hb; exact Ent.free_new hs.toSatW (Nat.le_refl _) 0

theorem run_append_tok {w : World} (t ty e : TypeId) (i : TypeInfo) (z : Value) (size bytes : Nat) (ht : P.underlying t = some (.slice e)) (hi : P.info? e = some i) (hz : i.zero = some z)
    (hsize : i.size = size) (hby : i.bytes = bytes) (hzs : z.cells.size = size) (hsz : 0 < size) (v : Value) (m : Nat) (xs : List Value) (hown : w.ownsRow 0 e size v m xs)
    (a : Addr) (k c : Nat) (news : List Value) (hl : news.length = k * size) (hnews : ∀ j u, news[j]? = some u → w.cell? (a.add j) = some u) (h1 : ∀ u ∈ news, u.oneCell' = true)
    (h63 : m + k ≤ maxLen) (hbytes : (m + k) * bytes ≤ 140737488355328) :
    ∃ v' w', (Builtin.append_ #[t, t] ty #[v, .slice (some a) k c]).run P w = .ok v' w' ∧ w'.ownsRow 0 e size v' (m + k) (xs ++ news) ∧
      ((v'.ownBlock = v.ownBlock ∧ w.grownBy w' v.ownBlock) ∨ (v'.ownBlock = some w.heap.size ∧ w.grownBy w' none)) := by
  obtain ⟨v', w', hr, ho, hg, _, hat⟩ := run_append_own_at (P := P) w 0 t ty e i z size bytes ht hi hz hsize hby hzs hsz v m xs hown a k c news hl hnews h1 h63 hbytes (Nat.zero_le _)
  refine ⟨v', w', hr, ho, ?_⟩
  rcases hat with h2 | h2
  · exact .inl ⟨h2, hg⟩
  · right
    refine ⟨h2, ?_⟩
    -- the run again, by its arms: a new block leaves all old ones
    rcases hown.2 with ⟨rfl, rfl⟩ | ⟨g, cap, cur, rfl, _, hgb, hnc, hcm, hcs, htake⟩
    · exact hg
    · subst hsize hby
      have hs63 : m + k ≤ 9223372036854775807 := by simp only [maxLen] at h63; omega
      by_cases hroom : m + k ≤ cap
      · have hfit : m * i.size + news.length ≤ cur.size := by rw [hl, hcs, ← Nat.add_mul]; exact Nat.mul_le_mul_right _ hroom
        have hr2 := run_append_room (P := P) w t ty e i ht hi g m cap cur hgb a k c news hl hnews h1 hroom hfit
        rw [hr2] at hr
        cases hr
        have : g = w.heap.size := by simpa [Value.ownBlock] using h2
        have := lt_of_some hgb
        omega
      · have holds : ∀ j u, xs[j]? = some u → w.cell? ((⟨g, 0, none⟩ : Addr).add j) = some u := hown.cells (g := g) rfl
        have hr2 := run_append_grow (P := P) w t ty e i z ht hi hz ⟨g, 0, none⟩ m cap xs hown.1 holds a k c news hl hnews (by omega) (by omega) (growslice_fits (by omega) hbytes)
        rw [hr2] at hr
        cases hr
        exact ⟨rfl, rfl, rfl, by simp, fun b hb _ => by show (w.heap.push _)[b]? = _; rw [Array.getElem?_push, if_neg (Nat.ne_of_lt hb)]⟩

theorem tok_nodup {vs : List Value} {q : Nat} {v v' : Value} (hq : vs[q]? = some v) (hn : (vs.filterMap Value.ownBlock).Nodup) (h : ∀ b, v'.ownBlock = some b → v.ownBlock = some b ∨ b ∉ vs.filterMap Value.ownBlock) : ((vs.set q v').filterMap Value.ownBlock).Nodup ∧ ∀ b ∈ (vs.set q v').filterMap Value.ownBlock, b ∈ vs.filterMap Value.ownBlock ∨ v'.ownBlock = some b := by
  have hlt : q < vs.length := (List.getElem?_eq_some_iff.1 hq).1
  have hcut : vs = vs.take q ++ v :: vs.drop (q + 1) := by
    rw [← List.take_append_drop q vs]
    congr 1
    · rw [List.take_append_drop]
    · rw [List.take_append_drop, List.drop_eq_getElem_cons hlt]
      congr 1
      have := (List.getElem?_eq_some_iff.1 hq).2
      exact this
  have hset : vs.set q v' = vs.take q ++ v' :: vs.drop (q + 1) := by rw [List.set_eq_take_append_cons_drop, if_pos hlt]
  rw [hset]
  have hn0 := hn
  rw [hcut] at hn
  simp only [List.filterMap_append, List.filterMap_cons] at hn ⊢
  have hmem : ∀ b, b ∈ (vs.take q).filterMap Value.ownBlock ∨ b ∈ (vs.drop (q + 1)).filterMap Value.ownBlock → b ∈ vs.filterMap Value.ownBlock := fun b hb => by
    conv => rw [hcut]
    simp only [List.filterMap_append, List.filterMap_cons, List.mem_append]
    rcases hb with hb | hb
    · exact .inl hb
    · right
      cases v.ownBlock with
      | none => exact hb
      | some c => exact .tail _ hb
  cases hv' : v'.ownBlock with
  | none =>
    refine ⟨?_, fun b hb => ?_⟩
    · cases hv : v.ownBlock with
      | none => simpa [hv] using hn
      | some c =>
        rw [hv] at hn
        exact hn.sublist ((List.Sublist.refl _).append (List.sublist_cons_self _ _))
    · simp only [List.mem_append] at hb
      exact .inl (hmem b hb)
  | some c =>
    refine ⟨?_, fun b hb => ?_⟩
    · rcases h c hv' with h1 | h1
      · rw [h1] at hn; exact hn
      · have hc : c ∉ (vs.take q).filterMap Value.ownBlock ∧ c ∉ (vs.drop (q + 1)).filterMap Value.ownBlock := ⟨fun hh => h1 (hmem c (.inl hh)), fun hh => h1 (hmem c (.inr hh))⟩
        have hn2 : ((vs.take q).filterMap Value.ownBlock ++ (vs.drop (q + 1)).filterMap Value.ownBlock).Nodup := by
          cases hv : v.ownBlock with
          | none => simpa [hv] using hn
          | some c =>
            rw [hv] at hn
            exact hn.sublist ((List.Sublist.refl _).append (List.sublist_cons_self _ _))
        obtain ⟨n1, n2, n3⟩ := List.nodup_append.1 hn2
        refine List.nodup_append.2 ⟨n1, List.nodup_cons.2 ⟨hc.2, n2⟩, fun x hx y hy e => ?_⟩
        rcases List.mem_cons.1 hy with rfl | hy
        · exact hc.1 (e ▸ hx)
        · exact n3 x hx y hy e
    · simp only [List.mem_append, List.mem_cons] at hb
      rcases hb with hb | rfl | hb
      · exact .inl (hmem b (.inl hb))
      · exact .inr rfl
      · exact .inl (hmem b (.inr hb))

/-- An append onto a settled slice whose room is the call's own: what comes back is settled at once. -/
theorem OpW_appendTok {t e : TypeId} {s x : Operand} {v u : Value} {k q size bytes : Nat} {i : TypeInfo} {z : Value} {vs : List Value} {rows : List (List Value)} (nrows : List (List Value)) (hlt : Nat.blt d n = true)
    (hx : ev env s = some v) (hy : ev env x = some u) (hsl : Sl K v size rows) (hq : vs[q]? = some v) (hm : Ent.tok e size vs ∈ G) (hsrc : Src K G u k nrows.flatten) (hl : nrows.length = k) (hnr : ∀ r ∈ nrows, r.length = size)
    (ht : P.underlying t = some (.slice e)) (hi : P.info? e = some i) (hz : i.zero = some z) (hsize : i.size = size) (hby : i.bytes = bytes) (hzs : Nat.beq z.cells.size size = true) (hsz : Nat.blt 0 size = true)
    (h1 : ∀ y ∈ nrows.flatten, y.oneCell' = true) (h63 : rows.length + k ≤ 9223372036854775807) (hbytes : (rows.length + k) * bytes ≤ 140737488355328)
    (h : ∀ s' K', K.le K' → Sl K' (sv s') size (rows ++ nrows) → ∃ G', Upd G (.tok e size vs) (.tok e size (vs.set q (sv s'))) G' ∧ R ((d, sv s') :: env) K' G') :
    OpW P n ⟨some d, .call { callee := .builtin .append, args := #[s, x], argTypes := #[t, t] }, ty, pos, af, g⟩ env K G R :=
  fun E w a hs ha next Q hk => by
    have hzs' : z.cells.size = size := Nat.eq_of_beq_eq_true hzs
    have hsz' : 0 < size := lt_of_blt hsz
    have hfl := flatten_length hnr
    rw [hl] at hfl
    obtain ⟨B, c2, rfl, hr⟩ := hsrc w hs.toSatW
    obtain ⟨m, xs, hown⟩ := hs.g _ hm v (List.mem_of_getElem? hq)
    -- the row's cells are the settled ones
    have hmr : m = rows.length ∧ xs = rows.flatten := by
      obtain ⟨A, m0, c0, rfl, h2, _, _, h4, h5⟩ := id hsl
      have hfr := flatten_length h4
      rcases hown.2 with ⟨h6, h7⟩ | ⟨g0, cap, cur, h6, _, hg0, _, _, _, htake⟩
      · cases h6
        subst h7
        have h0 : rows = [] := List.eq_nil_of_length_eq_zero h2.symm
        subst h0
        exact ⟨rfl, List.eq_nil_of_length_eq_zero (by simpa using hown.1)⟩
      · cases h6
        refine ⟨h2, ?_⟩
        apply List.ext_getElem?
        intro j
        by_cases hj : j < m * size
        · have hj2 : j < rows.flatten.length := by rw [hfr, ← h2]; exact hj
          obtain ⟨a0, e0, hka⟩ := h5 (by
            rcases Nat.eq_zero_or_pos m with h0 | h0
            · rw [h0] at hj; simp at hj
            · exact h0)
          cases e0
          have h8 := hka.cell hs.toSatW (List.getElem?_eq_getElem hj2)
          have h9 : w.cell? ((⟨g0, 0, none⟩ : Addr).add j) = cur[j]? := by rw [add_lit, cell_of_row w g0 _ _ e (0, 0) hg0]; simp
          rw [h9] at h8
          rw [List.getElem?_eq_getElem hj2, ← htake, List.getElem?_take, if_pos hj]
          simpa using h8
        · rw [List.getElem?_eq_none (by rw [hown.1]; omega), List.getElem?_eq_none (by rw [hfr, ← h2]; omega)]
    obtain ⟨rfl, rfl⟩ := hmr
    have h63' : rows.length + k ≤ maxLen := by simpa [maxLen] using h63
    have key : ∃ v' w', (Builtin.append_ #[t, t] ty #[v, .slice B k c2]).run P w = .ok v' w' ∧ w'.ownsRow 0 e size v' (rows.length + k) (rows ++ nrows).flatten ∧
        ((v'.ownBlock = v.ownBlock ∧ w.grownBy w' v.ownBlock) ∨ (v'.ownBlock = some w.heap.size ∧ w.grownBy w' none)) := by
      rw [List.flatten_append]
      cases B with
      | none =>
        have hk0 : k = 0 := by
          rcases Nat.eq_zero_or_pos k with h0 | h0
          · exact h0
          · obtain ⟨a, h, _⟩ := hr h0; cases h
        subst hk0
        have hn : nrows.flatten = [] := List.eq_nil_of_length_eq_zero (by simpa using hfl)
        refine ⟨v, w, ?_, by simpa [hn] using hown, .inl ⟨rfl, World.grownBy.refl w _⟩⟩
        rcases hown.2 with ⟨rfl, h3⟩ | ⟨g, cap, cur, rfl, _, _, hnc, _⟩
        · simp [Builtin.append_, run_underlying ht, sizeOf, typeInfo, hi, Builtin.lenOf, Builtin.firstCells]
        · simp [Builtin.append_, run_underlying ht, sizeOf, typeInfo, hi, Builtin.lenOf, Builtin.firstCells, hnc, storeCells]
      | some ad =>
        have hcells : ∀ j y, nrows.flatten[j]? = some y → w.cell? (ad.add j) = some y := by
          intro j y hy'
          rcases Nat.eq_zero_or_pos k with h0 | h0
          · subst h0
            have hn : nrows.flatten = [] := List.eq_nil_of_length_eq_zero (by simpa using hfl)
            rw [hn] at hy'
            simp at hy'
          · obtain ⟨a', h', hc⟩ := hr h0
            cases h'
            exact hc j y hy'
        exact run_append_tok t ty e i z size bytes ht hi hz hsize hby hzs' hsz' v rows.length rows.flatten hown ad k c2 nrows.flatten hfl hcells h1 h63' hbytes
    obtain ⟨v', w', hrun, hown', hat⟩ := key
    have hgr : w.grownBy w' v.ownBlock := by
      rcases hat with ⟨_, h2⟩ | ⟨_, h2⟩
      · exact h2
      · exact ⟨h2.os, h2.tape, h2.output, h2.size, fun b hb _ => h2.block b hb (by simp)⟩
    have hrs : ∀ r ∈ rows ++ nrows, r.length = size := fun r hr' => by
      obtain ⟨_, _, _, _, _, _, _, h4, _⟩ := hsl
      rcases List.mem_append.1 hr' with hr' | hr'
      · exact h4 r hr'
      · exact hnr r hr'
    have hfr : rows.flatten.length = rows.length * size := flatten_length fun r hr' => hrs r (List.mem_append_left _ hr')
    have hfree0 := hs.apart _ hm
    have hvoff : ∀ A n' c', v = .slice (some A) n' c' → n' = rows.length ∧ K.off A.block (rows.length * size) := fun A n' c' e' => by
      have h2 := hfree0 v (List.mem_of_getElem? hq) A n' c' e'
      obtain ⟨A0, m0, c0, e0, h3, _⟩ := hsl
      rw [e'] at e0; cases e0
      exact ⟨h3, h3 ▸ h2⟩
    have hnd := hs.nodup
    -- where the new slice lies
    have hform : v' = .slice none 0 0 ∧ rows ++ nrows = [] ∨ ∃ (g0 c' : Nat) (cur' : Array Value), v' = .slice (some ⟨g0, 0, none⟩) (rows ++ nrows).length c' ∧ w'.heap[g0]? = some (.cells cur' e (0, 0)) ∧ (rows ++ nrows).length ≤ c' ∧ c' ≤ maxLen ∧ ∀ (j : Nat) (y : Value), (rows ++ nrows).flatten[j]? = some y → cur'[j]? = some y := by
      have hll : rows.length + k = (rows ++ nrows).length := by rw [List.length_append, hl]
      rcases hown'.2 with ⟨h2, h3⟩ | ⟨g0, cap, cur', h2, _, hg0, hnc, hcm, _, htake⟩
      · exact .inl ⟨h2, List.eq_nil_of_length_eq_zero (by omega)⟩
      · refine .inr ⟨g0, cap, cur', by rw [h2, hll], hg0, by omega, hcm, fun j y hj => ?_⟩
        rw [← htake, List.getElem?_take] at hj
        split at hj
        · simpa using hj
        · cases hj
    obtain ⟨K', hle, hsl', hko, hoth, hsame, hoff'⟩ : ∃ K', K.le K' ∧ Sl K' v' size (rows ++ nrows) ∧ K'.o = K.o ∧ (∀ b, v'.ownBlock ≠ some b → ∀ j, K'.c b j = K.c b j) ∧
        (∀ b, v'.ownBlock = some b → ∀ j y, K'.c b j = some y → ∃ cs t fr, w'.heap[b]? = some (.cells cs t fr) ∧ cs[j]? = some y) ∧ (∀ A n' c', v' = .slice (some A) n' c' → K'.off A.block (n' * size)) := by
      rcases hform with ⟨h2, h3⟩ | ⟨g0, c', cur', h2, hg0, hnc, hcm, hcur⟩
      · subst h2
        refine ⟨K, Kp.le_refl K, ?_, rfl, fun _ _ _ => rfl, fun b hb => (by cases hb), fun A n' c' e' => (by cases e')⟩
        rw [h3]
        exact Sl.nil K size
      · subst h2
        have hll : rows.length + k = (rows ++ nrows).length := by rw [List.length_append, hl]
        have hfl2 := flatten_length hrs
        -- what was settled in that block before
        have hold : ∀ j y, K.c g0 j = some y → (rows ++ nrows).flatten[j]? = some y := by
          intro j y hj
          rcases hat with ⟨h3, _⟩ | ⟨h3, _⟩
          · -- the same block: the old cells
            obtain ⟨A0, m0, c0, e0, h4, _, _, h4r, h5⟩ := id hsl
            subst e0
            cases A0 with
            | none => simp [Value.ownBlock] at h3
            | some a0 =>
              have h6 : a0.block = g0 := by simpa [Value.ownBlock, eq_comm] using h3
              have h7 := (hvoff a0 m0 c0 rfl).2
              rw [h6] at h7
              have hjl : j < rows.length * size := by
                rcases Nat.lt_or_ge j (rows.length * size) with h8 | h8
                · exact h8
                · rw [h7.2 j h8] at hj; cases hj
              rcases hown.2 with ⟨h8, _⟩ | ⟨g1, cap, cur, h8, _, hg1, _, _, _, htake⟩
              · cases h8
              · cases h8
                have h6' : g1 = g0 := h6
                subst h6'
                obtain ⟨cs, t1, fr, h9, h10⟩ := hs.k _ _ _ hj
                rw [hg1] at h9
                cases h9
                rw [List.flatten_append, List.getElem?_append_left (by rw [hfr]; exact hjl), ← htake, List.getElem?_take, if_pos hjl]
                simpa using h10
          · have : g0 = w.heap.size := by simpa [Value.ownBlock] using h3
            obtain ⟨cs, t1, fr, h9, _⟩ := hs.k _ _ _ hj
            have := lt_of_some h9
            omega
        have hko0 : K.o g0 = none := by
          rcases hat with ⟨h3, _⟩ | ⟨h3, _⟩
          · cases hv : v with
            | slice A0 m0 c0 =>
              subst hv
              cases A0 with
              | none => simp [Value.ownBlock] at h3
              | some a0 =>
                have h6 : a0.block = g0 := by simpa [Value.ownBlock, eq_comm] using h3
                have h7 := (hvoff a0 m0 c0 rfl).2
                rw [h6] at h7
                exact h7.1
            | _ => subst hv; simp [Value.ownBlock] at h3
          · have : g0 = w.heap.size := by simpa [Value.ownBlock] using h3
            cases hk : K.o g0 with
            | none => rfl
            | some o => have := lt_of_some (hs.ko _ _ hk); omega
        refine ⟨K.add g0 (rows ++ nrows).flatten, Kp.le_add fun j y y' h3 h4 => ?_, ⟨some ⟨g0, 0, none⟩, _, c', rfl, rfl, by omega, hnc, hrs, fun _ => ⟨_, rfl, fun j y hj => ?_⟩⟩, rfl, fun b hb j => ?_, fun b hb j y hj => ?_, fun A n' c'' e' => ?_⟩
        · have := hold j y' h4
          rw [h3] at this; cases this; rfl
        · rw [add_lit]
          exact ⟨rfl, by rw [Nat.zero_add]; exact Kp.add_same hj⟩
        · exact Kp.add_other (fun e' => hb (by simp [Value.ownBlock, e']))
        · have hbg : b = g0 := by simpa [Value.ownBlock, eq_comm] using hb
          subst hbg
          refine ⟨cur', e, (0, 0), hg0, ?_⟩
          cases h3 : (rows ++ nrows).flatten[j]? with
          | some y' => rw [Kp.add_same h3] at hj; cases hj; exact hcur j _ h3
          | none =>
            rw [Kp.add_beyond (List.getElem?_eq_none_iff.1 h3)] at hj
            rw [hold j y hj] at h3; cases h3
        · cases e'
          refine ⟨hko0, fun j hj => ?_⟩
          show (K.add g0 (rows ++ nrows).flatten).c g0 j = none
          rw [Kp.add_beyond (by rw [hfl2]; exact hj)]
          cases h4 : K.c g0 j with
          | none => rfl
          | some y =>
            have h5 := (List.getElem?_eq_some_iff.1 (hold j y h4)).1
            omega
    obtain ⟨s', hs'⟩ : ∃ s', v' = sv s' := by
      rcases hown'.2 with ⟨h2, _⟩ | ⟨g, cap, cur, h2, _⟩
      · exact ⟨nilS, h2⟩
      · exact ⟨⟨_, _, _⟩, h2⟩
    obtain ⟨G', hu, hR⟩ := h s' K' hle (hs' ▸ hsl')
    rw [← hs'] at hu hR
    unfold Oper.wp
    simp only [execOp, resolve, Sem.run_bind, Sem.run_pure, Result.andThen_ok, invoke, builtin, List.map_toArray, List.map_cons, List.map_nil, ha.ev hx, ha.ev hy, hrun]
    rw [Oper.upon_value]
    refine hk _ _ _ _ _ hle ?_ (ha.put (lt_of_blt hlt) _) hR
    obtain ⟨R1, hp1, hp2⟩ := hu.perms
    have hs1 := hs.perm hp1
    have hn1 := hs1.nodup
    rw [List.flatMap_cons] at hn1
    have hnv := (List.nodup_append.1 hn1).1
    have hnew : ∀ b, v'.ownBlock = some b → v.ownBlock = some b ∨ b ∉ vs.filterMap Value.ownBlock := fun b hb => by
      rcases hat with ⟨h3, _⟩ | ⟨h3, _⟩
      · exact .inl (h3 ▸ hb)
      · right
        rw [h3] at hb; cases hb
        intro hmem
        have := Ent.lt (hs1.g _ (.head _)) (b := w.heap.size) hmem
        omega
    obtain ⟨hnd', hmem'⟩ := tok_nodup hq hnv hnew
    have hvmem : ∀ b, v.ownBlock = some b → b ∈ vs.filterMap Value.ownBlock := fun b hb => List.mem_filterMap.2 ⟨v, List.mem_of_getElem? hq, hb⟩
    have hqlt : q < vs.length := (List.getElem?_eq_some_iff.1 hq).1
    have hv'mem : ∀ b, v'.ownBlock = some b → b ∈ (vs.set q v').filterMap Value.ownBlock := fun b hb => List.mem_filterMap.2 ⟨v', List.mem_of_getElem? (i := q) (by simp [hqlt]), hb⟩
    -- two members in one block are one
    have huniq : ∀ j y b, vs[j]? = some y → y.ownBlock = some b → v.ownBlock = some b → j = q := by
      intro j y b hj hy1 hv1
      have key : ∀ (l : List Value) (i j : Nat) (y v : Value) (b : Nat), (l.filterMap Value.ownBlock).Nodup → l[i]? = some y → l[j]? = some v → y.ownBlock = some b → v.ownBlock = some b → i = j := by
        intro l
        induction l with
        | nil => intro i j y v b _ hi; simp at hi
        | cons x l ih =>
          intro i j y v b hn hi hj hy hv
          cases i with
          | zero =>
            simp at hi; subst hi
            cases j with
            | zero => rfl
            | succ j =>
              rw [List.filterMap_cons_some hy] at hn
              exact absurd (List.mem_filterMap.2 ⟨v, List.mem_of_getElem? (by simpa using hj), hv⟩) (List.nodup_cons.1 hn).1
          | succ i =>
            cases j with
            | zero =>
              simp at hj; subst hj
              rw [List.filterMap_cons_some hv] at hn
              exact absurd (List.mem_filterMap.2 ⟨y, List.mem_of_getElem? (by simpa using hi), hy⟩) (List.nodup_cons.1 hn).1
            | succ j =>
              have hn' : (l.filterMap Value.ownBlock).Nodup := by
                cases hx : x.ownBlock with
                | none => rwa [List.filterMap_cons_none hx] at hn
                | some c => rw [List.filterMap_cons_some hx] at hn; exact (List.nodup_cons.1 hn).2
              rw [ih i j y v b hn' (by simpa using hi) (by simpa using hj) hy hv]
      exact key vs j q y v b hnv hj hq hy1 hv1
    refine (Sat.upd1 (e' := .tok e size (vs.set q v')) hs1 hgr.os hgr.tape hgr.output (fun b hb hne => hgr.block b hb (fun e' => hne (hvmem b e'.symm))) hko (fun b hb j => hoth b (fun e' => hb (hv'mem b e')) j) (fun b hb j y hj => ?_) (fun b hb hb' j y hj => ?_) ?_ ?_ (fun b hb => ?_) hnd').perm hp2.symm
    · -- settled cells of the entry's blocks
      by_cases hbv : v'.ownBlock = some b
      · exact hsame b hbv j y hj
      · rw [hoth b hbv] at hj
        obtain ⟨cs, t1, fr, h3, h4⟩ := hs1.k b j y hj
        refine ⟨cs, t1, fr, ?_, h4⟩
        have hblt := lt_of_some h3
        refine (?_ : w'.heap[b]? = w.heap[b]?).trans h3
        rcases hat with ⟨h5, h6⟩ | ⟨h5, h6⟩
        · exact h6.block b hblt (fun e' => hbv (by rw [h5, e']))
        · exact h6.block b hblt (by simp)
    · obtain ⟨cs, t1, fr, h3, h4⟩ := hs1.k b j y hj
      refine ⟨cs, t1, fr, ?_, h4⟩
      have hblt := lt_of_some h3
      refine (?_ : w'.heap[b]? = w.heap[b]?).trans h3
      rcases hat with ⟨h5, h6⟩ | ⟨h5, h6⟩
      · refine h6.block b hblt (fun e' => hb' (hv'mem b (by rw [h5, e'])))
      · exact h6.block b hblt (by simp)
    · -- it holds
      intro y hy1
      rcases List.mem_or_eq_of_mem_set hy1 with hy2 | rfl
      · obtain ⟨j, hj1⟩ := List.mem_iff_getElem?.1 hy1
        obtain ⟨m1, xs1, ho1⟩ := hs1.g _ (.head _) y hy2
        by_cases hyv : y = v'
        · subst hyv; exact ⟨_, _, hown'⟩
        · have hjq : j ≠ q := fun e' => by
            subst e'
            rw [List.getElem?_set_self hqlt] at hj1
            cases hj1; exact hyv rfl
          rw [List.getElem?_set_ne (Ne.symm hjq)] at hj1
          refine ⟨m1, xs1, ownsRow_of ho1 fun b hb => ?_⟩
          have hblt := (ho1.lt b hb).2
          exact hgr.block b hblt (fun e' => hjq (huniq j y b hj1 hb e'.symm))
      · exact ⟨_, _, hown'⟩
    · intro y hy1 A n' c' e'
      by_cases hyv : y = v'
      · subst hyv; exact hoff' A n' c' e'
      · obtain ⟨j, hj1⟩ := List.mem_iff_getElem?.1 hy1
        have hjq : j ≠ q := fun e2 => by
          subst e2
          rw [List.getElem?_set_self hqlt] at hj1
          cases hj1; exact hyv rfl
        have hj2 := hj1
        rw [List.getElem?_set_ne (Ne.symm hjq)] at hj2
        have h3 := hs1.apart _ (.head _) y (List.mem_of_getElem? hj2) A n' c' e'
        refine ⟨by rw [hko]; exact h3.1, fun i hi => ?_⟩
        rw [hoth A.block (fun e2 => ?_)]
        · exact h3.2 i hi
        · -- the same block as v': not among the others
          have hyo : y.ownBlock = some A.block := by rw [e']; rfl
          rcases hnew A.block e2 with h4 | h4
          · exact hjq (huniq j y _ hj2 hyo h4)
          · exact h4 (List.mem_filterMap.2 ⟨y, List.mem_of_getElem? hj2, hyo⟩)
    · rcases hmem' b hb with h3 | h3
      · exact .inl h3
      · rcases hat with ⟨h5, _⟩ | ⟨h5, _⟩
        · exact .inl (hvmem b (h5 ▸ h3))
        · rw [h5] at h3; cases h3; exact .inr (Nat.le_refl _)

/-! ### make -/
theorem made_list (z : Array Value) (size : Nat) (hs : z.size = size) (hpos : 0 < size) : ∀ m, (madeCells z (m * size)).toList = (List.replicate m z.toList).flatten := by
  intro m
  apply List.ext_getElem?
  intro j
  have hall : ∀ r ∈ List.replicate m z.toList, r.length = size := fun r hr => by rw [(List.mem_replicate.1 hr).2]; simpa using hs
  by_cases hj : j < m * size
  · have h1 : (madeCells z (m * size)).toList[j]? = some (z[j % z.size]!) := by simp [madeCells, hj]
    rw [h1]
    have hq : j / size < m := Nat.div_lt_of_lt_mul (by rw [Nat.mul_comm]; exact hj)
    have hrow : (List.replicate m z.toList)[j / size]? = some z.toList := by simp [hq]
    have h2 := flatten_drop hall hrow
    have hmod : j % size < size := Nat.mod_lt _ hpos
    have h3 : (((List.replicate m z.toList).flatten.drop (j / size * size)).take size)[j % size]? = z.toList[j % size]? := by rw [h2]
    rw [List.getElem?_take, if_pos hmod, List.getElem?_drop, show j / size * size + j % size = j by have := Nat.div_add_mod j size; rw [Nat.mul_comm] at this; exact this] at h3
    rw [h3, hs]
    have : j % size < z.size := by omega
    simp [getElem!_pos, this]
  · have h1 : (madeCells z (m * size)).toList.length = m * size := by simp [madeCells]
    have h2 : (List.replicate m z.toList).flatten.length = m * size := by
      rw [flatten_length hall]
      simp
    rw [List.getElem?_eq_none (by omega), List.getElem?_eq_none (by omega)]
theorem OpW_make {t e : TypeId} {lo co : Operand} {kl kc : IntKind} {m size bytes : Nat} {i : TypeInfo} {z : Value} {ml mc : Int} {r : List Value} (hlt : Nat.blt d n = true) (hl : ev env lo = some (.int kl ml)) (hc : ev env co = some (.int kc mc)) (hml : ml = (m : Int)) (hmc : mc = (m : Int))
    (ht : P.underlying t = some (.slice e)) (hi : P.info? e = some i) (hz : i.zero = some z) (hsize : i.size = size) (hby : i.bytes = bytes) (hzs : Nat.beq z.cells.size size = true) (hpos : Nat.blt 0 size = true) (hr : z.cells.toList = r) (hbytes : bytes * m ≤ 281474976710656) (h63 : m ≤ 9223372036854775807)
    (h : ∀ s, R ((d, sv s) :: env) K (.row (sv s) e size (List.replicate m r).flatten :: G)) :
    OpW P n ⟨some d, .makeSlice t lo co, ty, pos, af, g⟩ env K G R := fun E w a hs ha next Q hk => by
  subst hml hmc hr
  subst hsize
  have hzs' := Nat.eq_of_beq_eq_true hzs
  have hb' : (i.bytes : Int) * (m : Int) ≤ 281474976710656 := by
    have h : ((i.bytes * m : Nat) : Int) ≤ 281474976710656 := by rw [hby]; omega
    rwa [Int.natCast_mul] at h
  have h63' : (m : Int) ≤ 9223372036854775807 := by omega
  have h63m : m ≤ maxLen := by simpa [maxLen] using h63
  have hr := run_make (P := P) w t e i z ht hi hz kl kc m m (by omega) (Int.le_refl _) hb' h63'
  simp only [Int.toNat_natCast] at hr
  unfold Oper.wp
  simp only [execOp, ha.ev hl, ha.ev hc, Sem.run_bind, Sem.run_pure, Result.andThen_ok, hr]
  rw [Oper.upon_value]
  refine hk _ _ _ _ _ (Kp.le_refl K) (hs.new (e := .row (.slice (some ⟨w.heap.size, 0, none⟩) m m) e i.size (List.replicate m z.cells.toList).flatten) ⟨m, ?_⟩ rfl (fun b hb => ?_)) (ha.put (lt_of_blt hlt) _) (h ⟨some ⟨w.heap.size, 0, none⟩, m, m⟩)
  · have := World.ownsRow_lit (base := 0) (e := e) (size := i.size) w (madeCells z.cells (m * i.size)) m (Nat.zero_le _) h63m (size_madeCells _ _)
    rwa [made_list z.cells i.size hzs' (lt_of_blt hpos)] at this
  · cases hb; exact Ent.free_new hs.toSatW (Nat.le_refl _) 0

/-! ### slice expressions -/
theorem Qt_slice_h {t e : TypeId} {x hi : Operand} {A : Option Addr} {m c q : Nat} {k : IntKind} {j : Int} {mx : Option Operand} (hx : ev env x = some (.slice A m c)) (hh : ev env hi = some (.int k j)) (ht : P.underlying t = some (.slice e)) (hsz : (P.info? e).isSome = true)
    (hmx : mx = none) (hj : j = (q : Int)) (hq : q ≤ c) : Qt P n ⟨dd, .slice t x none (some hi) mx, ty, pos, af, g⟩ env K G (.slice A q c) := fun w a _ ha => by
  subst hmx hj
  obtain ⟨i, hi'⟩ := Option.isSome_iff_exists.1 hsz
  cases A <;> simp [execOp, ha.ev hx, ha.ev hh, Instr.sliceAt, run_und ht, Instr.slice, Instr.sliceBounds, Instr.sliceBound, asIntOf, hq, sizeOf, typeInfo, hi', Addr.add]
/-- The value of 's[lo:hi]'. -/
def slCut (A : Option Addr) (c size lo hi : Nat) : Value := .slice (if c = lo then A else A.map (·.add (lo * size))) (hi - lo) (c - lo)
theorem Qt_slice_l {t e : TypeId} {x lo : Operand} {A : Option Addr} {m c q size : Nat} {k : IntKind} {j : Int} (hx : ev env x = some (.slice A m c)) (hh : ev env lo = some (.int k j)) (ht : P.underlying t = some (.slice e)) (hs : P.cellsOf e = size) (hz : Nat.beq size 0 = false)
    (hj : j = (q : Int)) (hq : q ≤ m) : Qt P n ⟨dd, .slice t x (some lo) none none, ty, pos, af, g⟩ env K G (slCut A c size q m) := fun w a _ ha => by
  have hz' : size ≠ 0 := fun e => by rw [e] at hz; cases hz
  subst hj
  have hr := run_size hs hz' w
  simp [execOp, ha.ev hx, ha.ev hh, Instr.sliceAt, run_und ht, Instr.slice, Instr.sliceBounds, Instr.sliceBound, asIntOf, hq, hr, slCut]
theorem Qt_slice_lh {t e : TypeId} {x lo hi : Operand} {A : Option Addr} {m c q r size : Nat} {k k' : IntKind} {j j' : Int} (hx : ev env x = some (.slice A m c)) (hh : ev env lo = some (.int k j)) (hh' : ev env hi = some (.int k' j')) (ht : P.underlying t = some (.slice e)) (hs : P.cellsOf e = size) (hz : Nat.beq size 0 = false)
    (hj : j = (q : Int)) (hj' : j' = (r : Int)) (hq : q ≤ r) (hrc : r ≤ c) : Qt P n ⟨dd, .slice t x (some lo) (some hi) none, ty, pos, af, g⟩ env K G (slCut A c size q r) := fun w a _ ha => by
  have hz' : size ≠ 0 := fun e => by rw [e] at hz; cases hz
  subst hj hj'
  have hr := run_size hs hz' w
  simp [execOp, ha.ev hx, ha.ev hh, ha.ev hh', Instr.sliceAt, run_und ht, Instr.slice, Instr.sliceBounds, Instr.sliceBound, asIntOf, hq, hrc, hr, slCut]
theorem Sl.cut {K : Kp} {A : Option Addr} {m c size lo hi : Nat} {rows : List (List Value)} (h : Sl K (.slice A m c) size rows) (h1 : lo ≤ hi) (h2 : hi ≤ m) : Sl K (slCut A c size lo hi) size ((rows.take hi).drop lo) := by
  obtain ⟨A', m', c', e, h3, h4, h5, h6, h7⟩ := h
  cases e
  have hr' : ∀ r ∈ (rows.take hi).drop lo, r.length = size := fun r hr => h6 r (List.mem_of_mem_take (List.mem_of_mem_drop hr))
  refine ⟨_, _, _, rfl, by simp; omega, by omega, by omega, hr', fun hlt => ?_⟩
  obtain ⟨a, rfl, ha⟩ := h7 (by omega)
  rw [if_neg (by omega)]
  refine ⟨_, rfl, ha.sub ?_⟩
  rw [flatten_length hr', List.length_drop, List.length_take]
  -- both sides are the rows in between
  have key : ∀ (rows : List (List Value)) (_ : ∀ r ∈ rows, r.length = size) (lo hi : Nat), lo ≤ hi → hi ≤ rows.length → (rows.flatten.drop (lo * size)).take ((hi - lo) * size) = ((rows.take hi).drop lo).flatten := by
    intro rows
    induction rows with
    | nil => intro _ lo hi _ h; simp at h; subst h; simp
    | cons r rows ih =>
      intro hrs lo hi h1 h2
      have hr := hrs r (.head _)
      cases lo with
      | succ lo =>
        cases hi with
        | zero => omega
        | succ hi =>
          simp only [List.flatten_cons, List.take_succ_cons, List.drop_succ_cons]
          have hd : (r ++ rows.flatten).drop size = rows.flatten := by rw [← hr]; simp
          rw [← ih (fun y hy => hrs y (.tail _ hy)) lo hi (by omega) (by simpa using h2), show (lo + 1) * size = size + lo * size by rw [Nat.succ_mul]; omega, ← List.drop_drop, hd, show hi + 1 - (lo + 1) = hi - lo by omega]
      | zero =>
        cases hi with
        | zero => simp
        | succ hi =>
          have := ih (fun y hy => hrs y (.tail _ hy)) 0 hi (by omega) (by simpa using h2)
          simp only [Nat.zero_mul, List.drop_zero, Nat.sub_zero] at this ⊢
          simp only [List.flatten_cons, List.take_succ_cons]
          rw [← this, Nat.succ_mul, List.take_append, hr, show hi * size + size - size = hi * size by omega, List.take_of_length_le (by rw [hr]; omega)]
  rw [show min hi rows.length - lo = hi - lo by omega]
  exact key rows h6 lo hi h1 (by omega)
end
end Go.Hx
