/-
  The small logic: a function's body, values built from parts, regions that draw their order.
-/
import Derived.Test.YtgpoanmjkggijaaHxRows
namespace Go.Hx
open Go

/-! ### a function -/
def argEnv : Nat → List Value → Env
  | _, [] => []
  | k, v :: r => (k, v) :: argEnv (k + 1) r
theorem lk_argEnv : ∀ (l : List Value) (k t : Nat) (v : Value), lk (argEnv k l) t = some v → k ≤ t ∧ l[t - k]? = some v
  | [], k, t, v, h => by simp [argEnv, lk] at h
  | u :: r, k, t, v, h => by
    simp only [argEnv] at h
    by_cases e : k = t
    · subst e; rw [lk_hit rfl] at h; cases h; exact ⟨Nat.le_refl _, by simp⟩
    · rw [lk_miss e] at h
      obtain ⟨h1, h2⟩ := lk_argEnv r (k + 1) t v h
      refine ⟨by omega, ?_⟩
      rw [show t - k = (t - (k + 1)) + 1 by omega]
      simpa using h2

/-- One result: a slot, or a variable in memory. -/
def RetOne (P : Program) (env : Env) (K : Kp) (G : List Ent) : ResultVar → Value → Prop
  | .tmp t, v => lk env t = some v
  | .cell a t, v => ∃ A m cs, lk env a = some (.pointer (some A)) ∧ aggB P t = true ∧ P.cellsOf t = m ∧ Nat.beq m 0 = false ∧ Rdm K G A m cs ∧ v = .agg cs.toArray
def RetAll (P : Program) (env : Env) (K : Kp) (G : List Ent) : List ResultVar → List Value → Prop
  | [], vs => vs = []
  | r :: rs, vs => ∃ v us, vs = v :: us ∧ RetOne P env K G r v ∧ RetAll P env K G rs us
def mkRes : List Value → Value
  | [v] => v
  | vs => .tuple vs.toArray

def resOne (tmps : Array Value) : ResultVar → Sem Value
  | .tmp t => pure (tmps.getD t undef)
  | .cell x t => do loadVar t (← asAddr (tmps.getD x undef))
theorem results_eq (fn : Func) (tmps : Array Value) : results fn tmps = (do
    let vs ← fn.results.mapM (resOne tmps)
    pure (if h : vs.size = 1 then vs[0] else .tuple vs)) := by
  unfold results
  congr 1

theorem RetOne.run {P : Program} {n : Nat} {env : Env} {a : Act} {K : Kp} {G : List Ent} {w : World} (ha : EnvOk n env a) (hs : SatW w K G) {r : ResultVar} {v : Value} (h1 : RetOne P env K G r v) : (resOne a.tmps r).run P w = .ok v w := by
  cases r with
  | tmp t =>
    have e : a.tmps.getD t undef = v := ha.at_ t v h1
    simp only [resOne, e]; rfl
  | cell x t =>
    obtain ⟨A, m, cs, g1, g2, g3, g4, g5, rfl⟩ := h1
    have e := ha.at_ x _ g1
    obtain ⟨hm, hr⟩ := g5
    subst hm
    have hn' : cs.length ≠ 0 := fun e => by rw [e] at g4; cases g4
    have hu : (P.underlying t).isSome = true := by
      unfold aggB at g2
      cases h : P.underlying t with
      | none => simp [h] at g2
      | some _ => rfl
    have h1 := run_loadCells_list (P := P) w A cs (fun j v hv => hr w hs j v hv)
    simp only [resOne, Sem.run_bind, Sem.run_pure, Result.andThen_ok, e, asAddr, loadVar, run_isAgg' g2 hu, run_size g3 hn', h1, if_true]
theorem RetAll.run {P : Program} {n : Nat} {env : Env} {a : Act} {K : Kp} {G : List Ent} {w : World} (ha : EnvOk n env a) (hs : SatW w K G) : ∀ (rs : List ResultVar) (vs : List Value), RetAll P env K G rs vs →
    ((rs.mapM (resOne a.tmps)) : Sem (List Value)).run P w = .ok vs w
  | [], vs, h => by simp only [RetAll] at h; subst h; simp
  | r :: rs, vs, h => by
    obtain ⟨v, us, rfl, h1, h2⟩ := h
    have ih := RetAll.run ha hs rs us h2
    rw [List.mapM_cons]
    simp only [Sem.run_bind, h1.run ha hs, Sem.run_pure, Result.andThen_ok, ih]

def retQ (P : Program) (rs : List ResultVar) (Q : Value → Kp → List Ent → Prop) : Post := fun ex env K G => (ex = .ret ∨ ex = .normal) ∧ ∃ vs G2, RetAll P env K G rs vs ∧ G2.Sublist G ∧ Q (mkRes vs) K G2

theorem Fc_of {P : Program} {f : FuncId} {fn : Func} {c : Code} {n : Nat} {args : Array Value} {K : Kp} {G : List Ent} {Q : Value → Kp → List Ent → Prop} {rs : Array ResultVar}
    (hf : P.funcs[f]? = some fn) (hb : fn.body = some c) (hn : fn.ntmps = n) (hres : fn.results = rs) (hle : Nat.ble args.size n = true)
    (h : Cw P n c (argEnv 0 args.toList) K G (retQ P rs.toList Q)) : Fc P f args K G Q := fun E w hs => by
  have hle' : args.size ≤ n := by simpa [Nat.ble_eq] using hle
  refine calls_of_wp hf hb (Code.wp_mono (fun ex a' w' hq => ?_) (h E w _ hs ⟨?_, rfl, fun t v ht => ?_⟩))
  · obtain ⟨env', K', G', h1, h2, h3, h4, vs, G2, h5, hg, h6⟩ := hq
    have hrun : (results fn a'.tmps).run P w' = .ok (mkRes vs) w' := by
      have := RetAll.run (P := P) h3 h2.toSatW _ _ h5
      rw [results_eq, hres]
      obtain ⟨l⟩ := rs
      rw [List.mapM_toArray]
      simp only [Sem.run_map, Sem.run_bind, Sem.run_pure]
      rw [this]
      match vs with
      | [] => simp [mkRes]
      | [v] => simp [mkRes]
      | v :: u :: r => simp [mkRes]
    rcases h4 with rfl | rfl <;> exact ⟨h3.defers, _, hrun, _, K', G2, rfl, h1, h2.less hg, h6⟩
  · simp [hn]; omega
  · obtain ⟨_, h2⟩ := lk_argEnv _ _ _ _ ht
    simp only [Nat.sub_zero] at h2
    have hlt : t < args.size := by
      have := (List.getElem?_eq_some_iff.1 h2).1
      simpa using this
    simp only [Array.getD_eq_getD_getElem?, Array.getElem?_append_left hlt]
    have h2' : args[t]? = some v := by simpa using h2
    rw [h2']; rfl

/-! ### values built from parts -/
def fillL (pl : Nat → Option (Nat × Nat)) : List Value → List (Nat × List Value) → Option (List Value)
  | cs, [] => some cs
  | cs, (i, vs) :: rest => match pl i with
    | none => none
    | some (off, size) => if vs.length = size ∧ off + size ≤ cs.length then fillL pl (ovw cs off vs) rest else none

theorem foldl_ovw : ∀ (vs : List Value) (k : Nat) (cs : Array Value) (off : Nat), ((vs.zipIdx k).foldl (fun (cs : Array Value) (p : Value × Nat) => cs.setIfInBounds (off + p.2) p.1) cs) = (ovw cs.toList (off + k) vs).toArray
  | [], k, cs, off => by cases cs; rename_i l; cases l <;> simp [ovw]
  | v :: vs, k, cs, off => by
    simp only [List.zipIdx_cons, List.foldl_cons]
    rw [foldl_ovw vs (k + 1) _ off, ovw_cons]
    simp [Nat.add_assoc]

theorem fill_eq (pl : Nat → Option (Nat × Nat)) : ∀ (ps : List (Nat × Value)) (cs : Array Value) (r : List Value), fillL pl cs.toList (ps.map fun p => (p.1, p.2.cells.toList)) = some r → Instr.fill pl cs ps = some r.toArray
  | [], cs, r, h => by
    simp [fillL] at h
    subst h
    simp [Instr.fill]
  | (i, v) :: ps, cs, r, h => by
    simp only [List.map_cons, fillL] at h
    simp only [Instr.fill]
    cases hp : pl i with
    | none => simp [hp] at h
    | some os =>
      obtain ⟨off, size⟩ := os
      simp only [hp] at h ⊢
      split at h
      · rename_i hc
        obtain ⟨h1, h2⟩ := hc
        have h1' : v.cells.size = size := by simpa using h1
        have h2' : off + size ≤ cs.size := by simpa using h2
        have hno : (v.cells.size ≠ size || off + v.cells.size > cs.size) = false := by simp [h1', h2']
        simp only [hno]
        have hf : v.cells.zipIdx.foldl (fun (cs : Array Value) (p : Value × Nat) => cs.setIfInBounds (off + p.2) p.1) cs = (ovw cs.toList off v.cells.toList).toArray := by
          rw [← Array.foldl_toList, Array.toList_zipIdx]
          have := foldl_ovw v.cells.toList 0 cs off
          simpa using this
        simp only [Bool.false_eq_true, if_false]
        rw [show (v.cells.zipIdx.foldl (fun cs x => match x with | (c, j) => cs.setIfInBounds (off + j) c) cs) = (ovw cs.toList off v.cells.toList).toArray from hf]
        exact fill_eq pl ps _ r (by simpa using h)
      · cases h

def partsEv (env : Env) : List (Nat × Operand) → Option (List (Nat × Value))
  | [] => some []
  | (i, x) :: r => match ev env x, partsEv env r with
    | some v, some l => some ((i, v) :: l)
    | _, _ => none
theorem partsEv_map {n : Nat} {env : Env} {a : Act} (ha : EnvOk n env a) : ∀ (ps : List (Nat × Operand)) (l : List (Nat × Value)), partsEv env ps = some l → ps.map (fun p => (p.1, a.eval p.2)) = l
  | [], l, h => by simp [partsEv] at h; simp [h]
  | (i, x) :: r, l, h => by
    simp only [partsEv] at h
    split at h
    · rename_i v l' hv hl
      cases h
      simp [ha.ev hv, partsEv_map ha r l' hl]
    · cases h

section
variable {P : Program} {n : Nat} {env : Env} {K : Kp} {G : List Ent} {R : Cont} {Q : Post} {ops : Array Oper} {l rest : List Oper}
variable {d : Nat} {dd : Option Tmp} {ty : TypeId} {pos : String} {af : Array Edge} {g : Option (Nat × Bool)}

theorem Qt_build {t : TypeId} {ps : Array (Nat × Operand)} {pvs : List (Nat × Value)} {fs : Array Field} {i : TypeInfo} {z : Value} {cs : List Value} (hp : partsEv env ps.toList = some pvs) (ht : P.underlying t = some (.struct fs)) (hi : P.info? t = some i) (hz : i.zero = some z)
    (hfs : (fs.toList.all fun f => (P.info? f.type).isSome) = true)
    (hf : fillL (fun k => (fs[k]?).map fun f => (f.offset, P.cellsOf f.type)) z.cells.toList (pvs.map fun p => (p.1, p.2.cells.toList)) = some cs) : Qt P n ⟨dd, .build t ps, ty, pos, af, g⟩ env K G (.agg cs.toArray) := fun w a _ ha => by
  have hps : (ps.map fun (i, x) => (i, a.eval x)) = pvs.toArray := by
    obtain ⟨l⟩ := ps
    simp only [List.map_toArray]
    rw [← partsEv_map ha l pvs hp]
  have hplaces : ∀ w, ((fs.mapM fun f => do pure (f.offset, ← sizeOf f.type) : Sem (Array (Nat × Nat)))).run P w = .ok (fs.map fun f => (f.offset, P.cellsOf f.type)) w := by
    intro w
    obtain ⟨l⟩ := fs
    rw [List.mapM_toArray]
    have key : ∀ l : List Field, (l.all fun f => (P.info? f.type).isSome) = true → ∀ w, ((l.mapM fun f => Functor.map (Prod.mk f.offset) (sizeOf f.type) : Sem (List (Nat × Nat)))).run P w = .ok (l.map fun f => (f.offset, P.cellsOf f.type)) w := by
      intro l
      induction l with
      | nil => intro _ w; simp
      | cons f l ih =>
        intro h w
        simp only [List.all_cons, Bool.and_eq_true] at h
        obtain ⟨j, hj⟩ := Option.isSome_iff_exists.1 h.1
        have hsz : (sizeOf f.type).run P w = .ok (P.cellsOf f.type) w := run_sizeOf' hj (by simp [Program.cellsOf, hj]) w
        simp [List.mapM_cons, hsz, ih h.2]
    simp [key l hfs]
  have hfill := fill_eq (fun k => (fs[k]?).map fun f => (f.offset, P.cellsOf f.type)) pvs z.cells cs hf
  simp only [execOp]
  rw [hps]
  simp only [Instr.build, zeroValue, typeInfo, Sem.run_bind, run_program, Result.andThen_ok, hi, Sem.run_pure, hz, run_und ht, hplaces]
  have hpl : (fun (x : Nat) => (fs.map fun (f : Field) => (f.offset, P.cellsOf f.type))[x]?) = fun k => (fs[k]?).map fun (f : Field) => (f.offset, P.cellsOf f.type) := by
    funext k; simp
  rw [hpl, hfill]
  simp

/-- The cells of a literal of rows, all of them given in order. -/
def litCells : List (Nat × Value) → List Value
  | [] => []
  | (_, v) :: r => v.cells.toList ++ litCells r
def litOk (size : Nat) : Nat → List (Nat × Value) → Bool
  | _, [] => true
  | k, (i, v) :: r => Nat.beq i k && Nat.beq v.cells.size size && litOk size (k + 1) r

theorem ovw_append (pre vs mid : List Value) (suf : List Value) (hm : mid.length = vs.length) : ovw (pre ++ mid ++ suf) pre.length vs = pre ++ vs ++ suf := by
  induction vs generalizing pre mid with
  | nil =>
    have : mid = [] := List.eq_nil_of_length_eq_zero (by simpa using hm)
    subst this
    cases pre <;> cases suf <;> simp [ovw]
  | cons v vs ih =>
    match mid, hm with
    | m :: mid, hm =>
      rw [ovw_cons]
      have := ih (pre ++ [v]) mid (by simpa using hm)
      simpa using this

theorem fillL_lit (size : Nat) : ∀ (pvs : List (Nat × Value)) (k : Nat) (pre suf : List Value), litOk size k pvs = true → pre.length = k * size → suf.length = pvs.length * size →
    fillL (fun i => some (i * size, size)) (pre ++ suf) (pvs.map fun p => (p.1, p.2.cells.toList)) = some (pre ++ litCells pvs)
  | [], k, pre, suf, _, _, hs => by
    have : suf = [] := List.eq_nil_of_length_eq_zero (by simpa using hs)
    subst this
    simp [fillL, litCells]
  | (i, v) :: pvs, k, pre, suf, hok, hp, hs => by
    simp only [litOk, Bool.and_eq_true] at hok
    obtain ⟨⟨hik, hv⟩, hok⟩ := hok
    obtain rfl : i = k := Nat.eq_of_beq_eq_true hik
    have hv := Nat.eq_of_beq_eq_true hv
    have hs' : suf.length = size + pvs.length * size := by rw [hs, List.length_cons, Nat.succ_mul, Nat.add_comm]
    have hcut : suf = suf.take size ++ suf.drop size := (List.take_append_drop _ _).symm
    have hv' : v.cells.toList.length = size := by simpa using hv
    have htl : (suf.take size).length = size := by rw [List.length_take]; omega
    have ho : ovw (pre ++ suf) (i * size) v.cells.toList = (pre ++ v.cells.toList) ++ suf.drop size := by
      rw [← hp]
      conv => lhs; rw [hcut, ← List.append_assoc]
      exact ovw_append pre _ _ _ (by rw [htl, hv'])
    simp only [List.map_cons, fillL]
    rw [if_pos ⟨hv', by rw [List.length_append, hp]; omega⟩, ho, fillL_lit size pvs (i + 1) _ _ hok (by rw [List.length_append, hp, hv', Nat.succ_mul]) (by rw [List.length_drop]; omega)]
    simp [litCells]

theorem OpW_buildSlice {t e : TypeId} {m size : Nat} {ps : Array (Nat × Operand)} {pvs : List (Nat × Value)} {i : TypeInfo} {z : Value} (hlt : Nat.blt d n = true) (hp : partsEv env ps.toList = some pvs) (ht : P.underlying t = some (.slice e)) (hi : P.info? e = some i) (hz : i.zero = some z)
    (hsize : i.size = size) (hm : Nat.beq pvs.length m = true) (hok : litOk size 0 pvs = true) (hsmall : Nat.ble (m * size) 16777216 = true) (hpos : Nat.blt 0 (m * size) = true) {rows : List (List Value)} (hrows : pvs.map (fun p => p.2.cells.toList) = rows)
    (h : ∀ s, R ((d, sv s) :: env) K (.row (sv s) e size rows.flatten :: G)) : OpW P n ⟨some d, .buildSlice t m ps, ty, pos, af, g⟩ env K G R := fun E w a hs ha next Q hk => by
  subst hsize
  have hm' : pvs.length = m := Nat.eq_of_beq_eq_true hm
  have hsmall' : m * i.size ≤ 16777216 := by simpa [Nat.ble_eq] using hsmall
  have hpos' : 0 < m * i.size := by simpa [Nat.blt_eq] using hpos
  have hps : (ps.map fun (i, x) => (i, a.eval x)) = pvs.toArray := by
    obtain ⟨l⟩ := ps
    simp only [List.map_toArray]
    rw [← partsEv_map ha l pvs hp]
  have hfl := fillL_lit i.size pvs 0 [] ((Array.range (m * i.size)).map (z.cells[· % z.cells.size]!)).toList hok (by simp) (by simp [hm'])
  simp only [List.nil_append] at hfl
  have hfill := fill_eq _ pvs _ _ hfl
  unfold Oper.wp
  simp only [execOp]
  rw [hps]
  simp only [Instr.buildSlice, Sem.run_bind, run_und ht, Result.andThen_ok, run_sizeOf' hi rfl]
  rw [if_neg (by omega), if_neg (by omega)]
  simp only [zeroValue, typeInfo, Sem.run_bind, run_program, Result.andThen_ok, hi, Sem.run_pure, hz, hfill, newRow, run_newObj]
  rw [Oper.upon_value]
  have hlen : (litCells pvs).length = m * i.size := by
    have : ∀ (pvs : List (Nat × Value)) (k : Nat), litOk i.size k pvs = true → (litCells pvs).length = pvs.length * i.size := by
      intro pvs
      induction pvs with
      | nil => intro k _; simp [litCells]
      | cons p pvs ih =>
        intro k h
        obtain ⟨j, v⟩ := p
        simp only [litOk, Bool.and_eq_true] at h
        have hv : v.cells.toList.length = i.size := by simpa using Nat.eq_of_beq_eq_true h.1.2
        rw [litCells, List.length_append, hv, ih _ h.2, List.length_cons, Nat.succ_mul, Nat.add_comm]
    rw [this pvs 0 hok, hm']
  refine hk _ _ _ _ _ (Kp.le_refl K) (hs.new (o := .cells (litCells pvs).toArray e) (e := .row (.slice (some ⟨w.heap.size, 0, none⟩) m m) e i.size rows.flatten) ⟨m, ?_⟩ rfl (fun b hb => ?_)) (ha.put (lt_of_blt hlt) _) (h ⟨some ⟨w.heap.size, 0, none⟩, m, m⟩)
  rotate_left
  · cases hb; exact Ent.free_new hs.toSatW (Nat.le_refl _) 0
  have hlf : ∀ pvs : List (Nat × Value), litCells pvs = (pvs.map (fun p => p.2.cells.toList)).flatten := by
    intro pvs
    induction pvs with
    | nil => rfl
    | cons p pvs ih => obtain ⟨j, v⟩ := p; simp [litCells, ih]
  rw [← hrows, ← hlf]
  have hmx : m ≤ maxLen := by
    have : m ≤ m * i.size := Nat.le_mul_of_pos_right _ (by rcases Nat.eq_zero_or_pos i.size with h0 | h0; · rw [h0] at hpos'; omega
                                                           · exact h0)
    simp only [maxLen]; omega
  have := World.ownsRow_lit (base := 0) (e := e) (size := i.size) w (litCells pvs).toArray m (Nat.zero_le _) hmx (by simpa using hlen)
  simpa using this
end
end Go.Hx
