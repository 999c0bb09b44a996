/-
  Insert into an own row: raw rows, copies, an append of zeros, the capacity.
-/
import Derived.Test.YthokebmjjkjjfaaHxNest
import Derived.Test.YthokebmjjkjjfaaHxLoops
import Derived.Lib.Overlaps
import Derived.Lib.AppendZerosOnto
import Derived.Laws.Externs
import Derived.Laws.CopyRow
namespace Go.Hx
open Go
set_option linter.unusedVariables false
set_option linter.unusedSimpArgs false
/-- slices.Insert of one element. -/
def insO {α : Type} (l : List α) (i : Int) (m : List α) : Option (List α) := if 0 ≤ i ∧ i ≤ l.length ∧ m.length = 1 ∧ l.length < 4294967296 then some (l.take i.toNat ++ m ++ l.drop i.toNat) else none
section
variable {P : Program} {n : Nat} {env : Env} {K : Kp} {G : List Ent} {R : Cont} {Q : Post} {ops : Array Oper} {rest : List Oper}
variable {d : Nat} {dd : Option Tmp} {ty : TypeId} {pos : String} {af : Array Edge} {gd : Option (Nat × Bool)}
theorem Qt_cap {t e : TypeId} {x : Operand} {A : Option Addr} {m c : Nat} (hx : ev env x = some (.slice A m c)) (ht : P.underlying t = some (.slice e)) :
    Qt P n ⟨dd, .call { callee := .builtin .cap, args := #[x], argTypes := #[t] }, ty, pos, af, gd⟩ env K G (.int .i64 c) := fun w a _ ha => by
  simp [execOp, resolve, invoke, builtin, ha.ev hx, Builtin.cap_, run_und ht, goInt]
variable {g c k sz : Nat} {t : TypeId} {xs ys : List Value} {S : Kp → List Ent → Prop}
theorem Shift.rawOpen {m : Nat} (h : ∀ ys, ys.length = c * sz → ys.take (m * sz) = xs → c ≤ maxLen → m ≤ c → Shift K (.row (.slice (some ⟨g, 0, none⟩) c c) t sz ys :: G) S) : Shift K (.row (.slice (some ⟨g, 0, none⟩) m c) t sz xs :: G) S := fun E w hs => by
  have hm := hs.g _ (.head _)
  obtain ⟨g0, cur, e0, hg, hmc, hcm, hcs, htake⟩ := row_full hm
  cases e0
  have hfree := hs.apart _ (.head _)
  refine h cur.toList (by simp [hcs]) htake hcm hmc E w (hs.upd (e' := .row (.slice (some ⟨g, 0, none⟩) c c) t sz cur.toList) .here rfl rfl rfl (fun _ _ _ => rfl) ?_ (fun b hb => .inl hb) (by simp [Ent.own, Value.ownBlock]) hfree (row_off hfree))
  exact row_back hg (Nat.le_refl _) hcm hcs (List.take_of_length_le (by simp [hcs]))
theorem Shift.rawShut (hk : k ≤ c) (h : Shift K (.row (.slice (some ⟨g, 0, none⟩) k c) t sz (ys.take (k * sz)) :: G) S) : Shift K (.row (.slice (some ⟨g, 0, none⟩) c c) t sz ys :: G) S := fun E w hs => by
  have hm := hs.g _ (.head _)
  obtain ⟨g0, cur, e0, hg, hmc, hcm, hcs, htake⟩ := row_full hm
  cases e0
  have hfree := hs.apart _ (.head _)
  have hys : cur.toList = ys := by rw [← htake, List.take_of_length_le (by simp [hcs])]
  refine h E w (hs.upd (e' := .row (.slice (some ⟨g, 0, none⟩) k c) t sz (ys.take (k * sz))) .here rfl rfl rfl (fun _ _ _ => rfl) ?_ (fun b hb => .inl hb) (by simp [Ent.own, Value.ownBlock]) hfree (row_off hfree))
  exact row_back hg hk hcm hcs (by rw [hys])
/-- 'copy' into a raw row. -/
theorem O_copyRaw {t1 t2 e : TypeId} {x y : Operand} {ti : TypeInfo} {o dl dc sl sc C : Nat} {a : Addr} {cs : List Value} {q : Nat} (hlt : Nat.blt d n = true)
    (hx : ev env x = some (.slice (some ⟨g, o, none⟩) dl dc)) (hy : ev env y = some (.slice (some a) sl sc)) (ht : P.underlying t1 = some (.slice e)) (hi : P.info? e = some ti) (hsize : ti.size = sz)
    (hq : Nat.min sl dl = q) (hn : cs.length = q * sz)
    (hsrc : ∀ w, SatW w K (.row (.slice (some ⟨g, 0, none⟩) C C) t sz ys :: G) → ∀ j u, cs[j]? = some u → w.cell? (a.add j) = some u) (hfit : o + cs.length ≤ ys.length) (h1 : ∀ v ∈ cs, v.oneCell' = true)
    (h : R ((d, .int .i64 q) :: env) K (.row (.slice (some ⟨g, 0, none⟩) C C) t sz (ys.take o ++ cs ++ ys.drop (o + cs.length)) :: G)) :
    OpW P n ⟨some d, .call { callee := .builtin .copy, args := #[x, y], argTypes := #[t1, t2] }, ty, pos, af, gd⟩ env K (.row (.slice (some ⟨g, 0, none⟩) C C) t sz ys :: G) R :=
  fun E w av hs ha next Q hk => by
    have hm := hs.g _ (.head _)
    obtain ⟨g0, cur, e0, hg, hmc, hcm, hcs, htake⟩ := row_full hm
    cases e0
    have hys : cur.toList = ys := by rw [← htake, List.take_of_length_le (by simp [hcs])]
    have hys' : cur.size = ys.length := by rw [← hys]; simp
    have hl := run_loadCells_list (P := P) w a cs (hsrc w hs.toSatW)
    have hst := run_storeCells_at P g o t cs 0 cur w hg (by omega) h1
    have hrun : (Builtin.copy_ #[t1, t2] ty #[.slice (some ⟨g, o, none⟩) dl dc, .slice (some a) sl sc]).run P w = .ok (goInt q) (w.setRow g (ys.take o ++ cs ++ ys.drop (o + cs.length)).toArray) := by
      rw [hn] at hl
      rw [hys] at hst
      simp [Builtin.copy_, run_underlying ht, Builtin.lenOf, Builtin.firstCells, sizeOf, typeInfo, hi, hsize, hq, hl, hst]
    unfold Oper.wp
    simp only [execOp, resolve, Sem.run_bind, Sem.run_pure, Result.andThen_ok, invoke, builtin, List.map_toArray, List.map_cons, List.map_nil, ha.ev hx, ha.ev hy, hrun]
    rw [Oper.upon_value]
    have hfree := hs.apart _ (.head _)
    have hlen : (ys.take o ++ cs ++ ys.drop (o + cs.length)).length = ys.length := by simp; omega
    refine hk _ _ _ _ _ (Kp.le_refl K) (hs.upd (e' := .row (.slice (some ⟨g, 0, none⟩) C C) t sz (ys.take o ++ cs ++ ys.drop (o + cs.length))) .here rfl rfl (by simp) (fun b hb hne => setRow_other w g b _ (fun e => hne (by rw [e]; simp [Ent.own, Value.ownBlock]))) (row_back (setRow_heap w g cur _ t _ hg) (Nat.le_refl _) hcm (by simp only [List.size_toArray]; omega) ?_) (fun b hb => .inl hb) (by simp [Ent.own, Value.ownBlock]) hfree (row_off hfree)) (ha.put (lt_of_blt hlt) _) h
    rw [List.take_of_length_le (by simp only [List.size_toArray]; omega)]
/-- 'append(s[:i], make(..)...)' that does not fit: a new row, which begins as the old one. -/
theorem O_appZeros {t1 tn e : TypeId} {x y : Operand} {ti : TypeInfo} {z : Value} {i m b C bytes : Nat} {kq kn : IntKind} (hlt : Nat.blt d n = true)
    (hx : ev env x = some (.slice (some ⟨g, 0, none⟩) i C)) (hy : ev env y = some (.int kq (b : Int))) (hm : Ent.row (.slice (some ⟨g, 0, none⟩) m C) t sz xs ∈ G)
    (ht : P.underlying t1 = some (.slice e)) (htn : P.underlying tn = some (.int kn)) (hi : P.info? e = some ti) (hz : ti.zero = some z) (hsize : ti.size = sz) (hby : ti.bytes = bytes) (hzs : Nat.beq z.cells.size sz = true) (hsz : Nat.blt 0 sz = true)
    (h0 : 0 < b) (him : i ≤ m) (hgrow : C < i + b) (h63 : i + b ≤ 4294967297) (hbytes : Nat.ble bytes 32767 = true)
    (h : ∀ g' c' zs, i + b ≤ c' → c' ≤ maxLen → zs.length = c' * sz → zs.take (i * sz) = xs.take (i * sz) → R ((d, .slice (some ⟨g', 0, none⟩) (i + b) c') :: env) K (.row (.slice (some ⟨g', 0, none⟩) c' c') e sz zs :: G)) :
    OpW P n ⟨some d, .call { callee := .builtin .append, args := #[x, y], argTypes := #[t1, tn] }, ty, pos, af, gd⟩ env K G R :=
  fun E w av hs ha next Q hk => by
    have hsz' : 0 < sz := lt_of_blt hsz
    have hzs' : z.cells.size = sz := Nat.eq_of_beq_eq_true hzs
    have hb' : bytes ≤ 32767 := by simpa [Nat.ble_eq] using hbytes
    have hmm := hs.g _ hm
    obtain ⟨g0, cur, e0, hg, hmc, hcm, hcs, htake⟩ := row_full hmm
    cases e0
    have hxl : xs.length = m * sz := by rw [← htake, List.length_take, Array.length_toList, hcs]; have := Nat.mul_le_mul_right sz hmc; omega
    have hcell : ∀ j u, xs[j]? = some u → w.cell? ((⟨g, 0, none⟩ : Addr).add j) = some u := fun j u hu => by
      rw [add_lit, cell_of_row w g _ _ t (0, 0) hg]
      rw [← htake, List.getElem?_take] at hu
      split at hu
      · simpa using hu
      · cases hu
    have hil : (xs.take (i * sz)).length = i * sz := by
      rw [List.length_take, hxl]
      have := Nat.mul_le_mul_right sz him
      omega
    have hold : (Builtin.firstCells ti.size i (.slice (some ⟨g, 0, none⟩) i C)).run P w.drew = .ok (xs.take (i * sz)).toArray w.drew := by
      rw [hsize]
      exact run_firstCells_some w.drew sz i ⟨g, 0, none⟩ i C (xs.take (i * sz)) hil (fun j v hj => by
        rw [List.getElem?_take] at hj
        split at hj
        · exact hcell j v hj
        · cases hj)
    have hprod : (i + b) * bytes ≤ 140737488355328 := by
      have h1 : (i + b) * bytes ≤ 4294967297 * 32767 := Nat.mul_le_mul h63 hb'
      omega
    have hprod2 : b * bytes ≤ 281474976710656 := by
      have h1 : b * bytes ≤ (i + b) * bytes := Nat.mul_le_mul_right _ (by omega)
      omega
    have hrun := Lib.run_append_grow_zeros (P := P) w t1 tn ty e ti z kq kn ht htn hi hz (some ⟨g, 0, none⟩) i C (xs.take (i * sz)) hold b h0 (by omega) hgrow (by omega) (by rw [hby]; exact hprod2) (by rw [hby]; exact growslice_fits hgrow hprod)
    obtain ⟨c', hc'⟩ : ∃ c', c' = grownCap w (i + b) C e := ⟨_, rfl⟩
    have hge : i + b ≤ c' := by rw [hc']; exact grownCap_ge w _ _ _
    have hle : c' ≤ maxLen := by rw [hc']; exact grownCap_le_maxLen w (i + b) C e (by unfold maxLen; omega)
    rw [← hc'] at hrun
    obtain ⟨zs, hzsdef⟩ : ∃ zs : List Value, zs = ((xs.take (i * sz)).toArray ++ Builtin.zeroCells z.cells b ++ Builtin.zeroCells z.cells (c' - (i + b))).toList := ⟨_, rfl⟩
    have hzl : zs.length = c' * sz := by
      rw [hzsdef]
      have h9 : c' * sz = i * sz + b * sz + (c' - (i + b)) * sz := by rw [← Nat.add_mul, ← Nat.add_mul]; congr 1; omega
      simp [Builtin.zeroCells, hzs']
      rw [h9, hxl]
      have := Nat.mul_le_mul_right sz him
      omega
    have hzt : zs.take (i * sz) = xs.take (i * sz) := by
      rw [hzsdef]
      simp only [Array.toList_append, List.append_assoc]
      exact (congrArg (fun q => List.take q _) hil.symm).trans List.take_left
    have harr : ((xs.take (i * sz)).toArray ++ Builtin.zeroCells z.cells b ++ Builtin.zeroCells z.cells (c' - (i + b))) = zs.toArray := by rw [hzsdef]
    rw [harr] at hrun
    unfold Oper.wp
    simp only [execOp, resolve, Sem.run_bind, Sem.run_pure, Result.andThen_ok, invoke, builtin, List.map_toArray, List.map_cons, List.map_nil, ha.ev hx, ha.ev hy, hrun]
    rw [Oper.upon_value]
    refine hk _ _ _ _ _ (Kp.le_refl K) (hs.drew.new (e := .row (.slice (some ⟨w.heap.size, 0, none⟩) c' c') e sz zs) ?_ rfl (fun b hb => ?_)) (ha.put (lt_of_blt hlt) _) (h w.heap.size c' zs hge hle hzl hzt)
    · refine row_back (cur := zs.toArray) ?_ (Nat.le_refl _) hle (by simp [hzl]) (List.take_of_length_le (by simp [hzl]))
      show (w.heap.push _)[w.heap.size]? = _
      simp
    · simp only [Value.ownBlock, Option.some.injEq] at hb
      subst hb
      exact Ent.free_new hs.toSatW (Nat.le_refl _) 0
/-- A call of a function of the model's own. -/
theorem OpW_ext {f : FuncId} {fo : Operand} {first captured : Array Value} {args : Array Operand} {ts : Array TypeId} {vs : List Value} {v : Value} (hlt : Nat.blt d n = true)
    (hf : ev env fo = some (.func (.func f) first captured)) (ha' : args.toList.mapM (ev env) = some vs) (hrun : ∀ w, SatW w K G → (callFunc f (first ++ vs.toArray ++ captured)).run P w = .ok (.value v) w)
    (h : R ((d, v) :: env) K G) : OpW P n ⟨some d, .call { callee := .value fo, args := args, argTypes := ts }, ty, pos, af, gd⟩ env K G R :=
  fun E w a hs ha next Q hk => by
    have hargs : args.map a.eval = vs.toArray := by
      obtain ⟨l⟩ := args
      simp only [List.map_toArray]
      congr 1
      simp only at ha'
      clear hk hrun h hf
      induction l generalizing vs with
      | nil => simp at ha'; simp [ha'.symm]
      | cons o l ih =>
        simp only [List.mapM_cons, Option.bind_eq_bind, Option.bind_eq_some_iff, Option.pure_def, Option.some.injEq] at ha'
        obtain ⟨u, hu, us, hus, rfl⟩ := ha'
        rw [List.map_cons, ha.ev hu, ih hus]
    unfold Oper.wp
    simp only [execOp, resolve, ha.ev hf, hargs, Deferred.ofValue]
    simp only [Sem.run_bind, Sem.run_pure, Result.andThen_ok, invoke, hrun w hs.toSatW]
    rw [Oper.upon_value]
    exact hk _ _ _ _ _ (Kp.le_refl K) hs (ha.put (lt_of_blt hlt) _) h
end
theorem insO_some {α : Type} {l m l' : List α} {i : Int} (h : insO l i m = some l') : 0 ≤ i ∧ i ≤ l.length ∧ m.length = 1 ∧ l.length < 4294967296 ∧ l' = l.take i.toNat ++ m ++ l.drop i.toNat := by
  unfold insO at h
  split at h
  · rename_i hc; cases h; exact ⟨hc.1, hc.2.1, hc.2.2.1, hc.2.2.2, rfl⟩
  · cases h
section
variable {P : Program} {n : Nat} {env : Env} {K : Kp} {G : List Ent}
variable {dd : Option Tmp} {ty : TypeId} {pos : String} {af : Array Edge} {gd : Option (Nat × Bool)}
theorem Qt_slice_l1 {t e : TypeId} {x lo : Operand} {g m c q r size : Nat} {k : IntKind} {j : Int} (hx : ev env x = some (.slice (some ⟨g, 0, none⟩) m c)) (hh : ev env lo = some (.int k j)) (ht : P.underlying t = some (.slice e)) (hs : P.cellsOf e = size) (hz : Nat.beq size 0 = false)
    (hj : j = (q : Int)) (hq : q ≤ m) (hc : c ≠ q) (hr : m - q = r) : Qt P n ⟨dd, .slice t x (some lo) none none, ty, pos, af, gd⟩ env K G (.slice (some ⟨g, q * size, none⟩) r (c - q)) := by
  have := Qt_slice_l (P := P) (n := n) (dd := dd) (ty := ty) (pos := pos) (af := af) (g := gd) (K := K) (G := G) hx hh ht hs hz hj hq
  rwa [show slCut (some ⟨g, 0, none⟩) c size q m = .slice (some ⟨g, q * size, none⟩) r (c - q) by
    unfold slCut; rw [if_neg hc, hr]; simp only [Option.map_some, add_lit, Nat.zero_add]] at this
theorem rowCell {g m c sz : Nat} {t : TypeId} {xs : List Value} (h : Ent.row (.slice (some ⟨g, 0, none⟩) m c) t sz xs ∈ G) (w : World) (hs : SatW w K G) (j : Nat) (u : Value) (hu : xs[j]? = some u) : w.cell? ((⟨g, 0, none⟩ : Addr).add j) = some u := by
  obtain ⟨g0, cur, e0, hg, hmc, hcm, hcs, htake⟩ := row_full (hs.g _ h)
  cases e0
  rw [add_lit, cell_of_row w g _ _ t (0, 0) hg]
  rw [← htake, List.getElem?_take] at hu
  split at hu
  · simpa using hu
  · cases hu
theorem rowCellD {g m c sz o : Nat} {t : TypeId} {xs : List Value} (h : Ent.row (.slice (some ⟨g, 0, none⟩) m c) t sz xs ∈ G) (w : World) (hs : SatW w K G) (j : Nat) (u : Value) (hu : (xs.drop o)[j]? = some u) : w.cell? ((⟨g, o, none⟩ : Addr).add j) = some u := by
  rw [List.getElem?_drop] at hu
  have := rowCell h w hs _ u hu
  rw [add_lit, Nat.zero_add] at this
  rw [add_lit]; exact this
theorem rawCellD {g c sz o q : Nat} {t : TypeId} {xs ys : List Value} (he : ys.take q = xs) (w : World) (hs : SatW w K (.row (.slice (some ⟨g, 0, none⟩) c c) t sz ys :: G)) (j : Nat) (u : Value) (hu : (xs.drop o)[j]? = some u) : w.cell? ((⟨g, o, none⟩ : Addr).add j) = some u := by
  rw [List.getElem?_drop, ← he, List.getElem?_take] at hu
  split at hu
  · have := rowCell (.head _) w hs _ u hu
    rw [add_lit, Nat.zero_add] at this
    rw [add_lit]; exact this
  · cases hu
theorem overlaps_rows {tS tR e t t' : TypeId} {sz gv g m c m2 c2 k o q : Nat} {ys xs : List Value} (ht : P.underlying tS = some (.slice e)) (hsz : P.cellsOf e = sz) (hz : Nat.beq sz 0 = false) {w : World} (hs : SatW w K G)
    (hv : Ent.row (.slice (some ⟨gv, 0, none⟩) m2 c2) t' sz xs ∈ G) (hr : Ent.row (.slice (some ⟨g, 0, none⟩) m c) t sz ys ∈ G) (hne : gv ≠ g) (hc : 0 < c) :
    (Extern.SlicesOverlaps.overlaps #[tS, tS] #[tR] #[.slice (some ⟨gv, 0, none⟩) m2 c2, .slice (some ⟨g, o, none⟩) k q]).run P w = .ok (.bool false) w := by
  obtain ⟨g0, cur, e0, hg, hmc, hcm, hcs, htake⟩ := row_full (hs.g _ hr)
  cases e0
  obtain ⟨g1, cur1, e1, hg1, hmc1, hcm1, hcs1, htake1⟩ := row_full (hs.g _ hv)
  cases e1
  have hz' : sz ≠ 0 := fun e => by rw [e] at hz; cases hz
  refine Lib.run_overlaps_apart w tS tR e ht sz (run_size hsz hz') ⟨gv, 0, none⟩ ⟨g, o, none⟩ m2 c2 k q hne t' t cur1.size cur.size ?_ ?_ ?_ ?_ ?_
  · simp [World.shape?, hg1]
  · simp [World.shape?, hg]
  · rw [hcs]; exact Nat.mul_ne_zero (by omega) hz'
  · exact frozen_of_row w gv _ _ _ hg1
  · exact frozen_of_row w gv _ _ _ hg1
end
theorem flatten_cut {sz i : Nat} {rs : List (List Value)} (hs : ∀ r ∈ rs, r.length = sz) (hi : i ≤ rs.length) : (rs.take i).flatten = rs.flatten.take (i * sz) ∧ (rs.drop i).flatten = rs.flatten.drop (i * sz) := by
  have e2 := flatten_dropq hs i
  refine ⟨?_, e2⟩
  have e3 : rs.flatten = (rs.take i).flatten ++ (rs.drop i).flatten := by rw [← List.flatten_append, List.take_append_drop]
  have e4 : (rs.take i).flatten.length = i * sz := by rw [flatten_length (fun r hr => hs r (List.mem_of_mem_take hr)), List.length_take]; congr 1; omega
  conv => rhs; rw [e3, ← e4]
  rw [List.take_left]
theorem ins_grow {sz i k : Nat} {rs rv : List (List Value)} {zs : List Value} (hs : ∀ r ∈ rs, r.length = sz) (hl : rs.length = i + k) (hv : rv.flatten.length = sz) (ht : zs.take (i * sz) = rs.flatten.take (i * sz)) (hfit : (i + (k + 1)) * sz ≤ zs.length) :
    (((zs.take (i * sz) ++ rv.flatten ++ zs.drop (i * sz + rv.flatten.length)).take ((i + 1) * sz) ++ rs.flatten.drop (i * sz) ++ (zs.take (i * sz) ++ rv.flatten ++ zs.drop (i * sz + rv.flatten.length)).drop ((i + 1) * sz + (rs.flatten.drop (i * sz)).length)).take ((i + (k + 1)) * sz)) = (rs.take i ++ rv ++ rs.drop i).flatten := by
  obtain ⟨c1, c2⟩ := flatten_cut (i := i) hs (by omega)
  have hfl : rs.flatten.length = (i + k) * sz := by rw [flatten_length hs, hl]
  have h1 : (i + (k + 1)) * sz = i * sz + sz + k * sz := by rw [Nat.add_mul, Nat.add_mul]; omega
  have h2 : (i + 1) * sz = i * sz + sz := by rw [Nat.add_mul]; omega
  have h3 : (i + k) * sz = i * sz + k * sz := Nat.add_mul _ _ _
  have ha : (zs.take (i * sz) ++ rv.flatten).length = (i + 1) * sz := by rw [List.length_append, List.length_take, hv]; omega
  rw [List.flatten_append, List.flatten_append, c1, c2]
  rw [show (zs.take (i * sz) ++ rv.flatten ++ zs.drop (i * sz + rv.flatten.length)).take ((i + 1) * sz) = zs.take (i * sz) ++ rv.flatten by rw [← ha, List.take_left]]
  have hb : (zs.take (i * sz) ++ rv.flatten ++ rs.flatten.drop (i * sz)).length = (i + (k + 1)) * sz := by rw [List.length_append, ha, List.length_drop, hfl]; omega
  rw [← hb, List.take_left, ht]
theorem ins_room {sz i k : Nat} {rs rv : List (List Value)} {ys : List Value} (hs : ∀ r ∈ rs, r.length = sz) (hl : rs.length = i + k) (hv : rv.flatten.length = sz) (ht : ys.take ((i + k) * sz) = rs.flatten) (hfit : (i + (k + 1)) * sz ≤ ys.length) :
    (((ys.take ((i + 1) * sz) ++ rs.flatten.drop (i * sz) ++ ys.drop ((i + 1) * sz + (rs.flatten.drop (i * sz)).length)).take (i * sz) ++ rv.flatten ++ (ys.take ((i + 1) * sz) ++ rs.flatten.drop (i * sz) ++ ys.drop ((i + 1) * sz + (rs.flatten.drop (i * sz)).length)).drop (i * sz + rv.flatten.length)).take ((i + (k + 1)) * sz)) = (rs.take i ++ rv ++ rs.drop i).flatten := by
  obtain ⟨c1, c2⟩ := flatten_cut (i := i) hs (by omega)
  have hfl : rs.flatten.length = (i + k) * sz := by rw [flatten_length hs, hl]
  have h1 : (i + (k + 1)) * sz = i * sz + sz + k * sz := by rw [Nat.add_mul, Nat.add_mul]; omega
  have h2 : (i + 1) * sz = i * sz + sz := by rw [Nat.add_mul]; omega
  have h3 : (i + k) * sz = i * sz + k * sz := Nat.add_mul _ _ _
  have hd : (rs.flatten.drop (i * sz)).length = k * sz := by rw [List.length_drop, hfl]; omega
  have ha : (ys.take ((i + 1) * sz)).length = (i + 1) * sz := by rw [List.length_take]; omega
  rw [List.flatten_append, List.flatten_append, c1, c2]
  have e1 : (ys.take ((i + 1) * sz) ++ rs.flatten.drop (i * sz) ++ ys.drop ((i + 1) * sz + (rs.flatten.drop (i * sz)).length)).take (i * sz) = rs.flatten.take (i * sz) := by
    rw [List.append_assoc, List.take_append_of_le_length (by omega), List.take_take, ← ht, List.take_take]
    congr 1; omega
  have e2 : (ys.take ((i + 1) * sz) ++ rs.flatten.drop (i * sz) ++ ys.drop ((i + 1) * sz + (rs.flatten.drop (i * sz)).length)).drop (i * sz + rv.flatten.length) = rs.flatten.drop (i * sz) ++ ys.drop ((i + 1) * sz + (rs.flatten.drop (i * sz)).length) := by
    rw [hv, ← h2, List.append_assoc]
    conv => lhs; rw [← ha]
    rw [ha, List.drop_left' ha]
  rw [e1, e2]
  have hb : (rs.flatten.take (i * sz) ++ rv.flatten ++ rs.flatten.drop (i * sz)).length = (i + (k + 1)) * sz := by rw [List.length_append, List.length_append, List.length_take, hv, hd, hfl]; omega
  rw [← List.append_assoc, ← hb, List.take_left]
end Go.Hx
