/-
  Rows of own rows: a slice of slices whose inner ones are changed in place.
-/
import Derived.Test.YtlegagccaeoidaaDoorHxCol
import Derived.Test.YtlegagccaeoidaaDoorHxDel
namespace Go.Hx
open Go
set_option linter.unusedVariables false
set_option linter.unusedSimpArgs false
/-- A cell that is only looked at as such. -/
def rawT : Ty Value where
  size := 1
  rep _ r v := r = [v] ∧ ∃ s, v = sv s
  mono _ h := h
  len h := by rw [h.1]; rfl
  one h := by
    obtain ⟨rfl, s, rfl⟩ := h
    intro y hy; simp at hy; subst hy; rfl
/-- The heads and the rows of a slice of own slices. -/
structure NestR {α : Type} (T : Ty α) (K : Kp) (vs : List Value) (rss : List (List (List Value))) (L : List (List α)) : Prop where
  len : vs.length = L.length
  rows : All2 (fun rs l => RowR T K rs l) rss L
  hd : ∀ v ∈ vs, ∃ s, v = sv s
section
variable {α : Type} {T : Ty α} {K K' : Kp} {vs : List Value} {rss : List (List (List Value))} {L : List (List α)}
theorem NestR.mono (h : NestR T K vs rss L) (hk : K.le K') : NestR T K' vs rss L := ⟨h.len, All2.mono (fun _ _ h => h.mono hk) h.rows, h.hd⟩
theorem NestR.heads (h : NestR T K vs rss L) : RowR rawT K (vs.map one) vs := by
  have := h.hd
  clear h
  induction vs with
  | nil => trivial
  | cons v vs ih => exact ⟨⟨rfl, this v (.head _)⟩, ih fun v hv => this v (.tail _ hv)⟩
theorem NestR.at {i : Int} {x : List α} (h : NestR T K vs rss L) (hx : getI L i = some x) : ∃ s rs, (vs.map one)[i.toNat]? = some [sv s] ∧ vs[i.toNat]? = some (sv s) ∧ rss[i.toNat]? = some rs ∧ RowR T K rs x := by
  obtain ⟨h1, h2, h3⟩ := getI_ix hx
  obtain ⟨rs, h4, h5⟩ := All2.get h.rows h2
  have hlt : i.toNat < vs.length := by rw [h.len]; exact (List.getElem?_eq_some_iff.1 h2).1
  obtain ⟨s, hs⟩ := h.hd vs[i.toNat] (List.getElem_mem hlt)
  have : vs[i.toNat]? = some (sv s) := by rw [List.getElem?_eq_getElem hlt, hs]
  exact ⟨s, rs, by rw [List.getElem?_map, this]; rfl, this, h4, h5⟩
theorem NestR.new {k : Int} {l' : List (List α)} (T : Ty α) (K : Kp) (h : mkl k ([] : List α) = some l') : ∃ vs rss, vs = List.replicate k.toNat (.slice none 0 0) ∧ rss = List.replicate k.toNat [] ∧ NestR T K vs rss l' := by
  obtain ⟨h1, h2, rfl⟩ := mkl_some h
  refine ⟨_, _, rfl, rfl, ⟨by simp, All2.replicate _ trivial, fun v hv => ?_⟩⟩
  rw [(List.mem_replicate.1 hv).2]; exact ⟨nilS, rfl⟩
theorem NestR.set {s : SV} {rs : List (List Value)} {x : List α} (i : Int) (h : NestR T K vs rss L) (hx : RowR T K rs x) : NestR T K (vs.set i.toNat (sv s)) (rss.set i.toNat rs) (setI L i x) :=
  ⟨by simp [setI, h.len], All2.set _ h.rows hx, fun v hv => by
    rcases List.mem_or_eq_of_mem_set hv with hv | rfl
    · exact h.hd v hv
    · exact ⟨s, rfl⟩⟩
theorem NestR.back {s : SV} {rs : List (List Value)} {x : List α} (i : Int) (h : NestR T K vs rss L) (hs : vs[i.toNat]? = some (sv s)) (hx : RowR T K rs x) : NestR T K vs (rss.set i.toNat rs) (setI L i x) := by
  have := h.set (s := s) i hx
  rwa [list_set_same hs] at this
end
section
variable {K : Kp} {G G' G2 : List Ent} {R : Kp → List Ent → Prop} {E w : World} {t : TypeId} {size q : Nat} {vs : List Value} {rss : List (List (List Value))} {v : Value} {rs : List (List Value)}
theorem cutAt {β : Type} {l : List β} {q : Nat} {v : β} (h : l[q]? = some v) : ∃ A B, l = A ++ v :: B ∧ A.length = q := by
  have hlt := (List.getElem?_eq_some_iff.1 h).1
  refine ⟨l.take q, l.drop (q + 1), ?_, by rw [List.length_take]; omega⟩
  have := (List.getElem?_eq_some_iff.1 h).2
  rw [← this, ← List.drop_eq_getElem_cons hlt, List.take_append_drop]
theorem set_cut {β : Type} {A B : List β} {v u : β} : (A ++ v :: B).set A.length u = A ++ u :: B := by simp
theorem sat_nestTake {xss : List (List Value)} {xs : List Value} (hv : vs[q]? = some v) (hr : xss[q]? = some xs) (h : Sat E w K (.rws t size vs xss :: G)) :
    Sat E w K (.row v t size xs :: .rws t size (vs.set q (.slice none 0 0)) (xss.set q []) :: G) := by
  obtain ⟨hl, hh⟩ := h.g _ (.head _)
  have hq : q < vs.length := (List.getElem?_eq_some_iff.1 hv).1
  have hf := h.apart _ (.head _)
  refine { k := h.k, ko := h.ko, os := h.os, tape := h.tape, output := h.output, g := fun x hx => ?_, apart := fun x hx => ?_, nodup := ?_ }
  · rcases List.mem_cons.1 hx with rfl | hx
    · exact hh q v xs hv hr
    rcases List.mem_cons.1 hx with rfl | hx
    · refine ⟨by simp [hl], fun i u ys hu hy => ?_⟩
      by_cases e : q = i
      · subst e
        rw [List.getElem?_set_self hq] at hu; cases hu
        rw [List.getElem?_set_self (by omega)] at hy; cases hy
        exact ⟨0, World.ownsRow_nil w 0 t size⟩
      · rw [List.getElem?_set_ne e] at hu hy
        exact hh i u ys hu hy
    · exact h.g x (.tail _ hx)
  · rcases List.mem_cons.1 hx with rfl | hx
    · exact fun b hb => hf v (List.mem_of_getElem? hv) b hb
    rcases List.mem_cons.1 hx with rfl | hx
    · intro u hu b hb
      rcases List.mem_or_eq_of_mem_set hu with hu | rfl
      · exact hf u hu b hb
      · cases hb
    · exact h.apart x (.tail _ hx)
  · have hn := h.nodup
    obtain ⟨A, B, rfl, rfl⟩ := cutAt hv
    rw [set_cut]
    simp only [List.flatMap_cons, Ent.own, List.filterMap_append, List.filterMap_cons] at hn ⊢
    have e1 : (Value.slice none 0 0).ownBlock = none := rfl
    rw [e1]
    cases hvb : v.ownBlock with
    | none => rw [hvb] at hn; simpa using hn
    | some b =>
      rw [hvb] at hn
      refine (List.Perm.nodup_iff ?_).1 hn
      simp only [Option.toList, List.append_assoc, List.cons_append, List.nil_append]
      exact List.perm_middle
theorem sat_nestPut {xss : List (List Value)} {xs : List Value} (hq : q < vs.length) (h : Sat E w K (.row v t size xs :: .rws t size vs xss :: G)) :
    Sat E w K (.rws t size (vs.set q v) (xss.set q xs) :: G) := by
  obtain ⟨hl, hh⟩ := h.g _ (.tail _ (.head _))
  have hrow := h.g _ (.head _)
  have hf := h.apart _ (.tail _ (.head _))
  have hfr := h.apart _ (.head _)
  refine { k := h.k, ko := h.ko, os := h.os, tape := h.tape, output := h.output, g := fun x hx => ?_, apart := fun x hx => ?_, nodup := ?_ }
  · rcases List.mem_cons.1 hx with rfl | hx
    · refine ⟨by simp [hl], fun i u ys hu hy => ?_⟩
      by_cases e : q = i
      · subst e
        rw [List.getElem?_set_self hq] at hu; cases hu
        rw [List.getElem?_set_self (by omega)] at hy; cases hy
        exact hrow
      · rw [List.getElem?_set_ne e] at hu hy
        exact hh i u ys hu hy
    · exact h.g x (.tail _ (.tail _ hx))
  · rcases List.mem_cons.1 hx with rfl | hx
    · intro u hu b hb
      rcases List.mem_or_eq_of_mem_set hu with hu | rfl
      · exact hf u hu b hb
      · exact hfr b hb
    · exact h.apart x (.tail _ (.tail _ hx))
  · have hn := h.nodup
    obtain ⟨u, hu⟩ : ∃ u, vs[q]? = some u := ⟨_, List.getElem?_eq_getElem hq⟩
    obtain ⟨A, B, rfl, rfl⟩ := cutAt hu
    rw [set_cut]
    simp only [List.flatMap_cons, Ent.own, List.filterMap_append, List.filterMap_cons] at hn ⊢
    have key : (v.ownBlock.toList ++ ((List.filterMap Value.ownBlock A ++ List.filterMap Value.ownBlock B) ++ List.flatMap Ent.own G)).Nodup := by
      cases hub : u.ownBlock with
      | none => rw [hub] at hn; simpa using hn
      | some b =>
        rw [hub] at hn
        refine hn.sublist ((List.Sublist.refl _).append (List.Sublist.append ?_ (List.Sublist.refl _)))
        exact (List.Sublist.refl _).append (List.sublist_cons_self _ _)
    cases hvb : v.ownBlock with
    | none => rw [hvb] at key; simpa using key
    | some b =>
      rw [hvb] at key
      refine (List.Perm.nodup_iff ?_).1 key
      simp only [Option.toList, List.append_assoc, List.cons_append, List.nil_append]
      exact List.perm_middle.symm
theorem sat_nestNew {m : Nat} (h : Sat E w K G) (t : TypeId) (size : Nat) : Sat E w K (.rws t size (List.replicate m (.slice none 0 0)) ((List.replicate m ([] : List (List Value))).map List.flatten) :: G) := by
  refine h.ghost ⟨by simp, fun i v xs hv hx => ?_⟩ ?_ (fun v hv b hb => ?_)
  · have h1 := (List.mem_replicate.1 (List.mem_of_getElem? hv)).2
    rw [List.map_replicate] at hx
    have h2 := (List.mem_replicate.1 (List.mem_of_getElem? hx)).2
    subst h1 h2; exact ⟨0, World.ownsRow_nil w 0 t size⟩
  · simp only [Ent.own]
    rw [List.filterMap_eq_nil_iff]
    intro v hv
    rw [(List.mem_replicate.1 hv).2]; rfl
  · rw [(List.mem_replicate.1 hv).2] at hb; cases hb
theorem Shift.nestNew {m : Nat} (hv : vs = List.replicate m (.slice none 0 0)) (hr : rss = List.replicate m []) (t : TypeId) (size : Nat) (h : Shift K (.rws t size vs (rss.map List.flatten) :: G) R) : Shift K G R := by
  subst hv hr; exact Shift.ghost (fun _ _ hs => sat_nestNew hs t size) h
theorem Shift.nestTake (hr : Rem G (.rws t size vs (rss.map List.flatten)) G2) (hv : vs[q]? = some v) (hx : rss[q]? = some rs)
    (h : Shift K (.row v t size rs.flatten :: .rws t size (vs.set q (.slice none 0 0)) ((rss.set q []).map List.flatten) :: G2) R) : Shift K G R :=
  Shift.ghost (fun _ _ hs => by
    have h1 := sat_nestTake (q := q) (xs := rs.flatten) hv (by rw [List.getElem?_map, hx]; rfl) (hs.perm hr.perm)
    have e : (rss.set q []).map List.flatten = (rss.map List.flatten).set q [] := by rw [List.map_set]; rfl
    rw [e]; exact h1) h
/-- A row is put to a place; what lay there is let go. -/
theorem Shift.nestPut (hr : Rem G (.row v t size rs.flatten) G2) (hr2 : Rem G2 (.rws t size vs (rss.map List.flatten)) G') (hq : q < vs.length)
    (h : Shift K (.rws t size (vs.set q v) ((rss.set q rs).map List.flatten) :: G') R) : Shift K G R :=
  Shift.ghost (fun _ _ hs => by
    have h1 := sat_nestPut (q := q) hq ((hs.perm hr.perm).perm (hr2.perm.cons _))
    have e : (rss.set q rs).map List.flatten = (rss.map List.flatten).set q rs.flatten := by rw [List.map_set]
    rw [e]; exact h1) h
/-- A row is put back to where it was taken. -/
theorem Shift.nestBack (hr : Rem G (.row v t size rs.flatten) G2) (hr2 : Rem G2 (.rws t size (vs.set q (.slice none 0 0)) ((rss.set q []).map List.flatten)) G') (hv : vs[q]? = some v)
    (h : Shift K (.rws t size vs ((rss.set q rs).map List.flatten) :: G') R) : Shift K G R := by
  refine Shift.nestPut (q := q) hr hr2 (by simp; exact (List.getElem?_eq_some_iff.1 hv).1) ?_
  rw [List.set_set, List.set_set, list_set_same hv]; exact h
end
section
variable {P : Program} {n : Nat} {env : Env} {K : Kp} {G : List Ent} {d : Nat} {dd : Option Tmp} {ty : TypeId} {pos : String} {af : Array Edge} {g : Option (Nat × Bool)}
variable {α : Type} {T : Ty α} {v : Value} {vs : List Value} {rss : List (List (List Value))} {L : List (List α)}
theorem Q_lenN {t e e' : TypeId} {x : Operand} (hm : Ent.row v e' 1 (vs.map one).flatten ∈ G) (hr : NestR T K vs rss L) (hx : ev env x = some v) (ht : P.underlying t = some (.slice e)) :
    Qt P n ⟨dd, .call { callee := .builtin .len, args := #[x], argTypes := #[t] }, ty, pos, af, g⟩ env K G (.int .i64 (L.length : Int)) := by
  rw [← hr.len]
  exact Q_lenR (T := rawT) hm hr.heads rfl hx ht
end
section
variable {P : Program} {n : Nat} {env : Env} {K : Kp} {G : List Ent} {R : Cont} {Q : Post} {ops : Array Oper} {ls : List Oper} {c : Code} {p : Prop}
theorem Cw.know (hp : ∀ E w, Sat E w K G → p) (h : p → Cw P n c env K G Q) : Cw P n c env K G Q := fun E w a hs ha => h (hp E w hs) E w a hs ha
theorem Ow.know (hp : ∀ E w, Sat E w K G → p) (h : p → Ow P n ops ls env K G R) : Ow P n ops ls env K G R := fun E w a hs ha => h (hp E w hs) E w a hs ha
theorem row_nil {α : Type} {T : Ty α} {w : World} {s : SV} {t : TypeId} {rows : List (List Value)} {l : List α} (h : (Ent.row (sv s) t T.size rows.flatten).holds w) (hr : RowR T K rows l) (hz : Nat.blt 0 T.size = true) (hn : isNil (sv s) = true) : l = [] := by
  obtain ⟨g1, _, _, g4⟩ := row_sv h hr (lt_of_blt hz)
  cases l with
  | nil => rfl
  | cons x l =>
    obtain ⟨b, hb⟩ := g4 (by simp)
    simp [isNil, sv, hb] at hn
end
end Go.Hx
