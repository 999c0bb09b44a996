/-
  A small logic over the kit's walk: what is settled in memory (K), what the call owns (G), which slots are known (env).
-/
import Derived.WalkKit
import Derived.WalkSpells
import Derived.WalkLawsBesides
import Derived.OrdersHeld
import Derived.Maps.AppendAt
import Derived.Laws.Small
namespace Go.Hx
set_option linter.unusedVariables false
set_option linter.unusedSimpArgs false
open Go

/-! ### slots -/
abbrev Env := List (Nat × Value)
def lk : Env → Nat → Option Value
  | [], _ => none
  | (k, v) :: r, t => match Nat.beq k t with
    | true => some v
    | false => lk r t
theorem lk_hit {k t : Nat} {v : Value} {r : Env} (h : k = t) : lk ((k, v) :: r) t = some v := by
  subst h; simp [lk]
theorem lk_miss {k t : Nat} {v : Value} {r : Env} (h : k ≠ t) : lk ((k, v) :: r) t = lk r t := by
  have : Nat.beq k t = false := by cases hb : Nat.beq k t with
    | false => rfl
    | true => exact absurd (Nat.eq_of_beq_eq_true hb) h
  simp [lk, this]

structure EnvOk (n : Nat) (env : Env) (a : Act) : Prop where
  size : a.tmps.size = n
  defers : a.defers = []
  at_ : ∀ t v, lk env t = some v → a.tmps.getD t undef = v

def ev (env : Env) : Operand → Option Value
  | .tmp t => lk env t
  | .const v => some v
  | .global g => some (.pointer (some ⟨g, 0, none⟩))
  | .func f => some (.func (.func f) #[] #[])

theorem EnvOk.ev {n : Nat} {env : Env} {a : Act} (h : EnvOk n env a) {x : Operand} {v : Value} (hv : ev env x = some v) : a.eval x = v := by
  cases x with
  | tmp t => exact h.at_ t v hv
  | const u => simpa [Hx.ev, Act.eval] using hv
  | global g => simpa [Hx.ev, Act.eval] using hv
  | func f => simpa [Hx.ev, Act.eval] using hv

theorem EnvOk.put {n : Nat} {env : Env} {a : Act} (h : EnvOk n env a) {d : Nat} (hd : d < n) (v : Value) : EnvOk n ((d, v) :: env) (a.put (some d) v) := by
  refine ⟨by simp [Act.put, h.size], by simp [Act.put, h.defers], fun t u hu => ?_⟩
  by_cases e : d = t
  · subst e
    rw [lk_hit rfl] at hu
    cases hu
    have := h.size
    simp [Act.put, this, hd]
  · rw [lk_miss e] at hu
    have := h.at_ t u hu
    simp only [Act.put, Array.getD_eq_getD_getElem?] at this ⊢
    rw [Array.getElem?_setIfInBounds_ne e]
    exact this

def Sub : Env → Env → Prop
  | [], _ => True
  | (t, v) :: r, env => lk env t = some v ∧ Sub r env
theorem Sub.lk {e1 e2 : Env} (h : Sub e1 e2) {t : Nat} {v : Value} (hv : lk e1 t = some v) : Hx.lk e2 t = some v := by
  induction e1 with
  | nil => simp [Hx.lk] at hv
  | cons p r ih =>
    obtain ⟨k, u⟩ := p
    obtain ⟨h1, h2⟩ := h
    by_cases e : k = t
    · subst e; rw [lk_hit rfl] at hv; cases hv; exact h1
    · rw [lk_miss e] at hv; exact ih h2 hv
theorem EnvOk.sub {n : Nat} {e1 e2 : Env} {a : Act} (h : EnvOk n e2 a) (hs : Sub e1 e2) : EnvOk n e1 a :=
  ⟨h.size, h.defers, fun t v hv => h.at_ t v (hs.lk hv)⟩

/-! ### memory -/
/-- What is settled: cells that keep their values, blocks that keep everything. -/
structure Kp where
  c : Nat → Nat → Option Value
  o : Nat → Option Obj
def Kp.le (K K' : Kp) : Prop := (∀ b j v, K.c b j = some v → K'.c b j = some v) ∧ ∀ b o, K.o b = some o → K'.o b = some o
theorem Kp.le_refl (K : Kp) : K.le K := ⟨fun _ _ _ h => h, fun _ _ h => h⟩
theorem Kp.le.trans {K K' K'' : Kp} (h : K.le K') (h' : K'.le K'') : K.le K'' := ⟨fun b j v e => h'.1 b j v (h.1 b j v e), fun b o e => h'.2 b o (h.2 b o e)⟩

/-- An own entry: a block; a row that may be changed; an object; the room behind slices of elements of a size; many rows that may be changed. -/
inductive Ent where
  | blk (b : Nat) (t : TypeId) (cs : List Value)
  | row (v : Value) (t : TypeId) (size : Nat) (xs : List Value)
  | obj (b : Nat) (o : Obj)
  | tok (t : TypeId) (size : Nat) (vs : List Value)
  | rws (t : TypeId) (size : Nat) (vs : List Value) (xss : List (List Value))

def Ent.own : Ent → List Nat
  | .blk b _ _ => [b]
  | .row v _ _ _ => v.ownBlock.toList
  | .obj b _ => [b]
  | .tok _ _ vs => vs.filterMap Value.ownBlock
  | .rws _ _ vs _ => vs.filterMap Value.ownBlock

def Ent.holds (w : World) : Ent → Prop
  | .blk b t cs => w.heap[b]? = some (.cells cs.toArray t (0, 0))
  | .row v t size xs => ∃ n, w.ownsRow 0 t size v n xs
  | .obj b o => w.heap[b]? = some o
  | .tok t size vs => ∀ v ∈ vs, ∃ n xs, w.ownsRow 0 t size v n xs
  | .rws t size vs xss => vs.length = xss.length ∧ ∀ (i : Nat) (v : Value) (xs : List Value), vs[i]? = some v → xss[i]? = some xs → ∃ n, w.ownsRow 0 t size v n xs

/-- Nothing that is settled lies where the entry may write. -/
def Kp.off (K : Kp) (b from_ : Nat) : Prop := K.o b = none ∧ ∀ j, from_ ≤ j → K.c b j = none
def Ent.free (K : Kp) : Ent → Prop
  | .blk b _ _ => K.off b 0
  | .row v _ _ _ => ∀ b, v.ownBlock = some b → K.off b 0
  | .obj b _ => K.off b 0
  | .tok _ size vs => ∀ v ∈ vs, ∀ A n c, v = .slice (some A) n c → K.off A.block (n * size)
  | .rws _ _ vs _ => ∀ v ∈ vs, ∀ b, v.ownBlock = some b → K.off b 0

structure SatW (w : World) (K : Kp) (G : List Ent) : Prop where
  k : ∀ b j v, K.c b j = some v → ∃ cs t fr, w.heap[b]? = some (.cells cs t fr) ∧ cs[j]? = some v
  ko : ∀ b o, K.o b = some o → w.heap[b]? = some o
  g : ∀ e ∈ G, e.holds w

structure Sat (E w : World) (K : Kp) (G : List Ent) : Prop extends SatW w K G where
  os : w.os = E.os
  tape : w.tape = E.tape
  output : w.output = E.output
  apart : ∀ e ∈ G, e.free K
  nodup : (G.flatMap Ent.own).Nodup

theorem Sat.perm {E w : World} {K : Kp} {G G' : List Ent} (h : Sat E w K G) (hp : G.Perm G') : Sat E w K G' :=
  { k := h.k, ko := h.ko, g := fun x hx => h.g x (hp.mem_iff.2 hx), os := h.os, tape := h.tape, output := h.output, apart := fun x hx => h.apart x (hp.mem_iff.2 hx), nodup := (hp.flatMap_right Ent.own).nodup_iff.1 h.nodup }
theorem Sat.drop {E w : World} {K : Kp} {G : List Ent} {e : Ent} (h : Sat E w K (e :: G)) : Sat E w K G :=
  { k := h.k, ko := h.ko, os := h.os, tape := h.tape, output := h.output, g := fun x hx => h.g x (.tail _ hx), apart := fun x hx => h.apart x (.tail _ hx)
    nodup := by
      have hn := h.nodup
      rw [List.flatMap_cons] at hn
      exact (List.nodup_append.1 hn).2.1 }
theorem sub_flatMap {α β : Type} (f : α → List β) {l m : List α} (h : l.Sublist m) : (l.flatMap f).Sublist (m.flatMap f) := by
  induction h with
  | slnil => exact .refl _
  | cons a _ ih => rw [List.flatMap_cons]; exact ih.trans (List.sublist_append_right _ _)
  | cons_cons a _ ih => rw [List.flatMap_cons, List.flatMap_cons]; exact (List.Sublist.refl _).append ih
theorem Sat.less {E w : World} {K : Kp} {G G' : List Ent} (h : Sat E w K G) (hs : G'.Sublist G) : Sat E w K G' :=
  { k := h.k, ko := h.ko, g := fun e he => h.g e (hs.subset he), os := h.os, tape := h.tape, output := h.output, apart := fun e he => h.apart e (hs.subset he), nodup := h.nodup.sublist (sub_flatMap _ hs) }

theorem lt_of_some {w : World} {b : Nat} {o : Obj} (h : w.heap[b]? = some o) : b < w.heap.size := by
  rcases Nat.lt_or_ge b w.heap.size with h' | h'
  · exact h'
  · rw [Array.getElem?_eq_none h'] at h; cases h
theorem Ent.lt {w : World} {e : Ent} (h : e.holds w) {b : Nat} (hb : b ∈ e.own) : b < w.heap.size := by
  cases e with
  | blk c t cs => simp [Ent.own] at hb; subst hb; exact lt_of_some h
  | row v t s xs => obtain ⟨n, hn⟩ := h; simp [Ent.own] at hb; exact (hn.lt b hb).2
  | obj c o => simp [Ent.own] at hb; subst hb; exact lt_of_some h
  | tok t s vs =>
    simp only [Ent.own, List.mem_filterMap] at hb
    obtain ⟨v, hv, hb⟩ := hb
    obtain ⟨n, xs, hn⟩ := h v hv
    exact (hn.lt b hb).2
  | rws t s vs xss =>
    simp only [Ent.own, List.mem_filterMap] at hb
    obtain ⟨v, hv, hb⟩ := hb
    obtain ⟨hl, h⟩ := h
    obtain ⟨i, hi, he⟩ := List.mem_iff_getElem.1 hv
    obtain ⟨n, hn⟩ := h i v xss[i] (by rw [List.getElem?_eq_getElem hi, he]) (List.getElem?_eq_getElem (by omega))
    exact (hn.lt b hb).2

theorem ownsRow_of {w w' : World} {t : TypeId} {size n : Nat} {v : Value} {xs : List Value} (h : w.ownsRow 0 t size v n xs) (hb : ∀ b, v.ownBlock = some b → w'.heap[b]? = w.heap[b]?) : w'.ownsRow 0 t size v n xs := by
  obtain ⟨h1, h2⟩ := h
  refine ⟨h1, ?_⟩
  rcases h2 with h2 | ⟨g, cap, cur, rfl, hg, hh, h3⟩
  · exact .inl h2
  · exact .inr ⟨g, cap, cur, rfl, hg, (hb g rfl).trans hh, h3⟩
/-- An entry holds in a world that has the entry's blocks as they were. -/
theorem Ent.holds_of {w w' : World} {e : Ent} (h : e.holds w) (hb : ∀ b ∈ e.own, w'.heap[b]? = w.heap[b]?) : e.holds w' := by
  cases e with
  | blk c t cs => exact (hb c (by simp [Ent.own])).trans h
  | row v t size xs => obtain ⟨n, h⟩ := h; exact ⟨n, ownsRow_of h fun b e => hb b (by simp [Ent.own, e])⟩
  | obj c o => exact (hb c (by simp [Ent.own])).trans h
  | tok t size vs => exact fun v hv => let ⟨n, xs, h⟩ := h v hv; ⟨n, xs, ownsRow_of h fun b e => hb b (by simp only [Ent.own, List.mem_filterMap]; exact ⟨v, hv, e⟩)⟩
  | rws t size vs xss => exact ⟨h.1, fun i v xs hv hx => let ⟨n, h⟩ := h.2 i v xs hv hx; ⟨n, ownsRow_of h fun b e => hb b (by simp only [Ent.own, List.mem_filterMap]; exact ⟨v, List.mem_of_getElem? hv, e⟩)⟩⟩

/-! ### what a call, a piece of code, an operation does -/
def Fc (P : Program) (f : FuncId) (args : Array Value) (K : Kp) (G : List Ent) (Q : Value → Kp → List Ent → Prop) : Prop :=
  ∀ E w, Sat E w K G → Calls P f args w fun e w' => ∃ v K' G', e = .returned v ∧ K.le K' ∧ Sat E w' K' G' ∧ Q v K' G'

theorem Fc.mono {P : Program} {f : FuncId} {args : Array Value} {K : Kp} {G : List Ent} {Q Q' : Value → Kp → List Ent → Prop} (h : Fc P f args K G Q)
    (hq : ∀ v K' G', K.le K' → Q v K' G' → Q' v K' G') : Fc P f args K G Q' := fun E w hs =>
  (h E w hs).mono fun _ _ ⟨v, K', G', h1, h2, h3, h4⟩ => ⟨v, K', G', h1, h2, h3, hq _ _ _ h2 h4⟩

abbrev Post := Exit → Env → Kp → List Ent → Prop
abbrev Cont := Env → Kp → List Ent → Prop

def QL (E : World) (n : Nat) (K0 : Kp) (Q : Post) : Exit → Act → World → Prop := fun ex a' w' =>
  ∃ env' K' G', K0.le K' ∧ Sat E w' K' G' ∧ EnvOk n env' a' ∧ Q ex env' K' G'

def Cw (P : Program) (n : Nat) (c : Code) (env : Env) (K : Kp) (G : List Ent) (Q : Post) : Prop :=
  ∀ E w a, Sat E w K G → EnvOk n env a → c.wp P (QL E n K Q) a w

def thenQ (R : Cont) (Q : Post) : Post := fun ex env K G => match ex with
  | .normal => R env K G
  | e => Q e env K G

def OpW (P : Program) (n : Nat) (o : Oper) (env : Env) (K : Kp) (G : List Ent) (R : Cont) : Prop :=
  ∀ E w a, Sat E w K G → EnvOk n env a → ∀ (next : Act → World → Prop) (Q : Exit → Act → World → Prop),
    (∀ a' w' env' K' G', K.le K' → Sat E w' K' G' → EnvOk n env' a' → R env' K' G' → next a' w') → o.wp P a w next Q

def Ow (P : Program) (n : Nat) (ops : Array Oper) (l : List Oper) (env : Env) (K : Kp) (G : List Ent) (R : Cont) : Prop :=
  ∀ E w a, Sat E w K G → EnvOk n env a → ∀ (Q : Exit → Act → World → Prop),
    (∀ a' w' env' K' G', K.le K' → Sat E w' K' G' → EnvOk n env' a' → R env' K' G' → Q .normal a' w') → wpList P ops Q l a w

def Qt (P : Program) (n : Nat) (o : Oper) (env : Env) (K : Kp) (G : List Ent) (v : Value) : Prop :=
  ∀ w a, SatW w K G → EnvOk n env a → (execOp a.eval o).run P w = .ok (.value v) w

section rules
variable {P : Program} {n : Nat} {env : Env} {K : Kp} {G : List Ent} {Q : Post} {R : Cont}

theorem Cw.sub {c : Code} {env' : Env} (h : Cw P n c env' K G Q) (hs : Sub env' env) : Cw P n c env K G Q :=
  fun E w a hsat ha => h E w a hsat (ha.sub hs)

theorem Cw.mono {c : Code} {Q' : Post} (h : Cw P n c env K G Q) (hq : ∀ ex env' K' G', K.le K' → Q ex env' K' G' → Q' ex env' K' G') : Cw P n c env K G Q' :=
  fun E w a hs ha => Code.wp_mono (fun _ _ _ ⟨env', K', G', h1, h2, h3, h4⟩ => ⟨env', K', G', h1, h2, h3, hq _ _ _ _ h1 h4⟩) (h E w a hs ha)

theorem QL.le {E : World} {K K' : Kp} (h : K.le K') {ex : Exit} {a : Act} {w : World} (hq : QL E n K' Q ex a w) : QL E n K Q ex a w :=
  let ⟨env', K'', G', h1, h2⟩ := hq
  ⟨env', K'', G', h.trans h1, h2⟩

theorem Cw_seq {x y : Code} (h : Cw P n x env K G (thenQ (fun env K G => Cw P n y env K G Q) Q)) : Cw P n (.seq x y) env K G Q :=
  fun E w a hs ha => wp_seq (Code.wp_mono (fun ex a' w' hq => by
    obtain ⟨env', K', G', h1, h2, h3, h4⟩ := hq
    cases ex with
    | normal => exact Code.wp_mono (fun _ _ _ hq => QL.le h1 hq) (h4 E w' a' h2 h3)
    | _ => exact ⟨env', K', G', h1, h2, h3, h4⟩) (h E w a hs ha))

/-- The same with a named state in between: both ways of an 'if' meet there. -/
theorem Cw_cut {x y : Code} (M : Cont) (h : Cw P n x env K G (thenQ (fun env' K' G' => ∃ env'' G'', Sub env'' env' ∧ G''.Sublist G' ∧ M env'' K' G'') Q)) (hy : ∀ env' K' G', K.le K' → M env' K' G' → Cw P n y env' K' G' Q) : Cw P n (.seq x y) env K G Q :=
  Cw_seq (h.mono fun ex env' K' G' hle hq => by
    cases ex with
    | normal => obtain ⟨env'', G'', hs, hg, hm⟩ := hq; exact fun E w a hsat ha => ((hy _ _ _ hle hm).sub hs) E w a (hsat.less hg) ha
    | _ => exact hq)

theorem Cw_ret (h : Q .ret env K G) : Cw P n .ret env K G Q := fun _ _ _ hs ha => wp_ret ⟨env, K, G, Kp.le_refl K, hs, ha, h⟩
theorem Cw_skip (h : Q .normal env K G) : Cw P n .skip env K G Q := fun _ _ _ hs ha => wp_skip ⟨env, K, G, Kp.le_refl K, hs, ha, h⟩
theorem Cw_exit {id : Nat} (h : Q (.exit id) env K G) : Cw P n (.exit id) env K G Q := fun _ _ _ hs ha => wp_exit ⟨env, K, G, Kp.le_refl K, hs, ha, h⟩
theorem Cw_label {l : Nat} (h : Q .normal env K G) : Cw P n (.label l) env K G Q := fun _ _ _ hs ha => wp_label ⟨env, K, G, Kp.le_refl K, hs, ha, h⟩

theorem Cw_cond {c : Operand} {x y : Code} {t : Bool} (hc : ev env c = some (.bool t)) (h1 : t = true → Cw P n x env K G Q) (h2 : t = false → Cw P n y env K G Q) :
    Cw P n (.cond c x y) env K G Q := fun E w a hs ha =>
  wp_cond_split (ha.ev hc) (fun ht => h1 ht E w a hs ha) (fun ht => h2 ht E w a hs ha)
theorem Cw_cond_t {c : Operand} {x y : Code} (hc : ev env c = some (.bool true)) (h1 : Cw P n x env K G Q) :
    Cw P n (.cond c x y) env K G Q := Cw_cond hc (fun _ => h1) (fun h => by cases h)
theorem Cw_cond_f {c : Operand} {x y : Code} (hc : ev env c = some (.bool false)) (h1 : Cw P n y env K G Q) :
    Cw P n (.cond c x y) env K G Q := Cw_cond hc (fun h => by cases h) (fun _ => h1)

def inBlk (id : Nat) (Q : Post) : Post := fun ex env K G => match ex with
  | .exit id' => if id' = id then Q .normal env K G else Q (.exit id') env K G
  | e => Q e env K G
theorem Cw_block {id : Nat} {c : Code} (h : Cw P n c env K G (inBlk id Q)) : Cw P n (.block id c) env K G Q := fun E w a hs ha =>
  wp_block (Code.wp_mono (fun ex a' w' hq => by
    obtain ⟨env', K', G', h1, h2, h3, h4⟩ := hq
    cases ex with
    | exit id' =>
      simp only [Exit.inBlock]
      simp only [inBlk] at h4
      split
      · rename_i e; rw [if_pos e] at h4; exact ⟨env', K', G', h1, h2, h3, h4⟩
      · rename_i e; rw [if_neg e] at h4; exact ⟨env', K', G', h1, h2, h3, h4⟩
    | _ => exact ⟨env', K', G', h1, h2, h3, h4⟩) (h E w a hs ha))

/-- A loop: 'S' is what changes from round to round. -/
theorem Cw_loop {c : Code} {S : Type} (I : S → Env → Kp → List Ent → Prop) (μ : S → Nat) (s0 : S) (env0 : Env) (G0 : List Ent) (h0 : I s0 env0 K G0) (hsub : Sub env0 env) (hgsub : G0.Sublist G)
    (round : ∀ s env' K' G', K.le K' → I s env' K' G' → Cw P n c env' K' G' (thenQ (fun env' K' G' => ∃ s' env'' G'', Sub env'' env' ∧ G''.Sublist G' ∧ μ s' < μ s ∧ I s' env'' K' G'') Q)) :
    Cw P n (.loop c) env K G Q := fun E w a hs ha => by
  intro b k cs
  have key : ∀ m s env' K' G' a w, μ s = m → K.le K' → Sat E w K' G' → EnvOk n env' a → I s env' K' G' →
      ∃ e a' w', QL E n K Q e a' w' ∧ Arrives P (lone (b.at a (.code c :: .inLoop c :: k)) cs w) b k cs e a' w' := by
    intro m
    induction m using Nat.strongRecOn with
    | _ m ih =>
      intro s env' K' G' a w h5 h1 h2 h3 h4
      obtain ⟨e, a₁, w₁, hq, harr⟩ := round s env' K' G' h1 h4 E w a h2 h3 b (.inLoop c :: k) cs
      obtain ⟨env1, K1, G1, g1, g2, g3, g4⟩ := hq
      cases e with
      | normal =>
        obtain ⟨s', env'', G'', hsb, hgs, hlt, hI⟩ := g4
        obtain ⟨e₂, a₂, w₂, hq₂, harr₂⟩ := ih (μ s') (h5 ▸ hlt) s' env'' K1 G'' a₁ w₁ rfl (h1.trans g1) (g2.less hgs) (g3.sub hsb) hI
        exact ⟨e₂, a₂, w₂, hq₂, .of_steps (Steps.trans harr (.one step_inLoop)) harr₂⟩
      | exit id => exact ⟨_, a₁, w₁, ⟨env1, K1, G1, h1.trans g1, g2, g3, g4⟩, .pass (x := .inLoop c) rfl (fun _ _ => .inl (by simp)) harr⟩
      | goto l => exact ⟨_, a₁, w₁, ⟨env1, K1, G1, h1.trans g1, g2, g3, g4⟩, .pass (x := .inLoop c) rfl (fun _ _ => .inl (by simp)) harr⟩
      | ret => exact ⟨_, a₁, w₁, ⟨env1, K1, G1, h1.trans g1, g2, g3, g4⟩, .pass (x := .inLoop c) rfl (fun _ _ => .inl (by simp)) harr⟩
      | panic ch => exact ⟨_, a₁, w₁, ⟨env1, K1, G1, h1.trans g1, g2, g3, g4⟩, .pass (x := .inLoop c) rfl (fun _ _ => .inl (by simp)) harr⟩
      | outgrown => exact ⟨_, a₁, w₁, ⟨env1, K1, G1, h1.trans g1, g2, g3, g4⟩, .pass (x := .inLoop c) rfl (fun _ _ => .inl (by simp)) harr⟩
  obtain ⟨e, a', w', hq, harr⟩ := key _ s0 env0 K G0 a w rfl (Kp.le_refl K) (hs.less hgsub) (ha.sub hsub) h0
  exact ⟨e, a', w', hq, .of_steps (.one step_loop) harr⟩

/-! ### a region in the order of its text -/
theorem Cw_region {id : Nat} {l : List Oper} (h : Ow P n l.toArray l env K G (fun env K G => Q .normal env K G)) : Cw P n (.region id l.toArray false) env K G Q :=
  fun E w a hs ha => wp_region_lit (h E w a hs ha _ fun a' w' env' K' G' h1 h2 h3 h4 => ⟨env', K', G', h1, h2, h3, h4⟩)

variable {ops : Array Oper} {rest : List Oper} {o : Oper}
theorem Ow_nil (h : R env K G) : Ow P n ops [] env K G R := fun _ w a hs ha _ hq => wpList_nil (hq a w env K G (Kp.le_refl K) hs ha h)

theorem OpW.mono {R' : Cont} (h : OpW P n o env K G R) (hr : ∀ env' K' G', K.le K' → R env' K' G' → R' env' K' G') : OpW P n o env K G R' :=
  fun E w a hs ha next Q hk => h E w a hs ha next Q fun a' w' env' K' G' h1 h2 h3 h4 => hk a' w' env' K' G' h1 h2 h3 (hr _ _ _ h1 h4)

theorem Ow_cons (hg : o.guard = none) (h : OpW P n o env K G (fun env' K' G' => Ow P n ops rest env' K' G' R)) : Ow P n ops (o :: rest) env K G R :=
  fun E w a hs ha Q hq => wpList_plain hg fun Kc hK => h E w a hs ha Kc Q fun a' w' env' K' G' h1 h2 h3 h4 =>
    hK a' w' (h4 E w' a' h2 h3 Q fun a'' w'' env'' K'' G'' g1 g2 g3 g4 => hq a'' w'' env'' K'' G'' (h1.trans g1) g2 g3 g4)

theorem wanted_of {j d : Nat} {b c : Bool} {a : Act} (hg : o.guard = some (j, b)) (hd : (ops[j]?).bind (·.dst) = some d) (ha : EnvOk n env a) (hv : lk env d = some (.bool c))
    (hlt : d < n) : Region.wanted o (yielded ops a.tmps) = (c == b) := by
  have h1 := ha.at_ d _ hv
  have h2 : a.tmps[d]? = some (.bool c) := by
    have hsz : d < a.tmps.size := by rw [ha.size]; exact hlt
    rw [Array.getElem?_eq_getElem hsz]
    rw [Array.getD_eq_getD_getElem?, Array.getElem?_eq_getElem hsz] at h1
    simpa using h1
  simp only [Region.wanted, hg, yielded, hd]
  cases c <;> cases b <;> simp_all

theorem Ow_want {j d : Nat} {b : Bool} (hg : o.guard = some (j, b)) (hd : (ops[j]?).bind (·.dst) = some d) (hv : lk env d = some (.bool b)) (hlt : Nat.blt d n = true)
    (h : OpW P n o env K G (fun env' K' G' => Ow P n ops rest env' K' G' R)) : Ow P n ops (o :: rest) env K G R :=
  fun E w a hs ha Q hq => wpList_step fun Kc hK => by
    rw [wanted_of hg hd ha hv (by simpa [Nat.blt_eq] using hlt)]
    simp only [beq_self_eq_true, if_true]
    exact h E w a hs ha Kc Q fun a' w' env' K' G' h1 h2 h3 h4 =>
      hK a' w' (h4 E w' a' h2 h3 Q fun a'' w'' env'' K'' G'' g1 g2 g3 g4 => hq a'' w'' env'' K'' G'' (h1.trans g1) g2 g3 g4)

theorem Ow_pass {j d t : Nat} {b c : Bool} (hg : o.guard = some (j, b)) (ht : o.dst = some t) (hd : (ops[j]?).bind (·.dst) = some d) (hv : lk env d = some (.bool c)) (hc : (c == b) = false) (hlt : Nat.blt d n = true)
    (hlt' : Nat.blt t n = true) (h : Ow P n ops rest ((t, undef) :: env) K G R) : Ow P n ops (o :: rest) env K G R :=
  fun E w a hs ha Q hq => wpList_step fun Kc hK => by
    rw [wanted_of hg hd ha hv (by simpa [Nat.blt_eq] using hlt), hc, ht]
    simp only [Bool.false_eq_true, if_false]
    exact hK _ _ (h E w _ hs (ha.put (by simpa [Nat.blt_eq] using hlt') undef) Q hq)

theorem wanted_undef {j d : Nat} {b : Bool} {a : Act} (hg : o.guard = some (j, b)) (hd : (ops[j]?).bind (·.dst) = some d) (ha : EnvOk n env a) (hv : lk env d = some undef) : Region.wanted o (yielded ops a.tmps) = false := by
  have h1 := ha.at_ d _ hv
  rw [Array.getD_eq_getD_getElem?] at h1
  simp only [Region.wanted, hg, yielded, hd, Option.bind_some]
  split
  · rename_i b' hb
    rw [hb] at h1
    exact absurd h1 (by simp [undef])
  · rfl
theorem Ow_passU {j d t : Nat} {b : Bool} (hg : o.guard = some (j, b)) (ht : o.dst = some t) (hd : (ops[j]?).bind (·.dst) = some d) (hv : lk env d = some undef)
    (hlt' : Nat.blt t n = true) (h : Ow P n ops rest ((t, undef) :: env) K G R) : Ow P n ops (o :: rest) env K G R :=
  fun E w a hs ha Q hq => wpList_step fun Kc hK => by
    rw [wanted_undef hg hd ha hv, ht]
    simp only [Bool.false_eq_true, if_false]
    exact hK _ _ (h E w _ hs (ha.put (by simpa [Nat.blt_eq] using hlt') undef) Q hq)

theorem OpW_of_Qt {d : Nat} {v : Value} (hd : o.dst = some d) (hlt : Nat.blt d n = true) (hq : Qt P n o env K G v) (h : R ((d, v) :: env) K G) : OpW P n o env K G R :=
  fun E w a hs ha next Q hk => by
    unfold Oper.wp
    rw [hq w a hs.toSatW ha, Oper.upon_value, hd]
    exact hk _ _ _ _ _ (Kp.le_refl K) hs (ha.put (by simpa [Nat.blt_eq] using hlt) v) h

/-- The common case: an operation that only computes or reads. -/
theorem Ow_q {d : Nat} {v : Value} (hg : o.guard = none) (hd : o.dst = some d) (hlt : Nat.blt d n = true) (hq : Qt P n o env K G v)
    (h : Ow P n ops rest ((d, v) :: env) K G R) : Ow P n ops (o :: rest) env K G R :=
  Ow_cons hg (OpW_of_Qt hd hlt hq h)
theorem Ow_qw {j e d : Nat} {b : Bool} {v : Value} (hg : o.guard = some (j, b)) (he : (ops[j]?).bind (·.dst) = some e) (hv : lk env e = some (.bool b)) (hlt' : Nat.blt e n = true)
    (hd : o.dst = some d) (hlt : Nat.blt d n = true) (hq : Qt P n o env K G v)
    (h : Ow P n ops rest ((d, v) :: env) K G R) : Ow P n ops (o :: rest) env K G R :=
  Ow_want hg he hv hlt' (OpW_of_Qt hd hlt hq h)

end rules
end Go.Hx

namespace Go.Hx
open Go

/-! ### types -/
def aggB (P : Program) (t : TypeId) : Bool := match P.underlying t with
  | some (.struct _) | some (.array _ _) => true
  | _ => false
theorem run_isAgg' {P : Program} {t : TypeId} {b : Bool} (h : aggB P t = b) (hu : (P.underlying t).isSome = true) (w : World) : (isAgg t).run P w = .ok b w := by
  subst h
  unfold aggB isAgg
  cases hd : P.underlying t with
  | none => simp [hd] at hu
  | some d => cases d <;> simp [underlying, hd]
theorem run_sizeOf' {P : Program} {t : TypeId} {n : Nat} {i : TypeInfo} (hi : P.info? t = some i) (h : i.size = n) (w : World) : (sizeOf t).run P w = .ok n w := by
  simp [sizeOf, typeInfo, hi, h]
theorem info_of_cells {P : Program} {t : TypeId} {n : Nat} (h : P.cellsOf t = n) (hn : n ≠ 0) : ∃ i, P.info? t = some i ∧ i.size = n := by
  unfold Program.cellsOf at h
  cases hi : P.info? t with
  | none => simp [hi] at h; exact absurd h.symm hn
  | some i => exact ⟨i, rfl, by simpa [hi] using h⟩
theorem run_size {P : Program} {t : TypeId} {n : Nat} (h : P.cellsOf t = n) (hn : n ≠ 0) (w : World) : (sizeOf t).run P w = .ok n w := by
  obtain ⟨i, h1, h2⟩ := info_of_cells h hn
  exact run_sizeOf' h1 h2 w
theorem run_und {P : Program} {t : TypeId} {d : TypeDesc} (h : P.underlying t = some d) (w : World) : (underlying t).run P w = .ok d w := by
  simp [underlying, h]

/-! ### what can be read -/
def Rdc (K : Kp) (G : List Ent) (A : Addr) (cs : List Value) : Prop := ∀ w, SatW w K G → ∀ j v, cs[j]? = some v → w.cell? (A.add j) = some v

theorem add_add (a : Addr) (i j : Nat) : (a.add i).add j = a.add (i + j) := by
  unfold Addr.add
  by_cases hi : i = 0 <;> by_cases hj : j = 0 <;> simp [hi, hj, Nat.add_assoc]
theorem add_lit (b o j : Nat) : (⟨b, o, none⟩ : Addr).add j = ⟨b, o + j, none⟩ := Addr.add_lit b o j

theorem Rdc.blk {K : Kp} {G : List Ent} {b k : Nat} {t : TypeId} {all cs : List Value} (h : Ent.blk b t all ∈ G) (hd : (all.drop k).take cs.length = cs) : Rdc K G ((⟨b, 0, none⟩ : Addr).add k) cs := by
  intro w hs j v hv
  have hb : w.heap[b]? = some (.cells all.toArray t (0, 0)) := hs.g _ h
  rw [add_add, add_lit, cell_of_row w b _ _ t (0, 0) hb]
  have hj : j < cs.length := (List.getElem?_eq_some_iff.1 hv).1
  rw [← hd] at hv
  rw [List.getElem?_take, if_pos hj, List.getElem?_drop] at hv
  simpa using hv

/-- Settled cells. -/
def KAt (K : Kp) (A : Addr) (cs : List Value) : Prop := ∀ j v, cs[j]? = some v → (A.add j).spot = none ∧ K.c (A.add j).block (A.add j).off = some v
theorem KAt.mono {K K' : Kp} {A : Addr} {cs : List Value} (h : KAt K A cs) (hk : K.le K') : KAt K' A cs := fun j v hv =>
  let ⟨h1, h2⟩ := h j v hv
  ⟨h1, hk.1 _ _ _ h2⟩
theorem KAt.cell {K : Kp} {G : List Ent} {A : Addr} {cs : List Value} (h : KAt K A cs) {w : World} (hs : SatW w K G) {j : Nat} {v : Value} (hv : cs[j]? = some v) : w.cell? (A.add j) = some v := by
  obtain ⟨h1, h2⟩ := h j v hv
  obtain ⟨c, t, fr, h3, h4⟩ := hs.k _ _ _ h2
  simp [World.cell?, h3, h1, h4]
theorem Rdc.k {K : Kp} {G : List Ent} {A : Addr} {k : Nat} {all cs : List Value} (h : KAt K A all) (hd : (all.drop k).take cs.length = cs) : Rdc K G (A.add k) cs := by
  intro w hs j v hv
  rw [add_add]
  refine h.cell hs ?_
  have hj : j < cs.length := (List.getElem?_eq_some_iff.1 hv).1
  rw [← hd] at hv
  rw [List.getElem?_take, if_pos hj, List.getElem?_drop] at hv
  exact hv

/-- The same with the number of cells. -/
def Rdm (K : Kp) (G : List Ent) (A : Addr) (m : Nat) (cs : List Value) : Prop := cs.length = m ∧ Rdc K G A cs
theorem take_drop_self {all : List Value} {k m : Nat} (hl : Nat.ble (k + m) all.length = true) : ((all.drop k).take m).length = m ∧ (all.drop k).take ((all.drop k).take m).length = (all.drop k).take m := by
  have hl' : k + m ≤ all.length := by simpa [Nat.ble_eq] using hl
  have h1 : ((all.drop k).take m).length = m := by rw [List.length_take, List.length_drop]; omega
  exact ⟨h1, by rw [h1]⟩
theorem Rdm.blk {K : Kp} {G : List Ent} {b k m : Nat} {t : TypeId} {all : List Value} (h : Ent.blk b t all ∈ G) (hl : Nat.ble (k + m) all.length = true) : Rdm K G ((⟨b, 0, none⟩ : Addr).add k) m ((all.drop k).take m) :=
  ⟨(take_drop_self hl).1, Rdc.blk h (take_drop_self hl).2⟩
theorem Rdm.k {K : Kp} {G : List Ent} {A : Addr} {k m : Nat} {all : List Value} (h : KAt K A all) (hl : Nat.ble (k + m) all.length = true) : Rdm K G (A.add k) m ((all.drop k).take m) :=
  ⟨(take_drop_self hl).1, Rdc.k h (take_drop_self hl).2⟩
theorem Rdm.all {K : Kp} {G : List Ent} {A : Addr} {m : Nat} {all : List Value} (h : KAt K A all) (hl : Nat.beq all.length m = true) : Rdm K G (A.add 0) m all :=
  ⟨Nat.eq_of_beq_eq_true hl, Rdc.k (k := 0) h (by simp)⟩
theorem Rdm.blkAll {K : Kp} {G : List Ent} {b m : Nat} {t : TypeId} {all : List Value} (h : Ent.blk b t all ∈ G) (hl : Nat.beq all.length m = true) : Rdm K G ((⟨b, 0, none⟩ : Addr).add 0) m all :=
  ⟨Nat.eq_of_beq_eq_true hl, Rdc.blk (k := 0) h (by simp)⟩

section ops
variable {P : Program} {n : Nat} {env : Env} {K : Kp} {G : List Ent} {R : Cont}
variable {d : Option Tmp} {ty : TypeId} {pos : String} {af : Array Edge} {g : Option (Nat × Bool)}

theorem Qt_move {x : Operand} {v : Value} (hx : ev env x = some v) : Qt P n ⟨d, .move x, ty, pos, af, g⟩ env K G v := fun w a _ ha => by
  simp [execOp, ha.ev hx]
theorem Qt_assign {x : Operand} {v : Value} (hx : ev env x = some v) : Qt P n ⟨d, .assign x, ty, pos, af, g⟩ env K G v := fun w a _ ha => by
  simp [execOp, ha.ev hx]
theorem Qt_pick_t {c x y : Operand} {v : Value} (hc : ev env c = some (.bool true)) (hx : ev env x = some v) : Qt P n ⟨d, .pick c x y, ty, pos, af, g⟩ env K G v := fun w a _ ha => by
  simp [execOp, ha.ev hc, ha.ev hx, asBool]
theorem Qt_pick_f {c x y : Operand} {v : Value} (hc : ev env c = some (.bool false)) (hy : ev env y = some v) : Qt P n ⟨d, .pick c x y, ty, pos, af, g⟩ env K G v := fun w a _ ha => by
  simp [execOp, ha.ev hc, ha.ev hy, asBool]
theorem Qt_not {x : Operand} {t : TypeId} {b : Bool} (hx : ev env x = some (.bool b)) : Qt P n ⟨d, .unOp .not t x, ty, pos, af, g⟩ env K G (.bool !b) := fun w a _ ha => by
  simp [execOp, ha.ev hx, Op.unary]
theorem Qt_neg {x : Operand} {t : TypeId} {k : IntKind} {m c : Int} (hx : ev env x = some (.int k m)) (hw : k.wrap (0 - m) = c) : Qt P n ⟨d, .unOp .neg t x, ty, pos, af, g⟩ env K G (.int k c) := fun w a _ ha => by
  simp only [execOp, ha.ev hx, unary_neg, Op.intArith, hw]; rfl
theorem Qt_nilCheck {x : Operand} {A : Addr} (hx : ev env x = some (.pointer (some A))) : Qt P n ⟨d, .nilCheck x, ty, pos, af, g⟩ env K G (.pointer (some A)) := fun w a _ ha => by
  simp [execOp, ha.ev hx]
theorem Qt_fieldAddr {s : TypeId} {x : Operand} {f k m : Nat} {A : Addr} {fs : Array Field} {fd : Field} (hx : ev env x = some (.pointer (some (A.add k)))) (hs : P.underlying s = some (.struct fs)) (hf : fs[f]? = some fd)
    (hz : Nat.beq (P.cellsOf fd.type) 0 = false) (hm : k + fd.offset = m) : Qt P n ⟨d, .fieldAddr s x f, ty, pos, af, g⟩ env K G (.pointer (some (A.add m))) := fun w a _ ha => by
  have hz' : P.cellsOf fd.type ≠ 0 := fun e => by rw [e] at hz; cases hz
  simp only [execOp, ha.ev hx]
  simp [Instr.fieldAt, run_und hs, hf, Instr.sureAddr, fieldPlace, run_size rfl hz', hz', add_add, hm]

theorem Qt_load1 {t : TypeId} {x : Operand} {A : Addr} {v : Value} (hx : ev env x = some (.pointer (some A))) (ht : aggB P t = false) (hu : (P.underlying t).isSome = true) (hr : Rdc K G A [v]) :
    Qt P n ⟨d, .load t x, ty, pos, af, g⟩ env K G v := fun w a hs ha => by
  have h0 := hr w hs 0 v rfl
  have h0' : w.cell? A = some v := by simpa [Addr.add] using h0
  simp [execOp, ha.ev hx, Instr.loadAt, Instr.sureAddr, loadVar, run_isAgg' ht hu, h0']
theorem Qt_loadA {t : TypeId} {x : Operand} {A : Addr} {m : Nat} {cs : List Value} (hx : ev env x = some (.pointer (some A))) (ht : aggB P t = true) (hl : P.cellsOf t = m) (hn : Nat.beq m 0 = false) (hr : Rdm K G A m cs) :
    Qt P n ⟨d, .load t x, ty, pos, af, g⟩ env K G (.agg cs.toArray) := fun w a hs ha => by
  obtain ⟨hm, hr⟩ := hr
  subst hm
  have hn' : cs.length ≠ 0 := fun e => by rw [e] at hn; cases hn
  have hu : (P.underlying t).isSome = true := by
    unfold aggB at ht
    cases h : P.underlying t with
    | none => simp [h] at ht
    | some _ => rfl
  have h1 := run_loadCells_list (P := P) w A cs (fun j v hv => hr w hs j v hv)
  simp [execOp, ha.ev hx, Instr.loadAt, Instr.sureAddr, loadVar, run_isAgg' ht hu, run_size hl hn', h1]

/-- A test's outcome, not to be unfolded by the way. -/
@[irreducible] def dcd (p : Prop) [Decidable p] : Bool := decide p
theorem dcd_eq (p : Prop) [Decidable p] : dcd p = decide p := by unfold dcd; rfl
theorem dcd_t {p : Prop} [Decidable p] (h : dcd p = true) : p := by rw [dcd_eq] at h; exact of_decide_eq_true h
theorem dcd_f {p : Prop} [Decidable p] (h : dcd p = false) : ¬ p := by rw [dcd_eq] at h; exact of_decide_eq_false h
theorem dcd_pos {p : Prop} [Decidable p] (h : p) : dcd p = true := by rw [dcd_eq]; exact decide_eq_true h
theorem dcd_neg {p : Prop} [Decidable p] (h : ¬ p) : dcd p = false := by rw [dcd_eq]; exact decide_eq_false h
def cmpB : BinOp → Int → Int → Option Bool
  | .eql, a, b => some (dcd (a = b))
  | .neq, a, b => some (!dcd (a = b))
  | .lss, a, b => some (dcd (a < b))
  | .leq, a, b => some (dcd (a ≤ b))
  | .gtr, a, b => some (dcd (a > b))
  | .geq, a, b => some (dcd (a ≥ b))
  | _, _, _ => none
theorem Qt_cmp {op : BinOp} {t t' : TypeId} {x y : Operand} {k : IntKind} {a b : Int} {c : Bool} (hx : ev env x = some (.int k a)) (hy : ev env y = some (.int k b)) (hc : cmpB op a b = some c) :
    Qt P n ⟨d, .binOp op t x y t', ty, pos, af, g⟩ env K G (.bool c) := fun w a _ ha => by
  simp only [execOp, ha.ev hx, ha.ev hy, eqGuard_at_int]
  cases op <;> simp only [cmpB, Option.some.injEq, reduceCtorEq] at hc <;> subst hc <;> simp [binOp, Op.intCmp, dcd_eq] <;> rfl
def arB : BinOp → Int → Int → Option Int
  | .add, a, b => some (a + b)
  | .sub, a, b => some (a - b)
  | .mul, a, b => some (a * b)
  | _, _, _ => none
theorem Qt_arith {op : BinOp} {t t' : TypeId} {x y : Operand} {k : IntKind} {a b c e : Int} (hx : ev env x = some (.int k a)) (hy : ev env y = some (.int k b)) (hc : arB op a b = some c) (hw : k.wrap c = e) :
    Qt P n ⟨d, .binOp op t x y t', ty, pos, af, g⟩ env K G (.int k e) := fun w a _ ha => by
  simp only [execOp, ha.ev hx, ha.ev hy, eqGuard_at_int]
  subst hw
  cases op <;> simp [arB] at hc <;> subst hc <;> simp [binOp, Op.intArith]
theorem Qt_rem {t t' : TypeId} {x y : Operand} {k : IntKind} {a b : Int} (hx : ev env x = some (.int k a)) (hy : ev env y = some (.int k b)) (hb : b ≠ 0) :
    Qt P n ⟨d, .binOp .rem t x y t', ty, pos, af, g⟩ env K G (.int k (a.tmod b)) := fun w a _ ha => by
  simp only [execOp, ha.ev hx, ha.ev hy, eqGuard_at_int]
  simp [binOp, Op.intDiv, hb]
theorem Qt_remN {t t' : TypeId} {x y : Operand} {k : IntKind} {p q : Nat} (hx : ev env x = some (.int k (p : Int))) (hy : ev env y = some (.int k (q : Int))) (hb : q ≠ 0) :
    Qt P n ⟨d, .binOp .rem t x y t', ty, pos, af, g⟩ env K G (.int k ((p % q : Nat) : Int)) := fun w a _ ha => by
  simp only [execOp, ha.ev hx, ha.ev hy, eqGuard_at_int]
  simp [binOp, Op.intDiv, hb, Int.tmod_eq_emod_of_nonneg (Int.natCast_nonneg p)]
theorem Qt_quo {t t' : TypeId} {x y : Operand} {k : IntKind} {a b : Int} (hx : ev env x = some (.int k a)) (hy : ev env y = some (.int k b)) (hb : b ≠ 0) :
    Qt P n ⟨d, .binOp .quo t x y t', ty, pos, af, g⟩ env K G (.int k (k.wrap (a.tdiv b))) := fun w a _ ha => by
  simp only [execOp, ha.ev hx, ha.ev hy, eqGuard_at_int]
  simp [binOp, Op.intDiv, hb]
theorem Qt_eqB {t t' : TypeId} {x y : Operand} {a b : Bool} (hx : ev env x = some (.bool a)) (hy : ev env y = some (.bool b)) (ht : P.underlying t = some .bool) :
    Qt P n ⟨d, .binOp .eql t x y t', ty, pos, af, g⟩ env K G (.bool (a == b)) := fun w a _ ha => by
  simp [execOp, ha.ev hx, ha.ev hy, eqGuard_at_bool, run_eql_bool _ _ _ _ ht]
theorem Qt_neB {t t' : TypeId} {x y : Operand} {a b : Bool} (hx : ev env x = some (.bool a)) (hy : ev env y = some (.bool b)) (ht : P.underlying t = some .bool) :
    Qt P n ⟨d, .binOp .neq t x y t', ty, pos, af, g⟩ env K G (.bool (!(a == b))) := fun w a _ ha => by
  simp [execOp, ha.ev hx, ha.ev hy, eqGuard_at_bool, run_neq_bool _ _ _ _ ht]
theorem Qt_eqS {t t' : TypeId} {x y : Operand} {xs ys : Array Value} {b : Bool} (hx : ev env x = some (.agg xs)) (hy : ev env y = some (.agg ys)) (hr : ∀ w, (Op.equalIn 10000 t (.agg xs) (.agg ys)).run P w = .ok b w) (hm : P.eqGuardType P.depth t = false) :
    Qt P n ⟨d, .binOp .eql t x y t', ty, pos, af, g⟩ env K G (.bool b) := fun w a _ ha => by
  simp only [execOp, ha.ev hx, ha.ev hy, Sem.run_bind, run_eqGuard_agg _ _ _ _ _ _ _ hm, Result.andThen_ok, run_eql_struct, hr, Sem.run_pure]
theorem Qt_neS {t t' : TypeId} {x y : Operand} {xs ys : Array Value} {b : Bool} (hx : ev env x = some (.agg xs)) (hy : ev env y = some (.agg ys)) (hr : ∀ w, (Op.equalIn 10000 t (.agg xs) (.agg ys)).run P w = .ok b w) (hm : P.eqGuardType P.depth t = false) :
    Qt P n ⟨d, .binOp .neq t x y t', ty, pos, af, g⟩ env K G (.bool !b) := fun w a _ ha => by
  simp only [execOp, ha.ev hx, ha.ev hy, Sem.run_bind, run_eqGuard_agg _ _ _ _ _ _ _ hm, Result.andThen_ok, run_neq_struct, hr, Sem.run_pure]
theorem Qt_conv {s t : TypeId} {x : Operand} {k k' : IntKind} {m c : Int} (hx : ev env x = some (.int k' m)) (hs : (P.underlying s).isSome = true) (ht : P.underlying t = some (.int k)) (hw : k.wrap m = c) :
    Qt P n ⟨d, .convert s t x, ty, pos, af, g⟩ env K G (.int k c) := fun w a _ ha => by
  obtain ⟨e, he⟩ := Option.isSome_iff_exists.1 hs
  simp [execOp, ha.ev hx, convert, run_und he, run_und ht, Conv.intToInt, hw]
theorem Qt_len {t e : TypeId} {x : Operand} {A : Option Addr} {m c : Nat} (hx : ev env x = some (.slice A m c)) (ht : P.underlying t = some (.slice e)) :
    Qt P n ⟨d, .call { callee := .builtin .len, args := #[x], argTypes := #[t] }, ty, pos, af, g⟩ env K G (.int .i64 m) := fun w a _ ha => by
  simp [execOp, resolve, invoke, builtin, ha.ev hx, Builtin.len_, run_und ht, goInt]
theorem Qt_lenS {t : TypeId} {x : Operand} {s : ByteArray} (hx : ev env x = some (.string s)) (ht : P.underlying t = some .string) :
    Qt P n ⟨d, .call { callee := .builtin .len, args := #[x], argTypes := #[t] }, ty, pos, af, g⟩ env K G (.int .i64 s.size) := fun w a _ ha => by
  simp [execOp, resolve, invoke, builtin, ha.ev hx, Builtin.len_, run_und ht, goInt]
theorem Qt_extract {x : Operand} {vs : Array Value} {i : Nat} {v : Value} (hx : ev env x = some (.tuple vs)) (hi : vs[i]? = some v) :
    Qt P n ⟨d, .extract x i, ty, pos, af, g⟩ env K G v := fun w a _ ha => by
  simp [execOp, ha.ev hx, Instr.extract, hi]
/-- Whether an index fits is asked of the caller. -/
theorem Qt_indexAddr {t e : TypeId} {x i : Operand} {A : Addr} {m c size : Nat} {k : IntKind} {j : Int} {q : Nat} (hx : ev env x = some (.slice (some A) m c)) (hi : ev env i = some (.int k j)) (ht : P.underlying t = some (.slice e))
    (hs : P.cellsOf e = size) (hz : Nat.beq size 0 = false) (hj : j = (q : Int)) (hq : q < m) : Qt P n ⟨d, .indexAddr t x i, ty, pos, af, g⟩ env K G (.pointer (some (A.add (q * size)))) := fun w a _ ha => by
  have hz' : size ≠ 0 := fun e => by rw [e] at hz; cases hz
  have h1 : (0 : Int) ≤ (q : Int) ∧ (q : Int) < (m : Int) := by omega
  subst hj
  have h2 : q < m := hq
  simp [execOp, ha.ev hx, ha.ev hi, Instr.indexAt, asIntOf, run_und ht, h2, run_size hs hz']
theorem Qt_field {s : TypeId} {x : Operand} {f : Nat} {cs : Array Value} {fs : Array Field} {fd : Field} {v : Value} (hx : ev env x = some (.agg cs)) (hs : P.underlying s = some (.struct fs)) (hf : fs[f]? = some fd)
    (hv : if aggB P fd.type then v = .agg (cs.extract fd.offset (fd.offset + P.cellsOf fd.type)) ∧ P.cellsOf fd.type ≠ 0 else cs[fd.offset]? = some v) (hu : (P.underlying fd.type).isSome = true) :
    Qt P n ⟨d, .field s x f, ty, pos, af, g⟩ env K G v := fun w a _ ha => by
  cases hb : aggB P fd.type with
  | true =>
    rw [if_pos hb] at hv
    obtain ⟨rfl, hz⟩ := hv
    simp [execOp, ha.ev hx, Instr.field, asAgg, run_und hs, hf, part, run_isAgg' hb hu, run_size rfl hz]
  | false =>
    rw [hb] at hv
    simp only [Bool.false_eq_true, if_false] at hv
    simp [execOp, ha.ev hx, Instr.field, asAgg, run_und hs, hf, part, run_isAgg' hb hu, hv]
/-- An element of an array that is a value. -/
theorem Qt_index1 {t e : TypeId} {x i : Operand} {cs : Array Value} {m q : Nat} {k : IntKind} {j : Int} {v : Value} (hx : ev env x = some (.agg cs)) (hi : ev env i = some (.int k j)) (ht : P.underlying t = some (.array m e))
    (hb : aggB P e = false) (hu : (P.underlying e).isSome = true) (hs : P.cellsOf e = 1) (hj : j = (q : Int)) (hq : q < m) (hv : cs[q]? = some v) : Qt P n ⟨d, .index t x i, ty, pos, af, g⟩ env K G v := fun w a _ ha => by
  subst hj
  simp [execOp, ha.ev hx, ha.ev hi, Instr.index, asIntOf, run_und ht, hq, run_size hs (by decide), part, run_isAgg' hb hu, hv]
end ops
end Go.Hx

namespace Go.Hx
open Go

inductive Upd : List Ent → Ent → Ent → List Ent → Prop
  | here {e e' : Ent} {G : List Ent} : Upd (e :: G) e e' (e' :: G)
  | there {x e e' : Ent} {G G' : List Ent} : Upd G e e' G' → Upd (x :: G) e e' (x :: G')

theorem Upd.mem {G G' : List Ent} {e e' : Ent} (h : Upd G e e' G') : e ∈ G := by
  induction h with
  | here => exact .head _
  | there _ ih => exact .tail _ ih
theorem Upd.mem' {G G' : List Ent} {e e' : Ent} (h : Upd G e e' G') : e' ∈ G' := by
  induction h with
  | here => exact .head _
  | there _ ih => exact .tail _ ih

theorem Upd.perms {G G' : List Ent} {e e' : Ent} (h : Upd G e e' G') : ∃ R, G.Perm (e :: R) ∧ G'.Perm (e' :: R) := by
  induction h with
  | here => exact ⟨_, .refl _, .refl _⟩
  | there _ ih =>
    obtain ⟨R, h1, h2⟩ := ih
    exact ⟨_ :: R, (h1.cons _).trans (.swap _ _ _), (h2.cons _).trans (.swap _ _ _)⟩

theorem Ent.off_of_own {K : Kp} {e : Ent} (h : e.free K) {b : Nat} (hb : b ∈ e.own) : K.o b = none := by
  cases e with
  | blk c t cs => simp [Ent.own] at hb; subst hb; exact h.1
  | row v t s xs => simp [Ent.own] at hb; exact (h b hb).1
  | obj c o => simp [Ent.own] at hb; subst hb; exact h.1
  | tok t s vs =>
    simp only [Ent.own, List.mem_filterMap] at hb
    obtain ⟨v, hv, hb⟩ := hb
    unfold Value.ownBlock at hb
    split at hb
    · cases hb; exact (h _ hv _ _ _ rfl).1
    · cases hb
  | rws t s vs xss =>
    simp only [Ent.own, List.mem_filterMap] at hb
    obtain ⟨v, hv, hb⟩ := hb
    exact (h v hv b hb).1
theorem Ent.free_congr {K K' : Kp} {e : Ent} (h : e.free K) (hc : ∀ b ∈ e.own, (∀ j, K'.c b j = K.c b j) ∧ K'.o b = K.o b) : e.free K' := by
  have key : ∀ b f, K.off b f → b ∈ e.own → K'.off b f := fun b f h hb => ⟨(hc b hb).2.trans h.1, fun j hj => ((hc b hb).1 j).trans (h.2 j hj)⟩
  cases e with
  | blk c t cs => exact key _ _ h (by simp [Ent.own])
  | row v t s xs => exact fun b hb => key _ _ (h b hb) (by simp [Ent.own, hb])
  | obj c o => exact key _ _ h (by simp [Ent.own])
  | tok t s vs => exact fun v hv A n c e => key _ _ (h v hv A n c e) (by simp only [Ent.own, List.mem_filterMap]; exact ⟨v, hv, by subst e; rfl⟩)
  | rws t s vs xss => exact fun v hv b hb => key _ _ (h v hv b hb) (by simp only [Ent.own, List.mem_filterMap]; exact ⟨v, hv, hb⟩)
theorem Ent.free_new {w : World} {K : Kp} {G : List Ent} (h : SatW w K G) {b : Nat} (hb : w.heap.size ≤ b) (n : Nat) : K.off b n := by
  refine ⟨?_, fun j _ => ?_⟩
  · cases hk : K.o b with
    | none => rfl
    | some o => have := lt_of_some (h.ko b o hk); omega
  · cases hk : K.c b j with
    | none => rfl
    | some v => obtain ⟨cs, t, fr, h1, _⟩ := h.k b j v hk; have := lt_of_some h1; omega

/-- The first entry has turned, and more cells may be settled in its blocks. -/
theorem Sat.upd1 {E w w' : World} {K K' : Kp} {R : List Ent} {e e' : Ent} (h : Sat E w K (e :: R)) (hos : w'.os = w.os) (htape : w'.tape = w.tape) (hout : w'.output = w.output)
    (hb : ∀ b, b < w.heap.size → b ∉ e.own → w'.heap[b]? = w.heap[b]?) (hko : K'.o = K.o) (hkc : ∀ b, b ∉ e'.own → ∀ j, K'.c b j = K.c b j)
    (hk : ∀ b ∈ e'.own, ∀ j v, K'.c b j = some v → ∃ cs t fr, w'.heap[b]? = some (.cells cs t fr) ∧ cs[j]? = some v) (hk0 : ∀ b ∈ e.own, b ∉ e'.own → ∀ j v, K.c b j = some v → ∃ cs t fr, w'.heap[b]? = some (.cells cs t fr) ∧ cs[j]? = some v)
    (he : e'.holds w') (hf : e'.free K') (hown : ∀ b ∈ e'.own, b ∈ e.own ∨ w.heap.size ≤ b) (hnd : e'.own.Nodup) : Sat E w' K' (e' :: R) := by
  have hn := h.nodup
  rw [List.flatMap_cons] at hn
  obtain ⟨_, hnR, hdis⟩ := List.nodup_append.1 hn
  have hR : ∀ x ∈ R, ∀ b ∈ x.own, b ∉ e.own ∧ b ∉ e'.own ∧ b < w.heap.size := fun x hx b hbx => by
    have hlt := Ent.lt (h.g x (.tail _ hx)) hbx
    have hm : b ∈ R.flatMap Ent.own := List.mem_flatMap.2 ⟨x, hx, hbx⟩
    have h1 : b ∉ e.own := fun hbe => hdis b hbe b hm rfl
    exact ⟨h1, fun h2 => (hown b h2).elim h1 (fun h3 => by omega), hlt⟩
  refine { k := fun b j v hc => ?_, ko := fun b o hc => ?_, g := fun x hx => ?_, os := hos.trans h.os, tape := htape.trans h.tape, output := hout.trans h.output, apart := fun x hx => ?_, nodup := ?_ }
  · by_cases hbe' : b ∈ e'.own
    · exact hk b hbe' j v hc
    · rw [hkc b hbe'] at hc
      by_cases hbe : b ∈ e.own
      · exact hk0 b hbe hbe' j v hc
      · obtain ⟨cs, t, fr, h1, h2⟩ := h.k b j v hc
        exact ⟨cs, t, fr, (hb b (lt_of_some h1) hbe).trans h1, h2⟩
  · rw [hko] at hc
    have h1 := h.ko b o hc
    refine (hb b (lt_of_some h1) fun hbe => ?_).trans h1
    rw [Ent.off_of_own (h.apart e (.head _)) hbe] at hc
    cases hc
  · rcases List.mem_cons.1 hx with rfl | hx
    · exact he
    · exact Ent.holds_of (h.g x (.tail _ hx)) fun b hbx => hb b (hR x hx b hbx).2.2 (hR x hx b hbx).1
  · rcases List.mem_cons.1 hx with rfl | hx
    · exact hf
    · exact Ent.free_congr (h.apart x (.tail _ hx)) fun b hbx => ⟨hkc b (hR x hx b hbx).2.1, by rw [hko]⟩
  · rw [List.flatMap_cons]
    refine List.nodup_append.2 ⟨hnd, hnR, fun b hbe c hc hbc => ?_⟩
    subst hbc
    obtain ⟨x, hx, hbx⟩ := List.mem_flatMap.1 hc
    exact (hR x hx b hbx).2.1 hbe

/-- One entry has turned, by a write into its block or by a move to a new one; nothing else is settled. -/
theorem Sat.upd {E w w' : World} {K : Kp} {G G' : List Ent} {e e' : Ent} (h : Sat E w K G) (hu : Upd G e e' G') (hos : w'.os = w.os) (htape : w'.tape = w.tape) (hout : w'.output = w.output)
    (hb : ∀ b, b < w.heap.size → b ∉ e.own → w'.heap[b]? = w.heap[b]?) (he : e'.holds w') (hown : ∀ b ∈ e'.own, b ∈ e.own ∨ w.heap.size ≤ b) (hnd : e'.own.Nodup) (hf : e'.free K) (hz : ∀ b ∈ e.own, ∀ j, K.c b j = none) : Sat E w' K G' := by
  obtain ⟨R, h1, h2⟩ := hu.perms
  have h' := h.perm h1
  refine (Sat.upd1 h' hos htape hout hb rfl (fun _ _ _ => rfl) (fun b hbe j v hc => ?_) (fun b hbe _ j v hc => by rw [hz b hbe] at hc; cases hc) he hf hown hnd).perm h2.symm
  rcases hown b hbe with h3 | h3
  · rw [hz b h3] at hc; cases hc
  · rw [(Ent.free_new h.toSatW h3 0).2 j (Nat.zero_le _)] at hc; cases hc
theorem row_off {K : Kp} {v : Value} {t : TypeId} {size : Nat} {xs : List Value} (h : (Ent.row v t size xs).free K) : ∀ b ∈ (Ent.row v t size xs).own, ∀ j, K.c b j = none := fun b hb j => by
  simp [Ent.own] at hb
  exact (h b hb).2 j (Nat.zero_le _)
theorem blk_off {K : Kp} {b : Nat} {t : TypeId} {cs : List Value} (h : (Ent.blk b t cs).free K) : ∀ c ∈ (Ent.blk b t cs).own, ∀ j, K.c c j = none := fun c hb j => by
  simp [Ent.own] at hb
  subst hb
  exact h.2 j (Nat.zero_le _)

/-- A new block. -/
theorem Sat.new {E w : World} {K : Kp} {G : List Ent} {e : Ent} {o : Obj} (h : Sat E w K G) (he : e.holds (w.alloc o)) (hown : e.own = [w.heap.size]) (hf : e.free K) : Sat E (w.alloc o) K (e :: G) := by
  have hb : ∀ b, b < w.heap.size → (w.alloc o).heap[b]? = w.heap[b]? := fun b hb => by show (w.heap.push o)[b]? = _; rw [Array.getElem?_push, if_neg (Nat.ne_of_lt hb)]
  refine { k := fun b j v hk => ?_, ko := fun b o' hk => (hb b (lt_of_some (h.ko b o' hk))).trans (h.ko b o' hk), g := fun x hx => ?_, os := h.os, tape := h.tape, output := h.output, apart := fun x hx => ?_, nodup := ?_ }
  · obtain ⟨cs, t, fr, h1, h2⟩ := h.k b j v hk
    exact ⟨cs, t, fr, (hb b (lt_of_some h1)).trans h1, h2⟩
  · rcases List.mem_cons.1 hx with rfl | hx
    · exact he
    · exact Ent.holds_of (h.g x hx) fun b hxb => hb b (Ent.lt (h.g x hx) hxb)
  · rcases List.mem_cons.1 hx with rfl | hx
    · exact hf
    · exact h.apart x hx
  · rw [List.flatMap_cons, hown]
    refine List.nodup_append.2 ⟨by simp, h.nodup, fun b hb c hc hbc => ?_⟩
    subst hbc
    simp at hb
    obtain ⟨x, hx, hxb⟩ := List.mem_flatMap.1 hc
    have := Ent.lt (h.g x hx) hxb
    omega

/-- A ghost entry: the nil slice is an empty row of whatever type. -/
theorem Sat.ghost {E w : World} {K : Kp} {G : List Ent} {e : Ent} (h : Sat E w K G) (he : e.holds w) (hown : e.own = []) (hf : e.free K) : Sat E w K (e :: G) :=
  { k := h.k, ko := h.ko, os := h.os, tape := h.tape, output := h.output
    g := fun x hx => by
      rcases List.mem_cons.1 hx with rfl | hx
      · exact he
      · exact h.g x hx
    apart := fun x hx => by
      rcases List.mem_cons.1 hx with rfl | hx
      · exact hf
      · exact h.apart x hx
    nodup := by rw [List.flatMap_cons, hown]; exact h.nodup }
theorem Sat.nilRow {E w : World} {K : Kp} {G : List Ent} (h : Sat E w K G) (t : TypeId) (size : Nat) : Sat E w K (.row (.slice none 0 0) t size [] :: G) :=
  h.ghost ⟨0, World.ownsRow_nil w 0 t size⟩ rfl (fun b hb => by cases hb)
theorem Sat.nilTok {E w : World} {K : Kp} {G : List Ent} (h : Sat E w K G) (t : TypeId) (size m : Nat) : Sat E w K (.tok t size (List.replicate m (.slice none 0 0)) :: G) := by
  refine h.ghost (fun v hv => ?_) ?_ (fun v hv A n c e => ?_)
  · rw [(List.mem_replicate.1 hv).2]; exact ⟨0, [], World.ownsRow_nil w 0 t size⟩
  · simp only [Ent.own]
    rw [List.filterMap_eq_nil_iff]
    intro v hv
    rw [(List.mem_replicate.1 hv).2]; rfl
  · rw [(List.mem_replicate.1 hv).2] at e; cases e
theorem Sat.drew {E w : World} {K : Kp} {G : List Ent} (h : Sat E w K G) : Sat E w.drew K G :=
  { k := h.k, ko := h.ko, os := h.os, tape := h.tape, output := h.output, g := fun x hx => Ent.holds_of (h.g x hx) fun _ _ => rfl, apart := h.apart, nodup := h.nodup }

/-- The beginning of a block is settled: nobody will write to it any more. -/
def Kp.add (K : Kp) (b : Nat) (cs : List Value) : Kp := ⟨fun c j => if c = b then (match cs[j]? with | some v => some v | none => K.c c j) else K.c c j, K.o⟩
theorem Kp.add_same {K : Kp} {b j : Nat} {cs : List Value} {v : Value} (h : cs[j]? = some v) : (K.add b cs).c b j = some v := by simp [Kp.add, h]
theorem Kp.add_other {K : Kp} {b c j : Nat} {cs : List Value} (h : c ≠ b) : (K.add b cs).c c j = K.c c j := by simp [Kp.add, h]
theorem Kp.add_beyond {K : Kp} {b j : Nat} {cs : List Value} (h : cs.length ≤ j) : (K.add b cs).c b j = K.c b j := by simp [Kp.add, List.getElem?_eq_none h]
theorem Kp.le_add {K : Kp} {b : Nat} {cs : List Value} (h : ∀ j v u, cs[j]? = some v → K.c b j = some u → u = v) : K.le (K.add b cs) := ⟨fun c j u hc => by
  by_cases e : c = b
  · subst e
    cases hv : cs[j]? with
    | none => rw [Kp.add_beyond (List.getElem?_eq_none_iff.1 hv)]; exact hc
    | some v => rw [Kp.add_same hv, h j v u hv hc]
  · rw [Kp.add_other e]; exact hc, fun _ _ h => h⟩

/-! ### overwriting cells -/
def ovw : List Value → Nat → List Value → List Value
  | cs, _, [] => cs
  | [], _, _ => []
  | _ :: cs, 0, v :: vs => v :: ovw cs 0 vs
  | c :: cs, k + 1, v :: vs => c :: ovw cs k (v :: vs)
theorem ovw_cons (cs : List Value) (k : Nat) (v : Value) (vs : List Value) : ovw cs k (v :: vs) = ovw (cs.set k v) (k + 1) vs := by
  induction cs generalizing k v vs with
  | nil => cases vs <;> simp [ovw]
  | cons c cs ih =>
    cases k with
    | zero => cases vs <;> simp [ovw]
    | succ k =>
      cases vs with
      | nil => simp only [ovw, List.set_cons_succ]; rw [ih]; simp [ovw]
      | cons u us => simp only [ovw, List.set_cons_succ]; rw [ih]
theorem ovw_length (cs : List Value) (k : Nat) (vs : List Value) : (ovw cs k vs).length = cs.length := by
  induction cs generalizing k vs with
  | nil => cases vs <;> simp [ovw]
  | cons c cs ih => cases vs <;> cases k <;> simp [ovw, ih]

/-- Cells written one after another into an own block. -/
theorem run_storeCells_blk {P : Program} {b : Nat} {t : TypeId} : ∀ (vs : List Value) (w : World) (cs : List Value) (k i : Nat), w.heap[b]? = some (.cells cs.toArray t (0, 0)) → k + i + vs.length ≤ cs.length → (∀ u ∈ vs, u.oneCell' = true) →
    ∃ w', (storeCells ((⟨b, 0, none⟩ : Addr).add k) vs i).run P w = .ok () w' ∧ w'.heap[b]? = some (.cells (ovw cs (k + i) vs).toArray t (0, 0)) ∧ w'.os = w.os ∧ w'.tape = w.tape ∧ w'.output = w.output ∧ w'.heap.size = w.heap.size ∧
      ∀ c, c ≠ b → w'.heap[c]? = w.heap[c]?
  | [], w, cs, k, i, hb, _, _ => ⟨w, rfl, by simpa [ovw] using hb, rfl, rfl, rfl, rfl, fun _ _ => rfl⟩
  | v :: vs, w, cs, k, i, hb, hl, h1 => by
    have hcell : w.cell? ⟨b, k + i, none⟩ = cs[k + i]? := by rw [cell_of_row w b _ _ t (0, 0) hb]; simp
    have hlt : k + i < cs.length := by simp at hl; omega
    have hb' : (w.setCell ⟨b, k + i, none⟩ v).heap[b]? = some (.cells (cs.set (k + i) v).toArray t (0, 0)) := by
      rw [heap_setCell_same w b (k + i) _ t v hb]
      simp
    obtain ⟨w', hr, hh, hos, htape, hout, hsz, hoth⟩ := run_storeCells_blk vs (w.setCell ⟨b, k + i, none⟩ v) (cs.set (k + i) v) k (i + 1) hb' (by simp at hl ⊢; omega) (fun u hu => h1 u (.tail _ hu))
    refine ⟨w', ?_, ?_, hos, htape, hout, by rw [hsz]; simp, fun c hc => (hoth c hc).trans (heap_setCell_other w _ c v hc)⟩
    · have haddr : (((⟨b, 0, none⟩ : Addr).add k).add i) = ⟨b, k + i, none⟩ := by rw [add_add, add_lit]; simp
      have hstore := run_store P w (((⟨b, 0, none⟩ : Addr).add k).add i) v .plain (h1 v (.head _))
      rw [haddr] at hstore
      simp only [storeCells, Sem.run_bind, haddr, hstore]
      rw [hcell, List.getElem?_eq_getElem hlt, frozen_of_row w b _ _ t hb]
      simpa using hr
    · rw [ovw_cons]
      exact hh

section
variable {P : Program} {n : Nat} {env : Env} {K : Kp} {G : List Ent} {R : Cont} {ops : Array Oper} {rest : List Oper}
variable {d : Nat} {dd : Option Tmp} {ty : TypeId} {pos : String} {af : Array Edge} {g : Option (Nat × Bool)}

theorem lt_of_blt {d n : Nat} (h : Nat.blt d n = true) : d < n := by simpa [Nat.blt_eq] using h

theorem OpW_box {t : TypeId} {x : Operand} {v : Value} {cs : List Value} (hlt : Nat.blt d n = true) (hx : ev env x = some v) (hcs : v.cells.toList = cs)
    (h : ∀ b, R ((d, .pointer (some ((⟨b, 0, none⟩ : Addr).add 0))) :: env) K (.blk b t cs :: G)) : OpW P n ⟨some d, .box t x, ty, pos, af, g⟩ env K G R :=
  fun E w a hs ha next Q hk => by
    subst hcs
    unfold Oper.wp
    simp only [execOp, ha.ev hx, Instr.box, newVar, newRow]
    simp
    rw [Oper.upon_value]
    refine hk _ _ _ _ _ (Kp.le_refl K) (hs.new (e := .blk w.heap.size t v.cells.toList) ?_ rfl (Ent.free_new hs.toSatW (Nat.le_refl _) 0)) (ha.put (lt_of_blt hlt) _) (h w.heap.size)
    show (w.heap.push _)[w.heap.size]? = _
    simp

theorem OpW_alloc {t : TypeId} {i : TypeInfo} {z : Value} {cs : List Value} (hlt : Nat.blt d n = true) (hi : P.info? t = some i) (hz : i.zero = some z) (hcs : z.cells.toList = cs)
    (h : ∀ b, R ((d, .pointer (some ((⟨b, 0, none⟩ : Addr).add 0))) :: env) K (.blk b t cs :: G)) : OpW P n ⟨some d, .alloc t, ty, pos, af, g⟩ env K G R :=
  fun E w a hs ha next Q hk => by
    subst hcs
    unfold Oper.wp
    simp only [execOp, Instr.alloc, zeroValue, typeInfo, newVar, newRow]
    simp [hi, hz]
    rw [Oper.upon_value]
    refine hk _ _ _ _ _ (Kp.le_refl K) (hs.new (e := .blk w.heap.size t z.cells.toList) ?_ rfl (Ent.free_new hs.toSatW (Nat.le_refl _) 0)) (ha.put (lt_of_blt hlt) _) (h w.heap.size)
    show (w.heap.push _)[w.heap.size]? = _
    simp

theorem OpW_store {t bt : TypeId} {x y : Operand} {b k : Nat} {v : Value} {vs all all' : List Value} {G' : List Ent} (hx : ev env x = some (.pointer (some ((⟨b, 0, none⟩ : Addr).add k)))) (hy : ev env y = some v)
    (hv : v.cells = vs.toArray) (ht : P.cellsOf t = vs.length) (hn : Nat.beq vs.length 0 = false) (hu : Upd G (.blk b bt all) (.blk b bt all') G') (ho : ovw all k vs = all') (h1 : vs.all Value.oneCell' = true) (hl : Nat.ble (k + vs.length) all.length = true)
    (h : R env K G') : OpW P n ⟨none, .store t x y, ty, pos, af, g⟩ env K G R :=
  fun E w a hs ha next Q hk => by
    have hn' : vs.length ≠ 0 := fun e => by rw [e] at hn; cases hn
    unfold Oper.wp
    have hb : w.heap[b]? = some (.cells all.toArray bt (0, 0)) := hs.g _ hu.mem
    obtain ⟨w', hr, hh, hos, htape, hout, hsz, hoth⟩ := run_storeCells_blk (P := P) vs w all k 0 hb (by simpa [Nat.ble_eq] using hl) (by simpa using h1)
    simp only [execOp, ha.ev hx, ha.ev hy, Instr.storeAt, Instr.sureAddr, storeVar, hv]
    simp [run_size ht hn', hr]
    rw [Oper.upon_skip]
    refine hk _ _ _ _ _ (Kp.le_refl K) (hs.upd hu hos htape hout (fun c _ hc => hoth c (fun e => hc (by simp [Ent.own, e]))) ?_ (fun c hc => .inl hc) (by simp [Ent.own]) (show K.off b 0 from hs.apart (.blk b bt all) hu.mem) (blk_off (hs.apart _ hu.mem))) ha h
    simpa [Ent.holds, ho] using hh

/-- A call of a Go function, by its contract. -/
theorem OpW_call {f : FuncId} {fo : Operand} {first captured : Array Value} {args : Array Operand} {ts : Array TypeId} {vs : List Value} {Qf : Value → Kp → List Ent → Prop} (hlt : Nat.blt d n = true)
    (hcall : ∀ (xs : Array Value) (w : World), (callFunc f xs).run P w = .ok (.enter f xs) w) (hf : ev env fo = some (.func (.func f) first captured))
    (ha' : args.toList.mapM (ev env) = some vs) (hfn : Fc P f (first ++ vs.toArray ++ captured) K G Qf)
    (h : ∀ v K' G', K.le K' → Qf v K' G' → R ((d, v) :: env) K' G') : OpW P n ⟨some d, .call { callee := .value fo, args := args, argTypes := ts }, ty, pos, af, g⟩ env K G R :=
  fun E w a hs ha next Q hk => by
    have hargs : args.map a.eval = vs.toArray := by
      obtain ⟨l⟩ := args
      simp only [List.map_toArray]
      congr 1
      simp only at ha'
      clear hk hfn h hf
      induction l generalizing vs with
      | nil => simp at ha'; simp [ha'.symm]
      | cons o l ih =>
        simp only [List.mapM_cons, Option.bind_eq_bind, Option.bind_eq_some_iff, Option.pure_def, Option.some.injEq] at ha'
        obtain ⟨u, hu, us, hus, rfl⟩ := ha'
        rw [List.map_cons, ha.ev hu, ih hus]
    unfold Oper.wp
    simp only [execOp, resolve, ha.ev hf, hargs, Deferred.ofValue]
    simp only [Sem.run_bind, Sem.run_pure, Result.andThen_ok, invoke, hcall]
    rw [Oper.upon_enter]
    refine (hfn E w hs).mono fun e w' hq => ?_
    obtain ⟨v, K', G', rfl, hle, hs', hq⟩ := hq
    exact hk _ _ _ _ _ hle hs' (ha.put (lt_of_blt hlt) v) (h v K' G' hle hq)
end
end Go.Hx

namespace Go.Hx
open Go

/-! ### reading -/
theorem row_form {w : World} {K : Kp} {G : List Ent} {v : Value} {t : TypeId} {size : Nat} {xs : List Value} (hs : SatW w K G) (h : Ent.row v t size xs ∈ G) : ∃ n, w.ownsRow 0 t size v n xs := hs.g _ h

theorem Rdc.row {K : Kp} {G : List Ent} {A : Addr} {m c k size : Nat} {t : TypeId} {xs cs : List Value} (h : Ent.row (.slice (some A) m c) t size xs ∈ G) (hd : (xs.drop k).take cs.length = cs) : Rdc K G (A.add k) cs := by
  intro w hs j v hv
  obtain ⟨n, h1, h2⟩ := row_form hs h
  rcases h2 with ⟨h2, _⟩ | ⟨g, cap, cur, h2, _, hg, _, _, _, htake⟩
  · cases h2
  · cases h2
    rw [add_add, add_lit, cell_of_row w g _ _ t (0, 0) hg]
    have hj : j < cs.length := (List.getElem?_eq_some_iff.1 hv).1
    rw [← hd, List.getElem?_take, if_pos hj, List.getElem?_drop, ← htake] at hv
    rw [List.getElem?_take] at hv
    split at hv
    · simpa using hv
    · cases hv

theorem Rdm.row {K : Kp} {G : List Ent} {A : Addr} {m c k size q : Nat} {t : TypeId} {xs : List Value} (h : Ent.row (.slice (some A) m c) t size xs ∈ G) (hl : k + q ≤ xs.length) : Rdm K G (A.add k) q ((xs.drop k).take q) :=
  have hl' : Nat.ble (k + q) xs.length = true := by simpa [Nat.ble_eq] using hl
  ⟨(take_drop_self hl').1, Rdc.row h (take_drop_self hl').2⟩

/-- A slice that reads, element by element, as a list of rows of cells; nothing is said of its spare room. -/
def Sl (K : Kp) (v : Value) (size : Nat) (rows : List (List Value)) : Prop :=
  ∃ A n c, v = .slice A n c ∧ n = rows.length ∧ n ≤ maxLen ∧ n ≤ c ∧ (∀ r ∈ rows, r.length = size) ∧ (0 < n → ∃ a, A = some a ∧ KAt K a rows.flatten)
theorem Sl.mono {K K' : Kp} {v : Value} {size : Nat} {rows : List (List Value)} (h : Sl K v size rows) (hk : K.le K') : Sl K' v size rows := by
  obtain ⟨A, n, c, h1, h2, h3, h4, h5, h6⟩ := h
  exact ⟨A, n, c, h1, h2, h3, h4, h5, fun hn => let ⟨a, e, hr⟩ := h6 hn; ⟨a, e, hr.mono hk⟩⟩
theorem Sl.nil (K : Kp) (size : Nat) : Sl K (.slice none 0 0) size [] := ⟨none, 0, 0, rfl, rfl, by simp [maxLen], Nat.le_refl _, by simp, fun h => absurd h (by omega)⟩

theorem flatten_drop {size : Nat} : ∀ {rows : List (List Value)} (_ : ∀ r ∈ rows, r.length = size) {q : Nat} {r : List Value}, rows[q]? = some r → (rows.flatten.drop (q * size)).take size = r
  | [], _, q, r, h => by simp at h
  | x :: rows, hl, 0, r, h => by
    simp at h
    subst h
    have := hl x (.head _)
    simp [← this]
  | x :: rows, hl, q + 1, r, h => by
    have hx := hl x (.head _)
    have ih := flatten_drop (rows := rows) (fun y hy => hl y (.tail _ hy)) (q := q) (r := r) (by simpa using h)
    rw [List.flatten_cons, Nat.succ_mul, Nat.add_comm, ← List.drop_drop]
    rw [show (x ++ rows.flatten).drop size = rows.flatten by rw [← hx]; simp]
    exact ih
theorem flatten_length {size : Nat} : ∀ {rows : List (List Value)} (_ : ∀ r ∈ rows, r.length = size), rows.flatten.length = rows.length * size
  | [], _ => by simp
  | x :: rows, hl => by
    rw [List.flatten_cons, List.length_append, flatten_length (fun y hy => hl y (.tail _ hy)), hl x (.head _), List.length_cons, Nat.succ_mul]
    omega

theorem KAt.sub {K : Kp} {A : Addr} {all cs : List Value} {k : Nat} (h : KAt K A all) (hd : (all.drop k).take cs.length = cs) : KAt K (A.add k) cs := by
  intro j v hv
  have hj : j < cs.length := (List.getElem?_eq_some_iff.1 hv).1
  rw [← hd, List.getElem?_take, if_pos hj, List.getElem?_drop] at hv
  rw [add_add]
  exact h _ _ hv
theorem Sl.elem {K : Kp} {A : Addr} {n c size q : Nat} {rows : List (List Value)} {r : List Value} (h : Sl K (.slice (some A) n c) size rows) (hq : rows[q]? = some r) : KAt K (A.add (q * size)) r := by
  obtain ⟨A', n', c', h1, h2, _, _, h3, h4⟩ := h
  cases h1
  have hlt : q < rows.length := (List.getElem?_eq_some_iff.1 hq).1
  obtain ⟨a, e, hr⟩ := h4 (by omega)
  cases e
  refine hr.sub ?_
  have hm : r ∈ rows := List.mem_of_getElem? hq
  rw [h3 r hm]
  exact flatten_drop h3 hq

/-- A slice as a value. -/
structure SV where
  A : Option Addr
  n : Nat
  c : Nat
def sv (s : SV) : Value := .slice s.A s.n s.c
def nilS : SV := ⟨none, 0, 0⟩
/-- The address of an element of a slice. -/
def elA (v : Value) (q size : Nat) : Addr := match v with
  | .slice (some a) _ _ => a.add (q * size)
  | _ => ⟨0, 0, none⟩
theorem Sl.at {K : Kp} {v : Value} {size q : Nat} {rows : List (List Value)} {r : List Value} (h : Sl K v size rows) (hq : rows[q]? = some r) : KAt K (elA v q size) r := by
  have hlt : q < rows.length := (List.getElem?_eq_some_iff.1 hq).1
  obtain ⟨A, n, c, rfl, h2, _, _, _, h4⟩ := id h
  obtain ⟨a, rfl, _⟩ := h4 (by omega)
  exact h.elem hq

section
variable {P : Program} {n : Nat} {env : Env} {K : Kp} {G : List Ent} {R : Cont} {Q : Post} {ops : Array Oper} {l rest : List Oper}
variable {d : Nat} {dd : Option Tmp} {ty : TypeId} {pos : String} {af : Array Edge} {g : Option (Nat × Bool)}

/-! ### ghost steps -/
theorem Ow.ghost {G' : List Ent} (hp : ∀ E w, Sat E w K G → Sat E w K G') (h : Ow P n ops l env K G' R) : Ow P n ops l env K G R := fun E w a hs ha Q hq => h E w a (hp E w hs) ha Q hq
theorem Cw.ghost {c : Code} {G' : List Ent} (hp : ∀ E w, Sat E w K G → Sat E w K G') (h : Cw P n c env K G' Q) : Cw P n c env K G Q := fun E w a hs ha => h E w a (hp E w hs) ha
inductive Rem : List Ent → Ent → List Ent → Prop
  | here {e : Ent} {G : List Ent} : Rem (e :: G) e G
  | there {x e : Ent} {G G2 : List Ent} : Rem G e G2 → Rem (x :: G) e (x :: G2)
theorem Rem.perm {G G2 : List Ent} {e : Ent} (h : Rem G e G2) : G.Perm (e :: G2) := by
  induction h with
  | here => exact List.Perm.refl _
  | there _ ih => exact (ih.cons _).trans (List.Perm.swap _ _ _)
theorem Sat.rem {E w : World} {e : Ent} {G2 : List Ent} (h : Sat E w K G) (hr : Rem G e G2) : Sat E w K G2 := (h.perm hr.perm).drop
theorem Ow.rem {e : Ent} {G2 : List Ent} (hr : Rem G e G2) (h : Ow P n ops l env K G2 R) : Ow P n ops l env K G R := Ow.ghost (fun _ _ hs => hs.rem hr) h
theorem Cw.rem {c : Code} {e : Ent} {G2 : List Ent} (hr : Rem G e G2) (h : Cw P n c env K G2 Q) : Cw P n c env K G Q := Cw.ghost (fun _ _ hs => hs.rem hr) h
theorem Ow.nilRow (t : TypeId) (size : Nat) (h : Ow P n ops l env K (.row (.slice none 0 0) t size [] :: G) R) : Ow P n ops l env K G R := Ow.ghost (fun _ _ hs => hs.nilRow t size) h
theorem Cw.nilRow {c : Code} (t : TypeId) (size : Nat) (h : Cw P n c env K (.row (.slice none 0 0) t size [] :: G) Q) : Cw P n c env K G Q := Cw.ghost (fun _ _ hs => hs.nilRow t size) h
theorem Ow.nilTok (t : TypeId) (size m : Nat) (h : Ow P n ops l env K (.tok t size (List.replicate m (.slice none 0 0)) :: G) R) : Ow P n ops l env K G R := Ow.ghost (fun _ _ hs => hs.nilTok t size m) h
theorem Cw.nilTok {c : Code} (t : TypeId) (size m : Nat) (h : Cw P n c env K (.tok t size (List.replicate m (.slice none 0 0)) :: G) Q) : Cw P n c env K G Q := Cw.ghost (fun _ _ hs => hs.nilTok t size m) h

/-- A row of the call's own is settled: everybody may read it from here on; what is left is the room behind it. -/
theorem sat_settle {E w : World} {G' : List Ent} {v : Value} {size : Nat} {t : TypeId} {rows : List (List Value)} (hs : Sat E w K G) (hu : Upd G (.row v t size rows.flatten) (.tok t size [v]) G') (hr : ∀ r ∈ rows, r.length = size) (hz : 0 < size) :
    ∃ K', K.le K' ∧ Sat E w K' G' ∧ Sl K' v size rows := by
  obtain ⟨R, h1, h2⟩ := hu.perms
  have h' := hs.perm h1
  obtain ⟨k, hk⟩ := h'.g _ (.head _)
  have hf := h'.apart _ (.head _)
  have hlen := flatten_length hr
  have hkr : k = rows.length := Nat.eq_of_mul_eq_mul_right hz (by rw [← hk.1, hlen])
  rcases hk.2 with ⟨rfl, h3⟩ | ⟨g, cap, cur, rfl, _, hg, hnc, hcm, hcs, htake⟩
  · subst h3
    refine ⟨K, Kp.le_refl K, ?_, none, 0, 0, rfl, by omega, by simp [maxLen], Nat.le_refl _, hr, fun h => absurd h (by omega)⟩
    exact ((h'.drop).nilTok t size 1).perm h2.symm
  · have hoff : K.off g 0 := hf g rfl
    have hcell : ∀ j v, rows.flatten[j]? = some v → cur[j]? = some v := fun j v hj => by
      rw [← htake, List.getElem?_take] at hj
      split at hj
      · simpa using hj
      · cases hj
    have hle : K.le (K.add g rows.flatten) := Kp.le_add fun j v u _ hc => by rw [hoff.2 j (Nat.zero_le _)] at hc; cases hc
    refine ⟨_, hle, ?_, some ⟨g, 0, none⟩, _, _, rfl, hkr, by omega, hnc, hr, fun _ => ⟨_, rfl, fun j v hv => ?_⟩⟩
    · refine (Sat.upd1 (K' := K.add g rows.flatten) h' rfl rfl rfl (fun _ _ _ => rfl) rfl (fun b hb j => Kp.add_other (fun e => hb (by subst e; simp [Ent.own, Value.ownBlock]))) (fun b hb j v hc => ?_) (fun b hb hb' => absurd (by simpa [Ent.own] using hb) (by simpa [Ent.own] using hb')) ?_ ?_ ?_ ?_).perm h2.symm
      · have hbg : b = g := by simpa [Ent.own, Value.ownBlock, eq_comm] using hb
        subst hbg
        refine ⟨cur, t, (0, 0), hg, ?_⟩
        cases hj : rows.flatten[j]? with
        | some u => rw [Kp.add_same hj] at hc; cases hc; exact hcell j _ hj
        | none => rw [Kp.add_beyond (List.getElem?_eq_none_iff.1 hj), hoff.2 j (Nat.zero_le _)] at hc; cases hc
      · intro v hv
        simp at hv
        subst hv
        exact ⟨_, _, hk⟩
      · intro v hv A n' c' e
        simp at hv
        subst hv
        cases e
        refine ⟨hoff.1, fun j hj => ?_⟩
        show (K.add g rows.flatten).c g j = none
        rw [Kp.add_beyond (by rw [hk.1]; exact hj)]
        exact hoff.2 j (Nat.zero_le _)
      · intro b hb; left; simpa [Ent.own] using hb
      · simp [Ent.own, Value.ownBlock]
    · rw [add_lit]
      exact ⟨rfl, by rw [Nat.zero_add]; exact Kp.add_same hv⟩
theorem Ow.settle {G' : List Ent} {v : Value} {size : Nat} {t : TypeId} {rows : List (List Value)} (hu : Upd G (.row v t size rows.flatten) (.tok t size [v]) G') (hr : ∀ r ∈ rows, r.length = size) (hz : 0 < size)
    (h : ∀ K', K.le K' → Sl K' v size rows → Ow P n ops l env K' G' R) : Ow P n ops l env K G R := fun E w a hs ha Q hq => by
  obtain ⟨K', hle, hs', hsl⟩ := sat_settle hs hu hr hz
  exact h K' hle hsl E w a hs' ha Q fun a' w' env' K'' G' h1 => hq a' w' env' K'' G' (hle.trans h1)
theorem Cw.settle {c : Code} {G' : List Ent} {v : Value} {size : Nat} {t : TypeId} {rows : List (List Value)} (hu : Upd G (.row v t size rows.flatten) (.tok t size [v]) G') (hr : ∀ r ∈ rows, r.length = size) (hz : 0 < size)
    (h : ∀ K', K.le K' → Sl K' v size rows → Cw P n c env K' G' Q) : Cw P n c env K G Q := fun E w a hs ha => by
  obtain ⟨K', hle, hs', hsl⟩ := sat_settle hs hu hr hz
  exact Code.wp_mono (fun _ _ _ hq => QL.le hle hq) (h K' hle hsl E w a hs' ha)

/-- What a row's value looks like. -/
theorem row_shape {w : World} {v : Value} {t : TypeId} {size : Nat} {rows : List (List Value)} (h : (Ent.row v t size rows.flatten).holds w) (hr : ∀ r ∈ rows, r.length = size) (hz : 0 < size) :
    ∃ A c, v = .slice A rows.length c ∧ rows.length ≤ c ∧ rows.length ≤ maxLen ∧ (0 < rows.length → ∃ g, A = some ⟨g, 0, none⟩) := by
  obtain ⟨k, h1, h2⟩ := h
  have hlen := flatten_length hr
  have hkr : k = rows.length := Nat.eq_of_mul_eq_mul_right hz (by rw [← h1, hlen])
  rcases h2 with ⟨h2, h3⟩ | ⟨g, cap, cur, h2, _, hg, hnc, hcm, _, htake⟩
  · exact ⟨none, 0, by rw [h2, ← hkr, h3], by omega, by simp only [maxLen]; omega, fun hh => absurd hh (by omega)⟩
  · exact ⟨some ⟨g, 0, none⟩, cap, by rw [h2, ← hkr], by omega, by omega, fun _ => ⟨_, rfl⟩⟩

/-- An element of a settled slice. -/
theorem Qt_ixK {t e : TypeId} {x i : Operand} {v : Value} {size : Nat} {k : IntKind} {j : Int} {q : Nat} {rows : List (List Value)} {r : List Value} (hx : ev env x = some v) (hi : ev env i = some (.int k j)) (ht : P.underlying t = some (.slice e))
    (hs : P.cellsOf e = size) (hz : Nat.beq size 0 = false) (hsl : Sl K v size rows) (hj : j = (q : Int)) (hr : rows[q]? = some r) : Qt P n ⟨dd, .indexAddr t x i, ty, pos, af, g⟩ env K G (.pointer (some ((elA v q size).add 0))) := by
  obtain ⟨A, m, c, rfl, h2, _, _, _, h4⟩ := hsl
  have hlt : q < rows.length := (List.getElem?_eq_some_iff.1 hr).1
  obtain ⟨a, rfl, _⟩ := h4 (by omega)
  have := Qt_indexAddr (P := P) (n := n) (d := dd) (ty := ty) (pos := pos) (af := af) (g := g) (K := K) (G := G) hx hi ht hs hz hj (by omega)
  simpa [elA, Addr.add_zero'] using this
/-- An element of a row of the call's own. -/
theorem Qt_ixG {t e t' : TypeId} {x i : Operand} {v : Value} {size : Nat} {k : IntKind} {j : Int} {q : Nat} {rows : List (List Value)} {r : List Value} (hx : ev env x = some v) (hi : ev env i = some (.int k j)) (ht : P.underlying t = some (.slice e))
    (hs : P.cellsOf e = size) (hz : Nat.beq size 0 = false) (hm : Ent.row v t' size rows.flatten ∈ G) (hrs : ∀ r ∈ rows, r.length = size) (hj : j = (q : Int)) (hr : rows[q]? = some r) : Qt P n ⟨dd, .indexAddr t x i, ty, pos, af, g⟩ env K G (.pointer (some ((elA v q size).add 0))) := by
  intro w a hsat ha
  have hz' : 0 < size := by rcases Nat.eq_zero_or_pos size with h0 | h0; · rw [h0] at hz; cases hz
                            · exact h0
  obtain ⟨A, c, rfl, h1, h2, h3⟩ := row_shape (hsat.g _ hm) hrs hz'
  have hlt : q < rows.length := (List.getElem?_eq_some_iff.1 hr).1
  obtain ⟨g0, rfl⟩ := h3 (by omega)
  have := Qt_indexAddr (P := P) (n := n) (d := dd) (ty := ty) (pos := pos) (af := af) (g := g) (K := K) (G := G) hx hi ht hs hz hj hlt w a hsat ha
  simpa [elA, Addr.add_zero'] using this
theorem Rdc.rowR {t : TypeId} {v : Value} {size q off : Nat} {rows : List (List Value)} {r cs : List Value} (h : Ent.row v t size rows.flatten ∈ G) (hrs : ∀ r ∈ rows, r.length = size) (hr : rows[q]? = some r) (hd : (r.drop off).take cs.length = cs) (hl : Nat.ble (off + cs.length) size = true) : Rdc K G ((elA v q size).add off) cs := by
  intro w hs j u hu
  have hz' : 0 < size ∨ cs.length = 0 := by have : off + cs.length ≤ size := by simpa [Nat.ble_eq] using hl
                                            omega
  rcases hz' with hz' | h0
  · obtain ⟨A, c, rfl, h1, h2, h3⟩ := row_shape (hs.g _ h) hrs hz'
    have hlt : q < rows.length := (List.getElem?_eq_some_iff.1 hr).1
    obtain ⟨g0, rfl⟩ := h3 (by omega)
    have hl' : off + cs.length ≤ size := by simpa [Nat.ble_eq] using hl
    have h5 := flatten_drop hrs hr
    have : (rows.flatten.drop (q * size + off)).take cs.length = cs := by
      rw [← List.drop_drop]
      conv => rhs; rw [← hd, ← h5]
      rw [List.drop_take, List.take_take]
      congr 1
      omega
    have h6 := Rdc.row (K := K) h this w hs j u hu
    rw [show (elA (.slice (some ⟨g0, 0, none⟩) rows.length c) q size).add off = (⟨g0, 0, none⟩ : Addr).add (q * size + off) by simp only [elA]; rw [add_add]]
    exact h6
  · rw [List.eq_nil_of_length_eq_zero h0] at hu; simp at hu

/-! ### append -/
/-- A source of cells for append or copy. -/
def Src (K : Kp) (G : List Ent) (v : Value) (m : Nat) (cs : List Value) : Prop :=
  ∀ w, SatW w K G → ∃ A c, v = .slice A m c ∧ (0 < m → ∃ a, A = some a ∧ ∀ j u, cs[j]? = some u → w.cell? (a.add j) = some u)
theorem Src.sl {v : Value} {size : Nat} {rows : List (List Value)} (h : Sl K v size rows) : Src K G v rows.length rows.flatten := by
  obtain ⟨A, k, c, rfl, rfl, _, _, hr, h4⟩ := h
  refine fun w hs => ⟨A, c, rfl, fun hk => ?_⟩
  obtain ⟨a, e, hr'⟩ := h4 hk
  exact ⟨a, e, fun j u hu => hr'.cell hs hu⟩
theorem Src.row {v : Value} {size : Nat} {t : TypeId} {rows : List (List Value)} (h : Ent.row v t size rows.flatten ∈ G) (hr : ∀ r ∈ rows, r.length = size) (hz : 0 < size) : Src K G v rows.length rows.flatten := by
  intro w hs
  obtain ⟨k, h1, h2⟩ := row_form hs h
  have hlen := flatten_length hr
  have hkr : k = rows.length := Nat.eq_of_mul_eq_mul_right hz (by rw [← h1, hlen])
  rcases h2 with ⟨h2, h3⟩ | ⟨g, cap, cur, h2, _, hg, hnc, hcm, _, htake⟩
  · exact ⟨none, 0, by rw [h2, ← hkr, h3], fun h => absurd h (by omega)⟩
  · subst h2 hkr
    exact ⟨_, _, rfl, fun _ => ⟨_, rfl, World.ownsRow.cells (w := w) (base := 0) (e := t) (size := size) ⟨h1, .inr ⟨g, _, cur, rfl, Nat.zero_le _, hg, hnc, hcm, ‹_›, htake⟩⟩ rfl⟩⟩
theorem Src.nil (K : Kp) (G : List Ent) (c : Nat) : Src K G (.slice none 0 c) 0 [] := fun _ _ => ⟨none, c, rfl, fun h => absurd h (by omega)⟩

theorem OpW_appendRow {t e : TypeId} {s x : Operand} {v u : Value} {k size bytes : Nat} {i : TypeInfo} {z : Value} {rows : List (List Value)} (nrows : List (List Value)) (hlt : Nat.blt d n = true)
    (hx : ev env s = some v) (hy : ev env x = some u) (hm : Ent.row v e size rows.flatten ∈ G) (hrs : ∀ r ∈ rows, r.length = size) (hsrc : Src K G u k nrows.flatten) (hl : nrows.length = k) (hnr : ∀ r ∈ nrows, r.length = size)
    (ht : P.underlying t = some (.slice e)) (hi : P.info? e = some i) (hz : i.zero = some z) (hsize : i.size = size) (hby : i.bytes = bytes) (hzs : Nat.beq z.cells.size size = true) (hsz : Nat.blt 0 size = true)
    (h1 : ∀ y ∈ nrows.flatten, y.oneCell' = true) (h63 : rows.length + k ≤ 9223372036854775807) (hbytes : (rows.length + k) * bytes ≤ 140737488355328)
    (h : ∀ s', ∃ G', Upd G (.row v e size rows.flatten) (.row (sv s') e size (rows ++ nrows).flatten) G' ∧ R ((d, sv s') :: env) K G') :
    OpW P n ⟨some d, .call { callee := .builtin .append, args := #[s, x], argTypes := #[t, t] }, ty, pos, af, g⟩ env K G R :=
  fun E w a hs ha next Q hk => by
    have hzs' : z.cells.size = size := Nat.eq_of_beq_eq_true hzs
    have hsz' : 0 < size := lt_of_blt hsz
    have hfl := flatten_length hnr
    have hfr := flatten_length hrs
    rw [hl] at hfl
    have h63' : rows.length + k ≤ maxLen := by simpa [maxLen] using h63
    obtain ⟨B, c2, rfl, hr⟩ := hsrc w hs.toSatW
    obtain ⟨m, hown⟩ := hs.g _ hm
    have hmr : m = rows.length := Nat.eq_of_mul_eq_mul_right hsz' (by rw [← hown.1, hfr])
    subst hmr
    have key : ∃ v' w', (Builtin.append_ #[t, t] ty #[v, .slice B k c2]).run P w = .ok v' w' ∧ w'.ownsRow 0 e size v' (rows.length + k) (rows ++ nrows).flatten ∧ w.grownBy w' v.ownBlock ∧
        (v'.ownBlock = v.ownBlock ∨ v'.ownBlock = some w.heap.size) := by
      rw [List.flatten_append]
      cases B with
      | none =>
        have hk0 : k = 0 := by
          rcases Nat.eq_zero_or_pos k with h0 | h0
          · exact h0
          · obtain ⟨a, h, _⟩ := hr h0; cases h
        subst hk0
        have hn : nrows.flatten = [] := List.eq_nil_of_length_eq_zero (by simpa using hfl)
        refine ⟨v, w, ?_, by simpa [hn] using hown, World.grownBy.refl w _, .inl rfl⟩
        rcases hown.2 with ⟨rfl, h3⟩ | ⟨g, cap, cur, rfl, _, _, hnc, _⟩
        · simp [Builtin.append_, run_underlying ht, sizeOf, typeInfo, hi, Builtin.lenOf, Builtin.firstCells]
        · simp [Builtin.append_, run_underlying ht, sizeOf, typeInfo, hi, Builtin.lenOf, Builtin.firstCells, hnc, storeCells]
      | some ad =>
        have hcells : ∀ j y, nrows.flatten[j]? = some y → w.cell? (ad.add j) = some y := by
          intro j y hy'
          rcases Nat.eq_zero_or_pos k with h0 | h0
          · subst h0
            have hn : nrows.flatten = [] := List.eq_nil_of_length_eq_zero (by simpa using hfl)
            rw [hn] at hy'
            simp at hy'
          · obtain ⟨a', h', hc⟩ := hr h0
            cases h'
            exact hc j y hy'
        obtain ⟨v', w', h2, h3, h4, _, h5⟩ := run_append_own_at (P := P) w 0 t ty e i z size bytes ht hi hz hsize hby hzs' hsz' v rows.length rows.flatten hown ad k c2 nrows.flatten hfl hcells h1 h63' hbytes (Nat.zero_le _)
        exact ⟨v', w', h2, h3, h4, h5⟩
    obtain ⟨v', w', hrun, hown', hgr, hat⟩ := key
    obtain ⟨s', rfl⟩ : ∃ s', v' = sv s' := by
      rcases hown'.2 with ⟨h2, _⟩ | ⟨g, cap, cur, h2, _⟩
      · exact ⟨nilS, h2⟩
      · exact ⟨⟨_, _, _⟩, h2⟩
    obtain ⟨G', hu, hR⟩ := h s'
    unfold Oper.wp
    simp only [execOp, resolve, Sem.run_bind, Sem.run_pure, Result.andThen_ok, invoke, builtin, List.map_toArray, List.map_cons, List.map_nil, ha.ev hx, ha.ev hy, hrun]
    rw [Oper.upon_value]
    have hf := hs.apart _ hm
    refine hk _ _ _ _ _ (Kp.le_refl K) (hs.upd hu hgr.os hgr.tape hgr.output (fun b hb hne => hgr.block b hb (fun e => hne (by simp [Ent.own, ← e]))) ⟨_, hown'⟩ (fun b hb => ?_) ?_ (fun b hb => ?_) (row_off hf)) (ha.put (lt_of_blt hlt) _) hR
    · simp only [Ent.own, Option.mem_toList] at hb ⊢
      rcases hat with h2 | h2
      · exact .inl (h2 ▸ hb)
      · right
        rw [h2] at hb; cases hb; exact Nat.le_refl _
    · simp only [Ent.own]; cases (sv s').ownBlock <;> simp
    · rcases hat with h2 | h2
      · exact hf b (h2 ▸ hb)
      · rw [h2] at hb; cases hb; exact Ent.free_new hs.toSatW (Nat.le_refl _) 0

theorem run_append_tok {w : World} (t ty e : TypeId) (i : TypeInfo) (z : Value) (size bytes : Nat) (ht : P.underlying t = some (.slice e)) (hi : P.info? e = some i) (hz : i.zero = some z)
    (hsize : i.size = size) (hby : i.bytes = bytes) (hzs : z.cells.size = size) (hsz : 0 < size) (v : Value) (m : Nat) (xs : List Value) (hown : w.ownsRow 0 e size v m xs)
    (a : Addr) (k c : Nat) (news : List Value) (hl : news.length = k * size) (hnews : ∀ j u, news[j]? = some u → w.cell? (a.add j) = some u) (h1 : ∀ u ∈ news, u.oneCell' = true)
    (h63 : m + k ≤ maxLen) (hbytes : (m + k) * bytes ≤ 140737488355328) :
    ∃ v' w', (Builtin.append_ #[t, t] ty #[v, .slice (some a) k c]).run P w = .ok v' w' ∧ w'.ownsRow 0 e size v' (m + k) (xs ++ news) ∧
      ((v'.ownBlock = v.ownBlock ∧ w.grownBy w' v.ownBlock) ∨ (v'.ownBlock = some w.heap.size ∧ w.grownBy w' none)) := by
  obtain ⟨v', w', hr, ho, hg, _, hat⟩ := run_append_own_at (P := P) w 0 t ty e i z size bytes ht hi hz hsize hby hzs hsz v m xs hown a k c news hl hnews h1 h63 hbytes (Nat.zero_le _)
  refine ⟨v', w', hr, ho, ?_⟩
  rcases hat with h2 | h2
  · exact .inl ⟨h2, hg⟩
  · right
    refine ⟨h2, ?_⟩
    -- the run again, by its arms: a new block leaves all old ones
    rcases hown.2 with ⟨rfl, rfl⟩ | ⟨g, cap, cur, rfl, _, hgb, hnc, hcm, hcs, htake⟩
    · exact hg
    · subst hsize hby
      have hs63 : m + k ≤ 9223372036854775807 := by simp only [maxLen] at h63; omega
      by_cases hroom : m + k ≤ cap
      · have hfit : m * i.size + news.length ≤ cur.size := by rw [hl, hcs, ← Nat.add_mul]; exact Nat.mul_le_mul_right _ hroom
        have hr2 := run_append_room (P := P) w t ty e i ht hi g m cap cur hgb a k c news hl hnews h1 hroom hfit
        rw [hr2] at hr
        cases hr
        have : g = w.heap.size := by simpa [Value.ownBlock] using h2
        have := lt_of_some hgb
        omega
      · have holds : ∀ j u, xs[j]? = some u → w.cell? ((⟨g, 0, none⟩ : Addr).add j) = some u := hown.cells (g := g) rfl
        have hr2 := run_append_grow (P := P) w t ty e i z ht hi hz ⟨g, 0, none⟩ m cap xs hown.1 holds a k c news hl hnews (by omega) (by omega) (growslice_fits (by omega) hbytes)
        rw [hr2] at hr
        cases hr
        exact ⟨rfl, rfl, rfl, by simp, fun b hb _ => by show (w.heap.push _)[b]? = _; rw [Array.getElem?_push, if_neg (Nat.ne_of_lt hb)]⟩

theorem tok_nodup {vs : List Value} {q : Nat} {v v' : Value} (hq : vs[q]? = some v) (hn : (vs.filterMap Value.ownBlock).Nodup) (h : ∀ b, v'.ownBlock = some b → v.ownBlock = some b ∨ b ∉ vs.filterMap Value.ownBlock) : ((vs.set q v').filterMap Value.ownBlock).Nodup ∧ ∀ b ∈ (vs.set q v').filterMap Value.ownBlock, b ∈ vs.filterMap Value.ownBlock ∨ v'.ownBlock = some b := by
  have hlt : q < vs.length := (List.getElem?_eq_some_iff.1 hq).1
  have hcut : vs = vs.take q ++ v :: vs.drop (q + 1) := by
    rw [← List.take_append_drop q vs]
    congr 1
    · rw [List.take_append_drop]
    · rw [List.take_append_drop, List.drop_eq_getElem_cons hlt]
      congr 1
      have := (List.getElem?_eq_some_iff.1 hq).2
      exact this
  have hset : vs.set q v' = vs.take q ++ v' :: vs.drop (q + 1) := by rw [List.set_eq_take_append_cons_drop, if_pos hlt]
  rw [hset]
  have hn0 := hn
  rw [hcut] at hn
  simp only [List.filterMap_append, List.filterMap_cons] at hn ⊢
  have hmem : ∀ b, b ∈ (vs.take q).filterMap Value.ownBlock ∨ b ∈ (vs.drop (q + 1)).filterMap Value.ownBlock → b ∈ vs.filterMap Value.ownBlock := fun b hb => by
    conv => rw [hcut]
    simp only [List.filterMap_append, List.filterMap_cons, List.mem_append]
    rcases hb with hb | hb
    · exact .inl hb
    · right
      cases v.ownBlock with
      | none => exact hb
      | some c => exact .tail _ hb
  cases hv' : v'.ownBlock with
  | none =>
    refine ⟨?_, fun b hb => ?_⟩
    · cases hv : v.ownBlock with
      | none => simpa [hv] using hn
      | some c =>
        rw [hv] at hn
        exact hn.sublist ((List.Sublist.refl _).append (List.sublist_cons_self _ _))
    · simp only [List.mem_append] at hb
      exact .inl (hmem b hb)
  | some c =>
    refine ⟨?_, fun b hb => ?_⟩
    · rcases h c hv' with h1 | h1
      · rw [h1] at hn; exact hn
      · have hc : c ∉ (vs.take q).filterMap Value.ownBlock ∧ c ∉ (vs.drop (q + 1)).filterMap Value.ownBlock := ⟨fun hh => h1 (hmem c (.inl hh)), fun hh => h1 (hmem c (.inr hh))⟩
        have hn2 : ((vs.take q).filterMap Value.ownBlock ++ (vs.drop (q + 1)).filterMap Value.ownBlock).Nodup := by
          cases hv : v.ownBlock with
          | none => simpa [hv] using hn
          | some c =>
            rw [hv] at hn
            exact hn.sublist ((List.Sublist.refl _).append (List.sublist_cons_self _ _))
        obtain ⟨n1, n2, n3⟩ := List.nodup_append.1 hn2
        refine List.nodup_append.2 ⟨n1, List.nodup_cons.2 ⟨hc.2, n2⟩, fun x hx y hy e => ?_⟩
        rcases List.mem_cons.1 hy with rfl | hy
        · exact hc.1 (e ▸ hx)
        · exact n3 x hx y hy e
    · simp only [List.mem_append, List.mem_cons] at hb
      rcases hb with hb | rfl | hb
      · exact .inl (hmem b (.inl hb))
      · exact .inr rfl
      · exact .inl (hmem b (.inr hb))

/-- An append onto a settled slice whose room is the call's own: what comes back is settled at once. -/
theorem OpW_appendTok {t e : TypeId} {s x : Operand} {v u : Value} {k q size bytes : Nat} {i : TypeInfo} {z : Value} {vs : List Value} {rows : List (List Value)} (nrows : List (List Value)) (hlt : Nat.blt d n = true)
    (hx : ev env s = some v) (hy : ev env x = some u) (hsl : Sl K v size rows) (hq : vs[q]? = some v) (hm : Ent.tok e size vs ∈ G) (hsrc : Src K G u k nrows.flatten) (hl : nrows.length = k) (hnr : ∀ r ∈ nrows, r.length = size)
    (ht : P.underlying t = some (.slice e)) (hi : P.info? e = some i) (hz : i.zero = some z) (hsize : i.size = size) (hby : i.bytes = bytes) (hzs : Nat.beq z.cells.size size = true) (hsz : Nat.blt 0 size = true)
    (h1 : ∀ y ∈ nrows.flatten, y.oneCell' = true) (h63 : rows.length + k ≤ 9223372036854775807) (hbytes : (rows.length + k) * bytes ≤ 140737488355328)
    (h : ∀ s' K', K.le K' → Sl K' (sv s') size (rows ++ nrows) → ∃ G', Upd G (.tok e size vs) (.tok e size (vs.set q (sv s'))) G' ∧ R ((d, sv s') :: env) K' G') :
    OpW P n ⟨some d, .call { callee := .builtin .append, args := #[s, x], argTypes := #[t, t] }, ty, pos, af, g⟩ env K G R :=
  fun E w a hs ha next Q hk => by
    have hzs' : z.cells.size = size := Nat.eq_of_beq_eq_true hzs
    have hsz' : 0 < size := lt_of_blt hsz
    have hfl := flatten_length hnr
    rw [hl] at hfl
    obtain ⟨B, c2, rfl, hr⟩ := hsrc w hs.toSatW
    obtain ⟨m, xs, hown⟩ := hs.g _ hm v (List.mem_of_getElem? hq)
    -- the row's cells are the settled ones
    have hmr : m = rows.length ∧ xs = rows.flatten := by
      obtain ⟨A, m0, c0, rfl, h2, _, _, h4, h5⟩ := id hsl
      have hfr := flatten_length h4
      rcases hown.2 with ⟨h6, h7⟩ | ⟨g0, cap, cur, h6, _, hg0, _, _, _, htake⟩
      · cases h6
        subst h7
        have h0 : rows = [] := List.eq_nil_of_length_eq_zero h2.symm
        subst h0
        exact ⟨rfl, List.eq_nil_of_length_eq_zero (by simpa using hown.1)⟩
      · cases h6
        refine ⟨h2, ?_⟩
        apply List.ext_getElem?
        intro j
        by_cases hj : j < m * size
        · have hj2 : j < rows.flatten.length := by rw [hfr, ← h2]; exact hj
          obtain ⟨a0, e0, hka⟩ := h5 (by
            rcases Nat.eq_zero_or_pos m with h0 | h0
            · rw [h0] at hj; simp at hj
            · exact h0)
          cases e0
          have h8 := hka.cell hs.toSatW (List.getElem?_eq_getElem hj2)
          have h9 : w.cell? ((⟨g0, 0, none⟩ : Addr).add j) = cur[j]? := by rw [add_lit, cell_of_row w g0 _ _ e (0, 0) hg0]; simp
          rw [h9] at h8
          rw [List.getElem?_eq_getElem hj2, ← htake, List.getElem?_take, if_pos hj]
          simpa using h8
        · rw [List.getElem?_eq_none (by rw [hown.1]; omega), List.getElem?_eq_none (by rw [hfr, ← h2]; omega)]
    obtain ⟨rfl, rfl⟩ := hmr
    have h63' : rows.length + k ≤ maxLen := by simpa [maxLen] using h63
    have key : ∃ v' w', (Builtin.append_ #[t, t] ty #[v, .slice B k c2]).run P w = .ok v' w' ∧ w'.ownsRow 0 e size v' (rows.length + k) (rows ++ nrows).flatten ∧
        ((v'.ownBlock = v.ownBlock ∧ w.grownBy w' v.ownBlock) ∨ (v'.ownBlock = some w.heap.size ∧ w.grownBy w' none)) := by
      rw [List.flatten_append]
      cases B with
      | none =>
        have hk0 : k = 0 := by
          rcases Nat.eq_zero_or_pos k with h0 | h0
          · exact h0
          · obtain ⟨a, h, _⟩ := hr h0; cases h
        subst hk0
        have hn : nrows.flatten = [] := List.eq_nil_of_length_eq_zero (by simpa using hfl)
        refine ⟨v, w, ?_, by simpa [hn] using hown, .inl ⟨rfl, World.grownBy.refl w _⟩⟩
        rcases hown.2 with ⟨rfl, h3⟩ | ⟨g, cap, cur, rfl, _, _, hnc, _⟩
        · simp [Builtin.append_, run_underlying ht, sizeOf, typeInfo, hi, Builtin.lenOf, Builtin.firstCells]
        · simp [Builtin.append_, run_underlying ht, sizeOf, typeInfo, hi, Builtin.lenOf, Builtin.firstCells, hnc, storeCells]
      | some ad =>
        have hcells : ∀ j y, nrows.flatten[j]? = some y → w.cell? (ad.add j) = some y := by
          intro j y hy'
          rcases Nat.eq_zero_or_pos k with h0 | h0
          · subst h0
            have hn : nrows.flatten = [] := List.eq_nil_of_length_eq_zero (by simpa using hfl)
            rw [hn] at hy'
            simp at hy'
          · obtain ⟨a', h', hc⟩ := hr h0
            cases h'
            exact hc j y hy'
        exact run_append_tok t ty e i z size bytes ht hi hz hsize hby hzs' hsz' v rows.length rows.flatten hown ad k c2 nrows.flatten hfl hcells h1 h63' hbytes
    obtain ⟨v', w', hrun, hown', hat⟩ := key
    have hgr : w.grownBy w' v.ownBlock := by
      rcases hat with ⟨_, h2⟩ | ⟨_, h2⟩
      · exact h2
      · exact ⟨h2.os, h2.tape, h2.output, h2.size, fun b hb _ => h2.block b hb (by simp)⟩
    have hrs : ∀ r ∈ rows ++ nrows, r.length = size := fun r hr' => by
      obtain ⟨_, _, _, _, _, _, _, h4, _⟩ := hsl
      rcases List.mem_append.1 hr' with hr' | hr'
      · exact h4 r hr'
      · exact hnr r hr'
    have hfr : rows.flatten.length = rows.length * size := flatten_length fun r hr' => hrs r (List.mem_append_left _ hr')
    have hfree0 := hs.apart _ hm
    have hvoff : ∀ A n' c', v = .slice (some A) n' c' → n' = rows.length ∧ K.off A.block (rows.length * size) := fun A n' c' e' => by
      have h2 := hfree0 v (List.mem_of_getElem? hq) A n' c' e'
      obtain ⟨A0, m0, c0, e0, h3, _⟩ := hsl
      rw [e'] at e0; cases e0
      exact ⟨h3, h3 ▸ h2⟩
    have hnd := hs.nodup
    -- where the new slice lies
    have hform : v' = .slice none 0 0 ∧ rows ++ nrows = [] ∨ ∃ (g0 c' : Nat) (cur' : Array Value), v' = .slice (some ⟨g0, 0, none⟩) (rows ++ nrows).length c' ∧ w'.heap[g0]? = some (.cells cur' e (0, 0)) ∧ (rows ++ nrows).length ≤ c' ∧ c' ≤ maxLen ∧ ∀ (j : Nat) (y : Value), (rows ++ nrows).flatten[j]? = some y → cur'[j]? = some y := by
      have hll : rows.length + k = (rows ++ nrows).length := by rw [List.length_append, hl]
      rcases hown'.2 with ⟨h2, h3⟩ | ⟨g0, cap, cur', h2, _, hg0, hnc, hcm, _, htake⟩
      · exact .inl ⟨h2, List.eq_nil_of_length_eq_zero (by omega)⟩
      · refine .inr ⟨g0, cap, cur', by rw [h2, hll], hg0, by omega, hcm, fun j y hj => ?_⟩
        rw [← htake, List.getElem?_take] at hj
        split at hj
        · simpa using hj
        · cases hj
    obtain ⟨K', hle, hsl', hko, hoth, hsame, hoff'⟩ : ∃ K', K.le K' ∧ Sl K' v' size (rows ++ nrows) ∧ K'.o = K.o ∧ (∀ b, v'.ownBlock ≠ some b → ∀ j, K'.c b j = K.c b j) ∧
        (∀ b, v'.ownBlock = some b → ∀ j y, K'.c b j = some y → ∃ cs t fr, w'.heap[b]? = some (.cells cs t fr) ∧ cs[j]? = some y) ∧ (∀ A n' c', v' = .slice (some A) n' c' → K'.off A.block (n' * size)) := by
      rcases hform with ⟨h2, h3⟩ | ⟨g0, c', cur', h2, hg0, hnc, hcm, hcur⟩
      · subst h2
        refine ⟨K, Kp.le_refl K, ?_, rfl, fun _ _ _ => rfl, fun b hb => (by cases hb), fun A n' c' e' => (by cases e')⟩
        rw [h3]
        exact Sl.nil K size
      · subst h2
        have hll : rows.length + k = (rows ++ nrows).length := by rw [List.length_append, hl]
        have hfl2 := flatten_length hrs
        -- what was settled in that block before
        have hold : ∀ j y, K.c g0 j = some y → (rows ++ nrows).flatten[j]? = some y := by
          intro j y hj
          rcases hat with ⟨h3, _⟩ | ⟨h3, _⟩
          · -- the same block: the old cells
            obtain ⟨A0, m0, c0, e0, h4, _, _, h4r, h5⟩ := id hsl
            subst e0
            cases A0 with
            | none => simp [Value.ownBlock] at h3
            | some a0 =>
              have h6 : a0.block = g0 := by simpa [Value.ownBlock, eq_comm] using h3
              have h7 := (hvoff a0 m0 c0 rfl).2
              rw [h6] at h7
              have hjl : j < rows.length * size := by
                rcases Nat.lt_or_ge j (rows.length * size) with h8 | h8
                · exact h8
                · rw [h7.2 j h8] at hj; cases hj
              rcases hown.2 with ⟨h8, _⟩ | ⟨g1, cap, cur, h8, _, hg1, _, _, _, htake⟩
              · cases h8
              · cases h8
                have h6' : g1 = g0 := h6
                subst h6'
                obtain ⟨cs, t1, fr, h9, h10⟩ := hs.k _ _ _ hj
                rw [hg1] at h9
                cases h9
                rw [List.flatten_append, List.getElem?_append_left (by rw [hfr]; exact hjl), ← htake, List.getElem?_take, if_pos hjl]
                simpa using h10
          · have : g0 = w.heap.size := by simpa [Value.ownBlock] using h3
            obtain ⟨cs, t1, fr, h9, _⟩ := hs.k _ _ _ hj
            have := lt_of_some h9
            omega
        have hko0 : K.o g0 = none := by
          rcases hat with ⟨h3, _⟩ | ⟨h3, _⟩
          · cases hv : v with
            | slice A0 m0 c0 =>
              subst hv
              cases A0 with
              | none => simp [Value.ownBlock] at h3
              | some a0 =>
                have h6 : a0.block = g0 := by simpa [Value.ownBlock, eq_comm] using h3
                have h7 := (hvoff a0 m0 c0 rfl).2
                rw [h6] at h7
                exact h7.1
            | _ => subst hv; simp [Value.ownBlock] at h3
          · have : g0 = w.heap.size := by simpa [Value.ownBlock] using h3
            cases hk : K.o g0 with
            | none => rfl
            | some o => have := lt_of_some (hs.ko _ _ hk); omega
        refine ⟨K.add g0 (rows ++ nrows).flatten, Kp.le_add fun j y y' h3 h4 => ?_, ⟨some ⟨g0, 0, none⟩, _, c', rfl, rfl, by omega, hnc, hrs, fun _ => ⟨_, rfl, fun j y hj => ?_⟩⟩, rfl, fun b hb j => ?_, fun b hb j y hj => ?_, fun A n' c'' e' => ?_⟩
        · have := hold j y' h4
          rw [h3] at this; cases this; rfl
        · rw [add_lit]
          exact ⟨rfl, by rw [Nat.zero_add]; exact Kp.add_same hj⟩
        · exact Kp.add_other (fun e' => hb (by simp [Value.ownBlock, e']))
        · have hbg : b = g0 := by simpa [Value.ownBlock, eq_comm] using hb
          subst hbg
          refine ⟨cur', e, (0, 0), hg0, ?_⟩
          cases h3 : (rows ++ nrows).flatten[j]? with
          | some y' => rw [Kp.add_same h3] at hj; cases hj; exact hcur j _ h3
          | none =>
            rw [Kp.add_beyond (List.getElem?_eq_none_iff.1 h3)] at hj
            rw [hold j y hj] at h3; cases h3
        · cases e'
          refine ⟨hko0, fun j hj => ?_⟩
          show (K.add g0 (rows ++ nrows).flatten).c g0 j = none
          rw [Kp.add_beyond (by rw [hfl2]; exact hj)]
          cases h4 : K.c g0 j with
          | none => rfl
          | some y =>
            have h5 := (List.getElem?_eq_some_iff.1 (hold j y h4)).1
            omega
    obtain ⟨s', hs'⟩ : ∃ s', v' = sv s' := by
      rcases hown'.2 with ⟨h2, _⟩ | ⟨g, cap, cur, h2, _⟩
      · exact ⟨nilS, h2⟩
      · exact ⟨⟨_, _, _⟩, h2⟩
    obtain ⟨G', hu, hR⟩ := h s' K' hle (hs' ▸ hsl')
    rw [← hs'] at hu hR
    unfold Oper.wp
    simp only [execOp, resolve, Sem.run_bind, Sem.run_pure, Result.andThen_ok, invoke, builtin, List.map_toArray, List.map_cons, List.map_nil, ha.ev hx, ha.ev hy, hrun]
    rw [Oper.upon_value]
    refine hk _ _ _ _ _ hle ?_ (ha.put (lt_of_blt hlt) _) hR
    obtain ⟨R1, hp1, hp2⟩ := hu.perms
    have hs1 := hs.perm hp1
    have hn1 := hs1.nodup
    rw [List.flatMap_cons] at hn1
    have hnv := (List.nodup_append.1 hn1).1
    have hnew : ∀ b, v'.ownBlock = some b → v.ownBlock = some b ∨ b ∉ vs.filterMap Value.ownBlock := fun b hb => by
      rcases hat with ⟨h3, _⟩ | ⟨h3, _⟩
      · exact .inl (h3 ▸ hb)
      · right
        rw [h3] at hb; cases hb
        intro hmem
        have := Ent.lt (hs1.g _ (.head _)) (b := w.heap.size) hmem
        omega
    obtain ⟨hnd', hmem'⟩ := tok_nodup hq hnv hnew
    have hvmem : ∀ b, v.ownBlock = some b → b ∈ vs.filterMap Value.ownBlock := fun b hb => List.mem_filterMap.2 ⟨v, List.mem_of_getElem? hq, hb⟩
    have hqlt : q < vs.length := (List.getElem?_eq_some_iff.1 hq).1
    have hv'mem : ∀ b, v'.ownBlock = some b → b ∈ (vs.set q v').filterMap Value.ownBlock := fun b hb => List.mem_filterMap.2 ⟨v', List.mem_of_getElem? (i := q) (by simp [hqlt]), hb⟩
    -- two members in one block are one
    have huniq : ∀ j y b, vs[j]? = some y → y.ownBlock = some b → v.ownBlock = some b → j = q := by
      intro j y b hj hy1 hv1
      have key : ∀ (l : List Value) (i j : Nat) (y v : Value) (b : Nat), (l.filterMap Value.ownBlock).Nodup → l[i]? = some y → l[j]? = some v → y.ownBlock = some b → v.ownBlock = some b → i = j := by
        intro l
        induction l with
        | nil => intro i j y v b _ hi; simp at hi
        | cons x l ih =>
          intro i j y v b hn hi hj hy hv
          cases i with
          | zero =>
            simp at hi; subst hi
            cases j with
            | zero => rfl
            | succ j =>
              rw [List.filterMap_cons_some hy] at hn
              exact absurd (List.mem_filterMap.2 ⟨v, List.mem_of_getElem? (by simpa using hj), hv⟩) (List.nodup_cons.1 hn).1
          | succ i =>
            cases j with
            | zero =>
              simp at hj; subst hj
              rw [List.filterMap_cons_some hv] at hn
              exact absurd (List.mem_filterMap.2 ⟨y, List.mem_of_getElem? (by simpa using hi), hy⟩) (List.nodup_cons.1 hn).1
            | succ j =>
              have hn' : (l.filterMap Value.ownBlock).Nodup := by
                cases hx : x.ownBlock with
                | none => rwa [List.filterMap_cons_none hx] at hn
                | some c => rw [List.filterMap_cons_some hx] at hn; exact (List.nodup_cons.1 hn).2
              rw [ih i j y v b hn' (by simpa using hi) (by simpa using hj) hy hv]
      exact key vs j q y v b hnv hj hq hy1 hv1
    refine (Sat.upd1 (e' := .tok e size (vs.set q v')) hs1 hgr.os hgr.tape hgr.output (fun b hb hne => hgr.block b hb (fun e' => hne (hvmem b e'.symm))) hko (fun b hb j => hoth b (fun e' => hb (hv'mem b e')) j) (fun b hb j y hj => ?_) (fun b hb hb' j y hj => ?_) ?_ ?_ (fun b hb => ?_) hnd').perm hp2.symm
    · -- settled cells of the entry's blocks
      by_cases hbv : v'.ownBlock = some b
      · exact hsame b hbv j y hj
      · rw [hoth b hbv] at hj
        obtain ⟨cs, t1, fr, h3, h4⟩ := hs1.k b j y hj
        refine ⟨cs, t1, fr, ?_, h4⟩
        have hblt := lt_of_some h3
        refine (?_ : w'.heap[b]? = w.heap[b]?).trans h3
        rcases hat with ⟨h5, h6⟩ | ⟨h5, h6⟩
        · exact h6.block b hblt (fun e' => hbv (by rw [h5, e']))
        · exact h6.block b hblt (by simp)
    · obtain ⟨cs, t1, fr, h3, h4⟩ := hs1.k b j y hj
      refine ⟨cs, t1, fr, ?_, h4⟩
      have hblt := lt_of_some h3
      refine (?_ : w'.heap[b]? = w.heap[b]?).trans h3
      rcases hat with ⟨h5, h6⟩ | ⟨h5, h6⟩
      · refine h6.block b hblt (fun e' => hb' (hv'mem b (by rw [h5, e'])))
      · exact h6.block b hblt (by simp)
    · -- it holds
      intro y hy1
      rcases List.mem_or_eq_of_mem_set hy1 with hy2 | rfl
      · obtain ⟨j, hj1⟩ := List.mem_iff_getElem?.1 hy1
        obtain ⟨m1, xs1, ho1⟩ := hs1.g _ (.head _) y hy2
        by_cases hyv : y = v'
        · subst hyv; exact ⟨_, _, hown'⟩
        · have hjq : j ≠ q := fun e' => by
            subst e'
            rw [List.getElem?_set_self hqlt] at hj1
            cases hj1; exact hyv rfl
          rw [List.getElem?_set_ne (Ne.symm hjq)] at hj1
          refine ⟨m1, xs1, ownsRow_of ho1 fun b hb => ?_⟩
          have hblt := (ho1.lt b hb).2
          exact hgr.block b hblt (fun e' => hjq (huniq j y b hj1 hb e'.symm))
      · exact ⟨_, _, hown'⟩
    · intro y hy1 A n' c' e'
      by_cases hyv : y = v'
      · subst hyv; exact hoff' A n' c' e'
      · obtain ⟨j, hj1⟩ := List.mem_iff_getElem?.1 hy1
        have hjq : j ≠ q := fun e2 => by
          subst e2
          rw [List.getElem?_set_self hqlt] at hj1
          cases hj1; exact hyv rfl
        have hj2 := hj1
        rw [List.getElem?_set_ne (Ne.symm hjq)] at hj2
        have h3 := hs1.apart _ (.head _) y (List.mem_of_getElem? hj2) A n' c' e'
        refine ⟨by rw [hko]; exact h3.1, fun i hi => ?_⟩
        rw [hoth A.block (fun e2 => ?_)]
        · exact h3.2 i hi
        · -- the same block as v': not among the others
          have hyo : y.ownBlock = some A.block := by rw [e']; rfl
          rcases hnew A.block e2 with h4 | h4
          · exact hjq (huniq j y _ hj2 hyo h4)
          · exact h4 (List.mem_filterMap.2 ⟨y, List.mem_of_getElem? hj2, hyo⟩)
    · rcases hmem' b hb with h3 | h3
      · exact .inl h3
      · rcases hat with ⟨h5, _⟩ | ⟨h5, _⟩
        · exact .inl (hvmem b (h5 ▸ h3))
        · rw [h5] at h3; cases h3; exact .inr (Nat.le_refl _)

/-! ### make -/
theorem made_list (z : Array Value) (size : Nat) (hs : z.size = size) (hpos : 0 < size) : ∀ m, (madeCells z (m * size)).toList = (List.replicate m z.toList).flatten := by
  intro m
  apply List.ext_getElem?
  intro j
  have hall : ∀ r ∈ List.replicate m z.toList, r.length = size := fun r hr => by rw [(List.mem_replicate.1 hr).2]; simpa using hs
  by_cases hj : j < m * size
  · have h1 : (madeCells z (m * size)).toList[j]? = some (z[j % z.size]!) := by simp [madeCells, hj]
    rw [h1]
    have hq : j / size < m := Nat.div_lt_of_lt_mul (by rw [Nat.mul_comm]; exact hj)
    have hrow : (List.replicate m z.toList)[j / size]? = some z.toList := by simp [hq]
    have h2 := flatten_drop hall hrow
    have hmod : j % size < size := Nat.mod_lt _ hpos
    have h3 : (((List.replicate m z.toList).flatten.drop (j / size * size)).take size)[j % size]? = z.toList[j % size]? := by rw [h2]
    rw [List.getElem?_take, if_pos hmod, List.getElem?_drop, show j / size * size + j % size = j by have := Nat.div_add_mod j size; rw [Nat.mul_comm] at this; exact this] at h3
    rw [h3, hs]
    have : j % size < z.size := by omega
    simp [getElem!_pos, this]
  · have h1 : (madeCells z (m * size)).toList.length = m * size := by simp [madeCells]
    have h2 : (List.replicate m z.toList).flatten.length = m * size := by
      rw [flatten_length hall]
      simp
    rw [List.getElem?_eq_none (by omega), List.getElem?_eq_none (by omega)]
theorem OpW_make {t e : TypeId} {lo co : Operand} {kl kc : IntKind} {m size bytes : Nat} {i : TypeInfo} {z : Value} {ml mc : Int} {r : List Value} (hlt : Nat.blt d n = true) (hl : ev env lo = some (.int kl ml)) (hc : ev env co = some (.int kc mc)) (hml : ml = (m : Int)) (hmc : mc = (m : Int))
    (ht : P.underlying t = some (.slice e)) (hi : P.info? e = some i) (hz : i.zero = some z) (hsize : i.size = size) (hby : i.bytes = bytes) (hzs : Nat.beq z.cells.size size = true) (hpos : Nat.blt 0 size = true) (hr : z.cells.toList = r) (hbytes : bytes * m ≤ 281474976710656) (h63 : m ≤ 9223372036854775807)
    (h : ∀ s, R ((d, sv s) :: env) K (.row (sv s) e size (List.replicate m r).flatten :: G)) :
    OpW P n ⟨some d, .makeSlice t lo co, ty, pos, af, g⟩ env K G R := fun E w a hs ha next Q hk => by
  subst hml hmc hr
  subst hsize
  have hzs' := Nat.eq_of_beq_eq_true hzs
  have hb' : (i.bytes : Int) * (m : Int) ≤ 281474976710656 := by
    have h : ((i.bytes * m : Nat) : Int) ≤ 281474976710656 := by rw [hby]; omega
    rwa [Int.natCast_mul] at h
  have h63' : (m : Int) ≤ 9223372036854775807 := by omega
  have h63m : m ≤ maxLen := by simpa [maxLen] using h63
  have hr := run_make (P := P) w t e i z ht hi hz kl kc m m (by omega) (Int.le_refl _) hb' h63'
  simp only [Int.toNat_natCast] at hr
  unfold Oper.wp
  simp only [execOp, ha.ev hl, ha.ev hc, Sem.run_bind, Sem.run_pure, Result.andThen_ok, hr]
  rw [Oper.upon_value]
  refine hk _ _ _ _ _ (Kp.le_refl K) (hs.new (e := .row (.slice (some ⟨w.heap.size, 0, none⟩) m m) e i.size (List.replicate m z.cells.toList).flatten) ⟨m, ?_⟩ rfl (fun b hb => ?_)) (ha.put (lt_of_blt hlt) _) (h ⟨some ⟨w.heap.size, 0, none⟩, m, m⟩)
  · have := World.ownsRow_lit (base := 0) (e := e) (size := i.size) w (madeCells z.cells (m * i.size)) m (Nat.zero_le _) h63m (size_madeCells _ _)
    rwa [made_list z.cells i.size hzs' (lt_of_blt hpos)] at this
  · cases hb; exact Ent.free_new hs.toSatW (Nat.le_refl _) 0

/-! ### slice expressions -/
theorem Qt_slice_h {t e : TypeId} {x hi : Operand} {A : Option Addr} {m c q : Nat} {k : IntKind} {j : Int} {mx : Option Operand} (hx : ev env x = some (.slice A m c)) (hh : ev env hi = some (.int k j)) (ht : P.underlying t = some (.slice e)) (hsz : (P.info? e).isSome = true)
    (hmx : mx = none) (hj : j = (q : Int)) (hq : q ≤ c) : Qt P n ⟨dd, .slice t x none (some hi) mx, ty, pos, af, g⟩ env K G (.slice A q c) := fun w a _ ha => by
  subst hmx hj
  obtain ⟨i, hi'⟩ := Option.isSome_iff_exists.1 hsz
  cases A <;> simp [execOp, ha.ev hx, ha.ev hh, Instr.sliceAt, run_und ht, Instr.slice, Instr.sliceBounds, Instr.sliceBound, asIntOf, hq, sizeOf, typeInfo, hi', Addr.add]
/-- The value of 's[lo:hi]'. -/
def slCut (A : Option Addr) (c size lo hi : Nat) : Value := .slice (if c = lo then A else A.map (·.add (lo * size))) (hi - lo) (c - lo)
theorem Qt_slice_l {t e : TypeId} {x lo : Operand} {A : Option Addr} {m c q size : Nat} {k : IntKind} {j : Int} (hx : ev env x = some (.slice A m c)) (hh : ev env lo = some (.int k j)) (ht : P.underlying t = some (.slice e)) (hs : P.cellsOf e = size) (hz : Nat.beq size 0 = false)
    (hj : j = (q : Int)) (hq : q ≤ m) : Qt P n ⟨dd, .slice t x (some lo) none none, ty, pos, af, g⟩ env K G (slCut A c size q m) := fun w a _ ha => by
  have hz' : size ≠ 0 := fun e => by rw [e] at hz; cases hz
  subst hj
  have hr := run_size hs hz' w
  simp [execOp, ha.ev hx, ha.ev hh, Instr.sliceAt, run_und ht, Instr.slice, Instr.sliceBounds, Instr.sliceBound, asIntOf, hq, hr, slCut]
theorem Qt_slice_lh {t e : TypeId} {x lo hi : Operand} {A : Option Addr} {m c q r size : Nat} {k k' : IntKind} {j j' : Int} (hx : ev env x = some (.slice A m c)) (hh : ev env lo = some (.int k j)) (hh' : ev env hi = some (.int k' j')) (ht : P.underlying t = some (.slice e)) (hs : P.cellsOf e = size) (hz : Nat.beq size 0 = false)
    (hj : j = (q : Int)) (hj' : j' = (r : Int)) (hq : q ≤ r) (hrc : r ≤ c) : Qt P n ⟨dd, .slice t x (some lo) (some hi) none, ty, pos, af, g⟩ env K G (slCut A c size q r) := fun w a _ ha => by
  have hz' : size ≠ 0 := fun e => by rw [e] at hz; cases hz
  subst hj hj'
  have hr := run_size hs hz' w
  simp [execOp, ha.ev hx, ha.ev hh, ha.ev hh', Instr.sliceAt, run_und ht, Instr.slice, Instr.sliceBounds, Instr.sliceBound, asIntOf, hq, hrc, hr, slCut]
theorem Sl.cut {K : Kp} {A : Option Addr} {m c size lo hi : Nat} {rows : List (List Value)} (h : Sl K (.slice A m c) size rows) (h1 : lo ≤ hi) (h2 : hi ≤ m) : Sl K (slCut A c size lo hi) size ((rows.take hi).drop lo) := by
  obtain ⟨A', m', c', e, h3, h4, h5, h6, h7⟩ := h
  cases e
  have hr' : ∀ r ∈ (rows.take hi).drop lo, r.length = size := fun r hr => h6 r (List.mem_of_mem_take (List.mem_of_mem_drop hr))
  refine ⟨_, _, _, rfl, by simp; omega, by omega, by omega, hr', fun hlt => ?_⟩
  obtain ⟨a, rfl, ha⟩ := h7 (by omega)
  rw [if_neg (by omega)]
  refine ⟨_, rfl, ha.sub ?_⟩
  rw [flatten_length hr', List.length_drop, List.length_take]
  -- both sides are the rows in between
  have key : ∀ (rows : List (List Value)) (_ : ∀ r ∈ rows, r.length = size) (lo hi : Nat), lo ≤ hi → hi ≤ rows.length → (rows.flatten.drop (lo * size)).take ((hi - lo) * size) = ((rows.take hi).drop lo).flatten := by
    intro rows
    induction rows with
    | nil => intro _ lo hi _ h; simp at h; subst h; simp
    | cons r rows ih =>
      intro hrs lo hi h1 h2
      have hr := hrs r (.head _)
      cases lo with
      | succ lo =>
        cases hi with
        | zero => omega
        | succ hi =>
          simp only [List.flatten_cons, List.take_succ_cons, List.drop_succ_cons]
          have hd : (r ++ rows.flatten).drop size = rows.flatten := by rw [← hr]; simp
          rw [← ih (fun y hy => hrs y (.tail _ hy)) lo hi (by omega) (by simpa using h2), show (lo + 1) * size = size + lo * size by rw [Nat.succ_mul]; omega, ← List.drop_drop, hd, show hi + 1 - (lo + 1) = hi - lo by omega]
      | zero =>
        cases hi with
        | zero => simp
        | succ hi =>
          have := ih (fun y hy => hrs y (.tail _ hy)) 0 hi (by omega) (by simpa using h2)
          simp only [Nat.zero_mul, List.drop_zero, Nat.sub_zero] at this ⊢
          simp only [List.flatten_cons, List.take_succ_cons]
          rw [← this, Nat.succ_mul, List.take_append, hr, show hi * size + size - size = hi * size by omega, List.take_of_length_le (by rw [hr]; omega)]
  rw [show min hi rows.length - lo = hi - lo by omega]
  exact key rows h6 lo hi h1 (by omega)
end
end Go.Hx

namespace Go.Hx
open Go

/-! ### a function -/
def argEnv : Nat → List Value → Env
  | _, [] => []
  | k, v :: r => (k, v) :: argEnv (k + 1) r
theorem lk_argEnv : ∀ (l : List Value) (k t : Nat) (v : Value), lk (argEnv k l) t = some v → k ≤ t ∧ l[t - k]? = some v
  | [], k, t, v, h => by simp [argEnv, lk] at h
  | u :: r, k, t, v, h => by
    simp only [argEnv] at h
    by_cases e : k = t
    · subst e; rw [lk_hit rfl] at h; cases h; exact ⟨Nat.le_refl _, by simp⟩
    · rw [lk_miss e] at h
      obtain ⟨h1, h2⟩ := lk_argEnv r (k + 1) t v h
      refine ⟨by omega, ?_⟩
      rw [show t - k = (t - (k + 1)) + 1 by omega]
      simpa using h2

/-- One result: a slot, or a variable in memory. -/
def RetOne (P : Program) (env : Env) (K : Kp) (G : List Ent) : ResultVar → Value → Prop
  | .tmp t, v => lk env t = some v
  | .cell a t, v => ∃ A m cs, lk env a = some (.pointer (some A)) ∧ aggB P t = true ∧ P.cellsOf t = m ∧ Nat.beq m 0 = false ∧ Rdm K G A m cs ∧ v = .agg cs.toArray
def RetAll (P : Program) (env : Env) (K : Kp) (G : List Ent) : List ResultVar → List Value → Prop
  | [], vs => vs = []
  | r :: rs, vs => ∃ v us, vs = v :: us ∧ RetOne P env K G r v ∧ RetAll P env K G rs us
def mkRes : List Value → Value
  | [v] => v
  | vs => .tuple vs.toArray

def resOne (tmps : Array Value) : ResultVar → Sem Value
  | .tmp t => pure (tmps.getD t undef)
  | .cell x t => do loadVar t (← asAddr (tmps.getD x undef))
theorem results_eq (fn : Func) (tmps : Array Value) : results fn tmps = (do
    let vs ← fn.results.mapM (resOne tmps)
    pure (if h : vs.size = 1 then vs[0] else .tuple vs)) := by
  unfold results
  congr 1

theorem RetOne.run {P : Program} {n : Nat} {env : Env} {a : Act} {K : Kp} {G : List Ent} {w : World} (ha : EnvOk n env a) (hs : SatW w K G) {r : ResultVar} {v : Value} (h1 : RetOne P env K G r v) : (resOne a.tmps r).run P w = .ok v w := by
  cases r with
  | tmp t =>
    have e : a.tmps.getD t undef = v := ha.at_ t v h1
    simp only [resOne, e]; rfl
  | cell x t =>
    obtain ⟨A, m, cs, g1, g2, g3, g4, g5, rfl⟩ := h1
    have e := ha.at_ x _ g1
    obtain ⟨hm, hr⟩ := g5
    subst hm
    have hn' : cs.length ≠ 0 := fun e => by rw [e] at g4; cases g4
    have hu : (P.underlying t).isSome = true := by
      unfold aggB at g2
      cases h : P.underlying t with
      | none => simp [h] at g2
      | some _ => rfl
    have h1 := run_loadCells_list (P := P) w A cs (fun j v hv => hr w hs j v hv)
    simp only [resOne, Sem.run_bind, Sem.run_pure, Result.andThen_ok, e, asAddr, loadVar, run_isAgg' g2 hu, run_size g3 hn', h1, if_true]
theorem RetAll.run {P : Program} {n : Nat} {env : Env} {a : Act} {K : Kp} {G : List Ent} {w : World} (ha : EnvOk n env a) (hs : SatW w K G) : ∀ (rs : List ResultVar) (vs : List Value), RetAll P env K G rs vs →
    ((rs.mapM (resOne a.tmps)) : Sem (List Value)).run P w = .ok vs w
  | [], vs, h => by simp only [RetAll] at h; subst h; simp
  | r :: rs, vs, h => by
    obtain ⟨v, us, rfl, h1, h2⟩ := h
    have ih := RetAll.run ha hs rs us h2
    rw [List.mapM_cons]
    simp only [Sem.run_bind, h1.run ha hs, Sem.run_pure, Result.andThen_ok, ih]

def retQ (P : Program) (rs : List ResultVar) (Q : Value → Kp → List Ent → Prop) : Post := fun ex env K G => (ex = .ret ∨ ex = .normal) ∧ ∃ vs G2, RetAll P env K G rs vs ∧ G2.Sublist G ∧ Q (mkRes vs) K G2

theorem Fc_of {P : Program} {f : FuncId} {fn : Func} {c : Code} {n : Nat} {args : Array Value} {K : Kp} {G : List Ent} {Q : Value → Kp → List Ent → Prop} {rs : Array ResultVar}
    (hf : P.funcs[f]? = some fn) (hb : fn.body = some c) (hn : fn.ntmps = n) (hres : fn.results = rs) (hle : Nat.ble args.size n = true)
    (h : Cw P n c (argEnv 0 args.toList) K G (retQ P rs.toList Q)) : Fc P f args K G Q := fun E w hs => by
  have hle' : args.size ≤ n := by simpa [Nat.ble_eq] using hle
  refine calls_of_wp hf hb (Code.wp_mono (fun ex a' w' hq => ?_) (h E w _ hs ⟨?_, rfl, fun t v ht => ?_⟩))
  · obtain ⟨env', K', G', h1, h2, h3, h4, vs, G2, h5, hg, h6⟩ := hq
    have hrun : (results fn a'.tmps).run P w' = .ok (mkRes vs) w' := by
      have := RetAll.run (P := P) h3 h2.toSatW _ _ h5
      rw [results_eq, hres]
      obtain ⟨l⟩ := rs
      rw [List.mapM_toArray]
      simp only [Sem.run_map, Sem.run_bind, Sem.run_pure]
      rw [this]
      match vs with
      | [] => simp [mkRes]
      | [v] => simp [mkRes]
      | v :: u :: r => simp [mkRes]
    rcases h4 with rfl | rfl <;> exact ⟨h3.defers, _, hrun, _, K', G2, rfl, h1, h2.less hg, h6⟩
  · simp [hn]; omega
  · obtain ⟨_, h2⟩ := lk_argEnv _ _ _ _ ht
    simp only [Nat.sub_zero] at h2
    have hlt : t < args.size := by
      have := (List.getElem?_eq_some_iff.1 h2).1
      simpa using this
    simp only [Array.getD_eq_getD_getElem?, Array.getElem?_append_left hlt]
    have h2' : args[t]? = some v := by simpa using h2
    rw [h2']; rfl

/-! ### values built from parts -/
def fillL (pl : Nat → Option (Nat × Nat)) : List Value → List (Nat × List Value) → Option (List Value)
  | cs, [] => some cs
  | cs, (i, vs) :: rest => match pl i with
    | none => none
    | some (off, size) => if vs.length = size ∧ off + size ≤ cs.length then fillL pl (ovw cs off vs) rest else none

theorem foldl_ovw : ∀ (vs : List Value) (k : Nat) (cs : Array Value) (off : Nat), ((vs.zipIdx k).foldl (fun (cs : Array Value) (p : Value × Nat) => cs.setIfInBounds (off + p.2) p.1) cs) = (ovw cs.toList (off + k) vs).toArray
  | [], k, cs, off => by cases cs; rename_i l; cases l <;> simp [ovw]
  | v :: vs, k, cs, off => by
    simp only [List.zipIdx_cons, List.foldl_cons]
    rw [foldl_ovw vs (k + 1) _ off, ovw_cons]
    simp [Nat.add_assoc]

theorem fill_eq (pl : Nat → Option (Nat × Nat)) : ∀ (ps : List (Nat × Value)) (cs : Array Value) (r : List Value), fillL pl cs.toList (ps.map fun p => (p.1, p.2.cells.toList)) = some r → Instr.fill pl cs ps = some r.toArray
  | [], cs, r, h => by
    simp [fillL] at h
    subst h
    simp [Instr.fill]
  | (i, v) :: ps, cs, r, h => by
    simp only [List.map_cons, fillL] at h
    simp only [Instr.fill]
    cases hp : pl i with
    | none => simp [hp] at h
    | some os =>
      obtain ⟨off, size⟩ := os
      simp only [hp] at h ⊢
      split at h
      · rename_i hc
        obtain ⟨h1, h2⟩ := hc
        have h1' : v.cells.size = size := by simpa using h1
        have h2' : off + size ≤ cs.size := by simpa using h2
        have hno : (v.cells.size ≠ size || off + v.cells.size > cs.size) = false := by simp [h1', h2']
        simp only [hno]
        have hf : v.cells.zipIdx.foldl (fun (cs : Array Value) (p : Value × Nat) => cs.setIfInBounds (off + p.2) p.1) cs = (ovw cs.toList off v.cells.toList).toArray := by
          rw [← Array.foldl_toList, Array.toList_zipIdx]
          have := foldl_ovw v.cells.toList 0 cs off
          simpa using this
        simp only [Bool.false_eq_true, if_false]
        rw [show (v.cells.zipIdx.foldl (fun cs x => match x with | (c, j) => cs.setIfInBounds (off + j) c) cs) = (ovw cs.toList off v.cells.toList).toArray from hf]
        exact fill_eq pl ps _ r (by simpa using h)
      · cases h

def partsEv (env : Env) : List (Nat × Operand) → Option (List (Nat × Value))
  | [] => some []
  | (i, x) :: r => match ev env x, partsEv env r with
    | some v, some l => some ((i, v) :: l)
    | _, _ => none
theorem partsEv_map {n : Nat} {env : Env} {a : Act} (ha : EnvOk n env a) : ∀ (ps : List (Nat × Operand)) (l : List (Nat × Value)), partsEv env ps = some l → ps.map (fun p => (p.1, a.eval p.2)) = l
  | [], l, h => by simp [partsEv] at h; simp [h]
  | (i, x) :: r, l, h => by
    simp only [partsEv] at h
    split at h
    · rename_i v l' hv hl
      cases h
      simp [ha.ev hv, partsEv_map ha r l' hl]
    · cases h

section
variable {P : Program} {n : Nat} {env : Env} {K : Kp} {G : List Ent} {R : Cont} {Q : Post} {ops : Array Oper} {l rest : List Oper}
variable {d : Nat} {dd : Option Tmp} {ty : TypeId} {pos : String} {af : Array Edge} {g : Option (Nat × Bool)}

theorem Qt_build {t : TypeId} {ps : Array (Nat × Operand)} {pvs : List (Nat × Value)} {fs : Array Field} {i : TypeInfo} {z : Value} {cs : List Value} (hp : partsEv env ps.toList = some pvs) (ht : P.underlying t = some (.struct fs)) (hi : P.info? t = some i) (hz : i.zero = some z)
    (hfs : (fs.toList.all fun f => (P.info? f.type).isSome) = true)
    (hf : fillL (fun k => (fs[k]?).map fun f => (f.offset, P.cellsOf f.type)) z.cells.toList (pvs.map fun p => (p.1, p.2.cells.toList)) = some cs) : Qt P n ⟨dd, .build t ps, ty, pos, af, g⟩ env K G (.agg cs.toArray) := fun w a _ ha => by
  have hps : (ps.map fun (i, x) => (i, a.eval x)) = pvs.toArray := by
    obtain ⟨l⟩ := ps
    simp only [List.map_toArray]
    rw [← partsEv_map ha l pvs hp]
  have hplaces : ∀ w, ((fs.mapM fun f => do pure (f.offset, ← sizeOf f.type) : Sem (Array (Nat × Nat)))).run P w = .ok (fs.map fun f => (f.offset, P.cellsOf f.type)) w := by
    intro w
    obtain ⟨l⟩ := fs
    rw [List.mapM_toArray]
    have key : ∀ l : List Field, (l.all fun f => (P.info? f.type).isSome) = true → ∀ w, ((l.mapM fun f => Functor.map (Prod.mk f.offset) (sizeOf f.type) : Sem (List (Nat × Nat)))).run P w = .ok (l.map fun f => (f.offset, P.cellsOf f.type)) w := by
      intro l
      induction l with
      | nil => intro _ w; simp
      | cons f l ih =>
        intro h w
        simp only [List.all_cons, Bool.and_eq_true] at h
        obtain ⟨j, hj⟩ := Option.isSome_iff_exists.1 h.1
        have hsz : (sizeOf f.type).run P w = .ok (P.cellsOf f.type) w := run_sizeOf' hj (by simp [Program.cellsOf, hj]) w
        simp [List.mapM_cons, hsz, ih h.2]
    simp [key l hfs]
  have hfill := fill_eq (fun k => (fs[k]?).map fun f => (f.offset, P.cellsOf f.type)) pvs z.cells cs hf
  simp only [execOp]
  rw [hps]
  simp only [Instr.build, zeroValue, typeInfo, Sem.run_bind, run_program, Result.andThen_ok, hi, Sem.run_pure, hz, run_und ht, hplaces]
  have hpl : (fun (x : Nat) => (fs.map fun (f : Field) => (f.offset, P.cellsOf f.type))[x]?) = fun k => (fs[k]?).map fun (f : Field) => (f.offset, P.cellsOf f.type) := by
    funext k; simp
  rw [hpl, hfill]
  simp

/-- The cells of a literal of rows, all of them given in order. -/
def litCells : List (Nat × Value) → List Value
  | [] => []
  | (_, v) :: r => v.cells.toList ++ litCells r
def litOk (size : Nat) : Nat → List (Nat × Value) → Bool
  | _, [] => true
  | k, (i, v) :: r => Nat.beq i k && Nat.beq v.cells.size size && litOk size (k + 1) r

theorem ovw_append (pre vs mid : List Value) (suf : List Value) (hm : mid.length = vs.length) : ovw (pre ++ mid ++ suf) pre.length vs = pre ++ vs ++ suf := by
  induction vs generalizing pre mid with
  | nil =>
    have : mid = [] := List.eq_nil_of_length_eq_zero (by simpa using hm)
    subst this
    cases pre <;> cases suf <;> simp [ovw]
  | cons v vs ih =>
    match mid, hm with
    | m :: mid, hm =>
      rw [ovw_cons]
      have := ih (pre ++ [v]) mid (by simpa using hm)
      simpa using this

theorem fillL_lit (size : Nat) : ∀ (pvs : List (Nat × Value)) (k : Nat) (pre suf : List Value), litOk size k pvs = true → pre.length = k * size → suf.length = pvs.length * size →
    fillL (fun i => some (i * size, size)) (pre ++ suf) (pvs.map fun p => (p.1, p.2.cells.toList)) = some (pre ++ litCells pvs)
  | [], k, pre, suf, _, _, hs => by
    have : suf = [] := List.eq_nil_of_length_eq_zero (by simpa using hs)
    subst this
    simp [fillL, litCells]
  | (i, v) :: pvs, k, pre, suf, hok, hp, hs => by
    simp only [litOk, Bool.and_eq_true] at hok
    obtain ⟨⟨hik, hv⟩, hok⟩ := hok
    obtain rfl : i = k := Nat.eq_of_beq_eq_true hik
    have hv := Nat.eq_of_beq_eq_true hv
    have hs' : suf.length = size + pvs.length * size := by rw [hs, List.length_cons, Nat.succ_mul, Nat.add_comm]
    have hcut : suf = suf.take size ++ suf.drop size := (List.take_append_drop _ _).symm
    have hv' : v.cells.toList.length = size := by simpa using hv
    have htl : (suf.take size).length = size := by rw [List.length_take]; omega
    have ho : ovw (pre ++ suf) (i * size) v.cells.toList = (pre ++ v.cells.toList) ++ suf.drop size := by
      rw [← hp]
      conv => lhs; rw [hcut, ← List.append_assoc]
      exact ovw_append pre _ _ _ (by rw [htl, hv'])
    simp only [List.map_cons, fillL]
    rw [if_pos ⟨hv', by rw [List.length_append, hp]; omega⟩, ho, fillL_lit size pvs (i + 1) _ _ hok (by rw [List.length_append, hp, hv', Nat.succ_mul]) (by rw [List.length_drop]; omega)]
    simp [litCells]

theorem OpW_buildSlice {t e : TypeId} {m size : Nat} {ps : Array (Nat × Operand)} {pvs : List (Nat × Value)} {i : TypeInfo} {z : Value} (hlt : Nat.blt d n = true) (hp : partsEv env ps.toList = some pvs) (ht : P.underlying t = some (.slice e)) (hi : P.info? e = some i) (hz : i.zero = some z)
    (hsize : i.size = size) (hm : Nat.beq pvs.length m = true) (hok : litOk size 0 pvs = true) (hsmall : Nat.ble (m * size) 16777216 = true) (hpos : Nat.blt 0 (m * size) = true) {rows : List (List Value)} (hrows : pvs.map (fun p => p.2.cells.toList) = rows)
    (h : ∀ s, R ((d, sv s) :: env) K (.row (sv s) e size rows.flatten :: G)) : OpW P n ⟨some d, .buildSlice t m ps, ty, pos, af, g⟩ env K G R := fun E w a hs ha next Q hk => by
  subst hsize
  have hm' : pvs.length = m := Nat.eq_of_beq_eq_true hm
  have hsmall' : m * i.size ≤ 16777216 := by simpa [Nat.ble_eq] using hsmall
  have hpos' : 0 < m * i.size := by simpa [Nat.blt_eq] using hpos
  have hps : (ps.map fun (i, x) => (i, a.eval x)) = pvs.toArray := by
    obtain ⟨l⟩ := ps
    simp only [List.map_toArray]
    rw [← partsEv_map ha l pvs hp]
  have hfl := fillL_lit i.size pvs 0 [] ((Array.range (m * i.size)).map (z.cells[· % z.cells.size]!)).toList hok (by simp) (by simp [hm'])
  simp only [List.nil_append] at hfl
  have hfill := fill_eq _ pvs _ _ hfl
  unfold Oper.wp
  simp only [execOp]
  rw [hps]
  simp only [Instr.buildSlice, Sem.run_bind, run_und ht, Result.andThen_ok, run_sizeOf' hi rfl]
  rw [if_neg (by omega), if_neg (by omega)]
  simp only [zeroValue, typeInfo, Sem.run_bind, run_program, Result.andThen_ok, hi, Sem.run_pure, hz, hfill, newRow, run_newObj]
  rw [Oper.upon_value]
  have hlen : (litCells pvs).length = m * i.size := by
    have : ∀ (pvs : List (Nat × Value)) (k : Nat), litOk i.size k pvs = true → (litCells pvs).length = pvs.length * i.size := by
      intro pvs
      induction pvs with
      | nil => intro k _; simp [litCells]
      | cons p pvs ih =>
        intro k h
        obtain ⟨j, v⟩ := p
        simp only [litOk, Bool.and_eq_true] at h
        have hv : v.cells.toList.length = i.size := by simpa using Nat.eq_of_beq_eq_true h.1.2
        rw [litCells, List.length_append, hv, ih _ h.2, List.length_cons, Nat.succ_mul, Nat.add_comm]
    rw [this pvs 0 hok, hm']
  refine hk _ _ _ _ _ (Kp.le_refl K) (hs.new (o := .cells (litCells pvs).toArray e) (e := .row (.slice (some ⟨w.heap.size, 0, none⟩) m m) e i.size rows.flatten) ⟨m, ?_⟩ rfl (fun b hb => ?_)) (ha.put (lt_of_blt hlt) _) (h ⟨some ⟨w.heap.size, 0, none⟩, m, m⟩)
  rotate_left
  · cases hb; exact Ent.free_new hs.toSatW (Nat.le_refl _) 0
  have hlf : ∀ pvs : List (Nat × Value), litCells pvs = (pvs.map (fun p => p.2.cells.toList)).flatten := by
    intro pvs
    induction pvs with
    | nil => rfl
    | cons p pvs ih => obtain ⟨j, v⟩ := p; simp [litCells, ih]
  rw [← hrows, ← hlf]
  have hmx : m ≤ maxLen := by
    have : m ≤ m * i.size := Nat.le_mul_of_pos_right _ (by rcases Nat.eq_zero_or_pos i.size with h0 | h0; · rw [h0] at hpos'; omega
                                                           · exact h0)
    simp only [maxLen]; omega
  have := World.ownsRow_lit (base := 0) (e := e) (size := i.size) w (litCells pvs).toArray m (Nat.zero_le _) hmx (by simpa using hlen)
  simpa using this
end
end Go.Hx

namespace Go.Hx
set_option linter.unusedVariables false
set_option linter.unusedSimpArgs false
open Go

/-- Some of the own entries. -/
def Inc (G0 G : List Ent) : Prop := ∀ e ∈ G0, e ∈ G
theorem Inc.nil {G : List Ent} : Inc [] G := fun e h => by cases h
theorem Inc.cons {e : Ent} {G0 G : List Ent} (h : e ∈ G) (h' : Inc G0 G) : Inc (e :: G0) G := fun x hx => by
  cases hx with
  | head => exact h
  | tail _ hx => exact h' x hx
theorem Inc.refl (G : List Ent) : Inc G G := fun _ h => h
theorem SatW.less {w : World} {K K0 : Kp} {G G0 : List Ent} (h : SatW w K G) (hk : K0.le K) (hg : Inc G0 G) : SatW w K0 G0 := ⟨fun b j v hb => h.k b j v (hk.1 b j v hb), fun b o hb => h.ko b o (hk.2 b o hb), fun e he => h.g e (hg e he)⟩

def Aw (P : Program) (n : Nat) (ops : Array Oper) (K0 : Kp) (G0 : List Ent) (fuel : Nat) (listed : Array Bool) (env : Env) (K : Kp) (G : List Ent) (R : Cont) : Prop :=
  K0.le K → Inc G0 G → ∀ E w a, Sat E w K G → EnvOk n env a → ∀ (Q : Exit → Act → World → Prop), (∀ c a w, ¬ Q (.panic c) a w) →
    (∀ a' w' env' K' G', K.le K' → Sat E w' K' G' → EnvOk n env' a' → R env' K' G' → Q .normal a' w') → wpAnyH P .any ops Q (fun w => SatW w K0 G0) fuel listed a w

section
variable {P : Program} {n : Nat} {env : Env} {K K0 : Kp} {G G0 : List Ent} {R : Cont} {Q : Post} {ops : Array Oper} {fuel : Nat} {listed : Array Bool} {o : Oper}

theorem Cw_region_any {id : Nat} (G0 : List Ent) (hm : P.follows .mixedOrders = true) (hg : Inc G0 G)
    (h : Aw P n ops K G0 ops.size (Array.replicate ops.size false) env K G (fun env K G => Q .normal env K G)) : Cw P n (.region id ops true) env K G Q := fun E w a hs ha => by
  have := h (Kp.le_refl K) hg E { w with drawn := w.drawn + 1 } a hs.drew ha (fun ex a' w' => ex = .normal ∧ QL E n K Q ex a' w') (fun c a w hq => by cases hq.1)
    (fun a' w' env' K' G' h1 h2 h3 h4 => ⟨rfl, env', K', G', h1, h2, h3, h4⟩)
  exact Code.wp_mono (fun _ _ _ hq => hq.2) (wp_region_held hm this)

theorem Aw.sub {env' : Env} (h : Aw P n ops K0 G0 fuel listed env' K G R) (hs : Sub env' env) : Aw P n ops K0 G0 fuel listed env K G R :=
  fun hk hg E w a hsat ha Q hp hq => h hk hg E w a hsat (ha.sub hs) Q hp hq

theorem Aw_done (hr : Region.ready .any ops listed = []) (h : R env K G) : Aw P n ops K0 G0 fuel listed env K G R :=
  fun _ _ E w a hs ha Q _ hq => wpAnyH_done hr (hq a w env K G (Kp.le_refl K) hs ha h) fuel

/-- Number i is taken first: it only computes, or reads what nobody in the region changes. -/
theorem Aw_q (i : Nat) {d : Nat} {v : Value} (hi : ops[i]? = some o) (hs : Region.noSelect ops = true) (hf : Region.free .any ops listed i = true) (hr : (Region.ready .any ops listed).contains i = true)
    (hg : o.guard = none) (hd : o.dst = some d) (hlt : Nat.blt d n = true) (hq : Qt P n o env K0 G0 v)
    (h : Aw P n ops K0 G0 fuel (listed.setIfInBounds i true) ((d, v) :: env) K G R) : Aw P n ops K0 G0 (fuel + 1) listed env K G R :=
  fun hk hgi E w a hsat ha Q hp hc => by
    refine wpAnyH_take hi hs hf hr (fun c a w hq => absurd hq (hp c _ w)) (v := v) (.inl ⟨by simp [Region.wanted, hg], fun w' hw' => hq w' a hw' ha⟩) (hsat.toSatW.less hk hgi) ?_
    rw [hd]
    exact h hk hgi E w _ hsat (ha.put (lt_of_blt hlt) v) Q hp hc
theorem Aw_qw (i : Nat) {j e d : Nat} {b : Bool} {v : Value} (hi : ops[i]? = some o) (hs : Region.noSelect ops = true) (hf : Region.free .any ops listed i = true) (hr : (Region.ready .any ops listed).contains i = true)
    (hg : o.guard = some (j, b)) (he : (ops[j]?).bind (·.dst) = some e) (hv : lk env e = some (.bool b)) (hlt' : Nat.blt e n = true) (hd : o.dst = some d) (hlt : Nat.blt d n = true) (hq : Qt P n o env K0 G0 v)
    (h : Aw P n ops K0 G0 fuel (listed.setIfInBounds i true) ((d, v) :: env) K G R) : Aw P n ops K0 G0 (fuel + 1) listed env K G R :=
  fun hk hgi E w a hsat ha Q hp hc => by
    refine wpAnyH_take hi hs hf hr (fun c a w hq => absurd hq (hp c _ w)) (v := v) (.inl ⟨?_, fun w' hw' => hq w' a hw' ha⟩) (hsat.toSatW.less hk hgi) ?_
    · rw [wanted_of hg he ha hv (lt_of_blt hlt')]; simp
    · rw [hd]
      exact h hk hgi E w _ hsat (ha.put (lt_of_blt hlt) v) Q hp hc
theorem Aw_pass (i : Nat) {j e d : Nat} {b c : Bool} (hi : ops[i]? = some o) (hs : Region.noSelect ops = true) (hf : Region.free .any ops listed i = true) (hr : (Region.ready .any ops listed).contains i = true)
    (hg : o.guard = some (j, b)) (he : (ops[j]?).bind (·.dst) = some e) (hv : lk env e = some (.bool c)) (hcb : (c == b) = false) (hlt' : Nat.blt e n = true) (hd : o.dst = some d) (hlt : Nat.blt d n = true)
    (h : Aw P n ops K0 G0 fuel (listed.setIfInBounds i true) ((d, undef) :: env) K G R) : Aw P n ops K0 G0 (fuel + 1) listed env K G R :=
  fun hk hgi E w a hsat ha Q hp hc => by
    refine wpAnyH_take hi hs hf hr (fun c a w hq => absurd hq (hp c _ w)) (v := undef) (.inr ⟨?_, rfl⟩) (hsat.toSatW.less hk hgi) ?_
    · rw [wanted_of hg he ha hv (lt_of_blt hlt'), hcb]
    · rw [hd]
      exact h hk hgi E w _ hsat (ha.put (lt_of_blt hlt) undef) Q hp hc

theorem Aw_passU (i : Nat) {j e d : Nat} {b : Bool} (hi : ops[i]? = some o) (hs : Region.noSelect ops = true) (hf : Region.free .any ops listed i = true) (hr : (Region.ready .any ops listed).contains i = true)
    (hg : o.guard = some (j, b)) (he : (ops[j]?).bind (·.dst) = some e) (hv : lk env e = some undef) (hd : o.dst = some d) (hlt : Nat.blt d n = true)
    (h : Aw P n ops K0 G0 fuel (listed.setIfInBounds i true) ((d, undef) :: env) K G R) : Aw P n ops K0 G0 (fuel + 1) listed env K G R :=
  fun hk hgi E w a hsat ha Q hp hc => by
    refine wpAnyH_take hi hs hf hr (fun c a w hq => absurd hq (hp c _ w)) (v := undef) (.inr ⟨wanted_undef hg he ha hv, rfl⟩) (hsat.toSatW.less hk hgi) ?_
    rw [hd]
    exact h hk hgi E w _ hsat (ha.put (lt_of_blt hlt) undef) Q hp hc

/-- One operation that may change memory, carried out now. -/
def Ax (P : Program) (n : Nat) (ops : Array Oper) (K0 : Kp) (G0 : List Ent) (fuel : Nat) (listed : Array Bool) (env : Env) (K : Kp) (G : List Ent) (R : Cont) (i : Nat) : Prop :=
  ∃ o, ops[i]? = some o ∧ (o.guard = none ∨ ∃ j e b, o.guard = some (j, b) ∧ (ops[j]?).bind (·.dst) = some e ∧ lk env e = some (.bool b) ∧ e < n) ∧
    OpW P n o env K G fun env' K' G' => Inc G0 G' ∧ Aw P n ops K0 G0 fuel (listed.setIfInBounds i true) env' K' G' R
theorem Ax_mk {i : Nat} (hi : ops[i]? = some o) (hg : o.guard = none) (h : OpW P n o env K G fun env' K' G' => Inc G0 G' ∧ Aw P n ops K0 G0 fuel (listed.setIfInBounds i true) env' K' G' R) : Ax P n ops K0 G0 fuel listed env K G R i :=
  ⟨o, hi, .inl hg, h⟩
theorem Ax_mkw {i j e : Nat} {b : Bool} (hi : ops[i]? = some o) (hg : o.guard = some (j, b)) (he : (ops[j]?).bind (·.dst) = some e) (hv : lk env e = some (.bool b)) (hlt : Nat.blt e n = true)
    (h : OpW P n o env K G fun env' K' G' => Inc G0 G' ∧ Aw P n ops K0 G0 fuel (listed.setIfInBounds i true) env' K' G' R) : Ax P n ops K0 G0 fuel listed env K G R i :=
  ⟨o, hi, .inr ⟨j, e, b, hg, he, hv, lt_of_blt hlt⟩, h⟩

theorem Aw_x (rs : List Nat) (hr : Region.ready .any ops listed = rs) (hne : rs.isEmpty = false) (h : ∀ i ∈ rs, Ax P n ops K0 G0 fuel listed env K G R i) : Aw P n ops K0 G0 (fuel + 1) listed env K G R :=
  fun hk hgi E w a hsat ha Q hp hc => by
    refine wpAnyH_all hr (by intro e; subst e; cases hne) fun i hi => ?_
    obtain ⟨o, hoi, hg, hw⟩ := h i hi
    have hwant : Region.wanted o (yielded ops a.tmps) = true := by
      rcases hg with hg | ⟨j, e, b, hg, he, hv, hlt⟩
      · simp [Region.wanted, hg]
      · rw [wanted_of hg he ha hv hlt]; simp
    unfold wpOp
    simp only [hoi, hwant, if_true]
    refine .inl (hw E w a hsat ha _ Q fun a' w' env' K' G' h1 h2 h3 h4 => ⟨h2.toSatW.less (hk.trans h1) h4.1, ?_⟩)
    exact h4.2 (hk.trans h1) h4.1 E w' a' h2 h3 Q hp fun a'' w'' env'' K'' G'' g1 g2 g3 g4 => hc a'' w'' env'' K'' G'' (h1.trans g1) g2 g3 g4
theorem Aw_one (i : Nat) (hr : Region.ready .any ops listed = [i]) (h : Ax P n ops K0 G0 fuel listed env K G R i) : Aw P n ops K0 G0 (fuel + 1) listed env K G R :=
  Aw_x [i] hr rfl fun j hj => by
    cases hj with
    | head => exact h
    | tail _ hj => cases hj
theorem Aw_two (i j : Nat) (hr : Region.ready .any ops listed = [i, j]) (h1 : Ax P n ops K0 G0 fuel listed env K G R i) (h2 : Ax P n ops K0 G0 fuel listed env K G R j) : Aw P n ops K0 G0 (fuel + 1) listed env K G R :=
  Aw_x [i, j] hr rfl fun k hk => by
    cases hk with
    | head => exact h1
    | tail _ hk => cases hk with
      | head => exact h2
      | tail _ hk => cases hk

/-- A test that is not decided: both ways. -/
theorem Aw.case {d : Nat} {c : Bool} (hv : lk env d = some (.bool c)) (h1 : c = true → Aw P n ops K0 G0 fuel listed ((d, .bool true) :: env) K G R) (h2 : c = false → Aw P n ops K0 G0 fuel listed ((d, .bool false) :: env) K G R) : Aw P n ops K0 G0 fuel listed env K G R := by
  have key : ∀ b, c = b → ∀ t v, lk ((d, .bool b) :: env) t = some v → lk env t = some v := fun b hb t v h => by
    by_cases e : d = t
    · subst e; rw [lk_hit rfl] at h; rw [hv, hb]; exact h
    · rwa [lk_miss e] at h
  intro hk hgi E w a hsat ha Q hp hc
  cases c with
  | true => exact h1 rfl hk hgi E w a hsat ⟨ha.size, ha.defers, fun t v h => ha.at_ t v (key _ rfl t v h)⟩ Q hp hc
  | false => exact h2 rfl hk hgi E w a hsat ⟨ha.size, ha.defers, fun t v h => ha.at_ t v (key _ rfl t v h)⟩ Q hp hc
theorem Ow.case {l : List Oper} {d : Nat} {c : Bool} (hv : lk env d = some (.bool c)) (h1 : c = true → Ow P n ops l ((d, .bool true) :: env) K G R) (h2 : c = false → Ow P n ops l ((d, .bool false) :: env) K G R) : Ow P n ops l env K G R := by
  have key : ∀ b, c = b → ∀ t v, lk ((d, .bool b) :: env) t = some v → lk env t = some v := fun b hb t v h => by
    by_cases e : d = t
    · subst e; rw [lk_hit rfl] at h; rw [hv, hb]; exact h
    · rwa [lk_miss e] at h
  intro E w a hsat ha Q hc
  cases c with
  | true => exact h1 rfl E w a hsat ⟨ha.size, ha.defers, fun t v h => ha.at_ t v (key _ rfl t v h)⟩ Q hc
  | false => exact h2 rfl E w a hsat ⟨ha.size, ha.defers, fun t v h => ha.at_ t v (key _ rfl t v h)⟩ Q hc
theorem nt_t {b : Bool} (h : (!b) = true) : b = false := by cases b <;> first | rfl | cases h
theorem nt_f {b : Bool} (h : (!b) = false) : b = true := by cases b <;> first | rfl | cases h
theorem nt_mt {b : Bool} (h : b = false) : (!b) = true := by subst h; rfl
theorem nt_mf {b : Bool} (h : b = true) : (!b) = false := by subst h; rfl
/-- A test whose outcome is known. -/
theorem Cw_cond_kt {x : Operand} {c1 c2 : Code} {c : Bool} (hv : ev env x = some (.bool c)) (hc : c = true) (h : Cw P n c1 env K G Q) : Cw P n (.cond x c1 c2) env K G Q :=
  Cw_cond hv (fun _ => h) (fun e => by rw [hc] at e; cases e)
theorem Cw_cond_kf {x : Operand} {c1 c2 : Code} {c : Bool} (hv : ev env x = some (.bool c)) (hc : c = false) (h : Cw P n c2 env K G Q) : Cw P n (.cond x c1 c2) env K G Q :=
  Cw_cond hv (fun e => by rw [hc] at e; cases e) (fun _ => h)
theorem Ow.known {l : List Oper} {d : Nat} {c b : Bool} (hv : lk env d = some (.bool c)) (hc : c = b) (h : Ow P n ops l ((d, .bool b) :: env) K G R) : Ow P n ops l env K G R := by
  cases b with
  | true => exact Ow.case hv (fun _ => h) (fun e => by rw [hc] at e; cases e)
  | false => exact Ow.case hv (fun e => by rw [hc] at e; cases e) (fun _ => h)
theorem Aw.known {d : Nat} {c b : Bool} (hv : lk env d = some (.bool c)) (hc : c = b) (h : Aw P n ops K0 G0 fuel listed ((d, .bool b) :: env) K G R) : Aw P n ops K0 G0 fuel listed env K G R := by
  cases b with
  | true => exact Aw.case hv (fun _ => h) (fun e => by rw [hc] at e; cases e)
  | false => exact Aw.case hv (fun e => by rw [hc] at e; cases e) (fun _ => h)

/-- A call of a function that only computes. -/
theorem OpW_callP {d f : Nat} {ty : TypeId} {pos : String} {af : Array Edge} {g : Option (Nat × Bool)} {fo : Operand} {first captured : Array Value} {args : Array Operand} {ts : Array TypeId} {vs : List Value} {v0 : Value} (hlt : Nat.blt d n = true)
    (hcall : ∀ (xs : Array Value) (w : World), (callFunc f xs).run P w = .ok (.enter f xs) w) (hf : ev env fo = some (.func (.func f) first captured))
    (ha' : args.toList.mapM (ev env) = some vs) (hfn : Fc P f (first ++ vs.toArray ++ captured) K G (fun v K' G' => v = v0 ∧ K' = K ∧ G' = G))
    (h : R ((d, v0) :: env) K G) : OpW P n ⟨some d, .call { callee := .value fo, args := args, argTypes := ts }, ty, pos, af, g⟩ env K G R :=
  OpW_call hlt hcall hf ha' hfn fun v K' G' _ hq => by obtain ⟨rfl, rfl, rfl⟩ := hq; exact h
/-- .. that also turns the own entries in a known way. -/
theorem OpW_callG {d f : Nat} {ty : TypeId} {pos : String} {af : Array Edge} {g : Option (Nat × Bool)} {fo : Operand} {first captured : Array Value} {args : Array Operand} {ts : Array TypeId} {vs : List Value} {v0 : Value} {G1 : List Ent} (hlt : Nat.blt d n = true)
    (hcall : ∀ (xs : Array Value) (w : World), (callFunc f xs).run P w = .ok (.enter f xs) w) (hf : ev env fo = some (.func (.func f) first captured))
    (ha' : args.toList.mapM (ev env) = some vs) (hfn : Fc P f (first ++ vs.toArray ++ captured) K G (fun v K' G' => v = v0 ∧ K' = K ∧ G' = G1))
    (h : R ((d, v0) :: env) K G1) : OpW P n ⟨some d, .call { callee := .value fo, args := args, argTypes := ts }, ty, pos, af, g⟩ env K G R :=
  OpW_call hlt hcall hf ha' hfn fun v K' G' _ hq => by obtain ⟨rfl, rfl, rfl⟩ := hq; exact h

/-- A guard that is not decided: both ways. -/
theorem Ow_caseG {o : Oper} {rest : List Oper} {j e : Nat} {b c : Bool} (hg : o.guard = some (j, b)) (he : (ops[j]?).bind (·.dst) = some e) (hv : lk env e = some (.bool c))
    (h1 : c = true → Ow P n ops (o :: rest) ((e, .bool true) :: env) K G R) (h2 : c = false → Ow P n ops (o :: rest) ((e, .bool false) :: env) K G R) : Ow P n ops (o :: rest) env K G R :=
  Ow.case hv h1 h2
end
end Go.Hx

namespace Go.Hx
open Go
set_option linter.unusedVariables false

/-! ### plain data: what can fail -/
def getI {α : Type} (l : List α) (i : Int) : Option α := if 0 ≤ i then l[i.toNat]? else none
def app {α : Type} (a b : List α) : Option (List α) := if a.length + b.length ≤ 4294967296 then some (a ++ b) else none
def mkl {α : Type} (n : Int) (z : α) : Option (List α) := if 0 ≤ n ∧ n ≤ 4294967296 then some (List.replicate n.toNat z) else none
def cutI {α : Type} (l : List α) (lo hi : Int) : Option (List α) := if 0 ≤ lo ∧ lo ≤ hi ∧ hi ≤ (l.length : Int) then some ((l.take hi.toNat).drop lo.toNat) else none
def setI {α : Type} (l : List α) (i : Int) (x : α) : List α := l.set i.toNat x
def wI (x : Int) : Int := IntKind.i64.wrap x
def wU (x : Int) : Int := IntKind.u64.wrap x
def wB (x : Int) : Int := IntKind.u8.wrap x
/-- More rounds than any loop here makes. -/
def BIG : Nat := 1000000000000000000000000
theorem bnd {α β : Type} {o : Option α} {f : α → Option β} {r : β} (h : o.bind f = some r) : ∃ a, o = some a ∧ f a = some r := by
  cases o with
  | none => cases h
  | some a => exact ⟨a, rfl, h⟩
def bd2 {α β γ : Type} (o : Option (α × β)) (f : α → β → Option γ) : Option γ := o.bind fun p => f p.1 p.2
def bd3 {α β δ γ : Type} (o : Option (α × β × δ)) (f : α → β → δ → Option γ) : Option γ := o.bind fun p => f p.1 p.2.1 p.2.2
def bd4 {α β δ ε γ : Type} (o : Option (α × β × δ × ε)) (f : α → β → δ → ε → Option γ) : Option γ := o.bind fun p => f p.1 p.2.1 p.2.2.1 p.2.2.2
@[simp] theorem bd2_some {α β γ : Type} (a : α) (b : β) (f : α → β → Option γ) : bd2 (some (a, b)) f = f a b := rfl
@[simp] theorem bd3_some {α β δ γ : Type} (a : α) (b : β) (c : δ) (f : α → β → δ → Option γ) : bd3 (some (a, b, c)) f = f a b c := rfl
@[simp] theorem bd4_some {α β δ ε γ : Type} (a : α) (b : β) (c : δ) (d : ε) (f : α → β → δ → ε → Option γ) : bd4 (some (a, b, c, d)) f = f a b c d := rfl
theorem bnd2 {α β γ : Type} {o : Option (α × β)} {f : α → β → Option γ} {r : γ} (h : bd2 o f = some r) : ∃ a b, o = some (a, b) ∧ f a b = some r := by
  cases o with
  | none => cases h
  | some p => obtain ⟨a, b⟩ := p; exact ⟨a, b, rfl, h⟩
theorem bnd3 {α β δ γ : Type} {o : Option (α × β × δ)} {f : α → β → δ → Option γ} {r : γ} (h : bd3 o f = some r) : ∃ a b c, o = some (a, b, c) ∧ f a b c = some r := by
  cases o with
  | none => cases h
  | some p => obtain ⟨a, b, c⟩ := p; exact ⟨a, b, c, rfl, h⟩
theorem bnd4 {α β δ ε γ : Type} {o : Option (α × β × δ × ε)} {f : α → β → δ → ε → Option γ} {r : γ} (h : bd4 o f = some r) : ∃ a b c d, o = some (a, b, c, d) ∧ f a b c d = some r := by
  cases o with
  | none => cases h
  | some p => obtain ⟨a, b, c, d⟩ := p; exact ⟨a, b, c, d, rfl, h⟩
theorem ift {α : Type} {p : Prop} [Decidable p] {a b : Option α} {r : Option α} (hp : p) (h : (if p then a else b) = r) : a = r := by rwa [if_pos hp] at h
theorem iff_ {α : Type} {p : Prop} [Decidable p] {a b : Option α} {r : Option α} (hp : ¬ p) (h : (if p then a else b) = r) : b = r := by rwa [if_neg hp] at h
theorem btf {b : Bool} (h : b = false) : ¬ b = true := by rw [h]; decide
theorem bool_ct (b : Bool) : b = true ∨ b = false := by cases b <;> simp
theorem getI_ix {α : Type} {l : List α} {i : Int} {x : α} (h : getI l i = some x) : 0 ≤ i ∧ l[i.toNat]? = some x ∧ i = ((i.toNat : Nat) : Int) := by
  unfold getI at h
  split at h
  · exact ⟨by assumption, h, by omega⟩
  · cases h

/-! ### loops on plain data -/
section loops
variable {R A B C D E F : Type}
def lp1 (f : (A → Option R) → A → Option R) : Nat → A → Option R
  | 0, _ => none
  | n + 1, a => f (lp1 f n) a
def lp2 (f : (A → B → Option R) → A → B → Option R) : Nat → A → B → Option R
  | 0, _, _ => none
  | n + 1, a, b => f (lp2 f n) a b
def lp3 (f : (A → B → C → Option R) → A → B → C → Option R) : Nat → A → B → C → Option R
  | 0, _, _, _ => none
  | n + 1, a, b, c => f (lp3 f n) a b c
def lp4 (f : (A → B → C → D → Option R) → A → B → C → D → Option R) : Nat → A → B → C → D → Option R
  | 0, _, _, _, _ => none
  | n + 1, a, b, c, d => f (lp4 f n) a b c d
def lp5 (f : (A → B → C → D → E → Option R) → A → B → C → D → E → Option R) : Nat → A → B → C → D → E → Option R
  | 0, _, _, _, _, _ => none
  | n + 1, a, b, c, d, e => f (lp5 f n) a b c d e
def lp6 (f : (A → B → C → D → E → F → Option R) → A → B → C → D → E → F → Option R) : Nat → A → B → C → D → E → F → Option R
  | 0, _, _, _, _, _, _ => none
  | n + 1, a, b, c, d, e, x => f (lp6 f n) a b c d e x
end loops
theorem lp_pos {α : Type} {f : Nat → Option α} {n : Nat} {r : α} (h0 : f 0 = none) (h : f n = some r) : ∃ m, n = m + 1 := by
  cases n with
  | zero => rw [h0] at h; cases h
  | succ m => exact ⟨m, rfl⟩

/-! ### two lists, member by member -/
def All2 {α β : Type} (R : α → β → Prop) : List α → List β → Prop
  | [], [] => True
  | a :: as, b :: bs => R a b ∧ All2 R as bs
  | _, _ => False
namespace All2
variable {α β : Type} {R S : α → β → Prop}
theorem len : ∀ {as : List α} {bs : List β}, All2 R as bs → as.length = bs.length
  | [], [], _ => rfl
  | _ :: _, _ :: _, h => by rw [List.length_cons, List.length_cons, len h.2]
  | [], _ :: _, h => h.elim
  | _ :: _, [], h => h.elim
theorem mono (hm : ∀ a b, R a b → S a b) : ∀ {as : List α} {bs : List β}, All2 R as bs → All2 S as bs
  | [], [], _ => trivial
  | _ :: _, _ :: _, h => ⟨hm _ _ h.1, mono hm h.2⟩
  | [], _ :: _, h => h.elim
  | _ :: _, [], h => h.elim
theorem get : ∀ {as : List α} {bs : List β} {i : Nat} {b : β}, All2 R as bs → bs[i]? = some b → ∃ a, as[i]? = some a ∧ R a b
  | [], [], i, b, _, hb => by simp at hb
  | a :: _, b' :: _, 0, b, h, hb => by simp at hb; subst hb; exact ⟨a, rfl, h.1⟩
  | _ :: _, _ :: _, i + 1, b, h, hb => by
    obtain ⟨a, h1, h2⟩ := get (i := i) h.2 (by simpa using hb)
    exact ⟨a, by simpa using h1, h2⟩
  | [], _ :: _, _, _, h, _ => h.elim
  | _ :: _, [], _, _, h, _ => h.elim
theorem mem : ∀ {as : List α} {bs : List β}, All2 R as bs → ∀ a ∈ as, ∃ b, R a b
  | [], [], _, a, ha => by cases ha
  | _ :: _, b :: _, h, a, ha => by
    rcases List.mem_cons.1 ha with rfl | ha
    · exact ⟨b, h.1⟩
    · exact mem h.2 a ha
  | [], _ :: _, h, _, _ => h.elim
  | _ :: _, [], h, _, _ => h.elim
theorem append : ∀ {as : List α} {bs : List β} {cs : List α} {ds : List β}, All2 R as bs → All2 R cs ds → All2 R (as ++ cs) (bs ++ ds)
  | [], [], _, _, _, h => h
  | _ :: _, _ :: _, _, _, h, h' => ⟨h.1, append h.2 h'⟩
  | [], _ :: _, _, _, h, _ => h.elim
  | _ :: _, [], _, _, h, _ => h.elim
theorem set : ∀ {as : List α} {bs : List β} (i : Nat) {a : α} {b : β}, All2 R as bs → R a b → All2 R (as.set i a) (bs.set i b)
  | [], [], _, _, _, h, _ => h
  | _ :: _, _ :: _, 0, _, _, h, h' => ⟨h', h.2⟩
  | _ :: _, _ :: _, i + 1, _, _, h, h' => ⟨h.1, set i h.2 h'⟩
  | [], _ :: _, _, _, _, h, _ => h.elim
  | _ :: _, [], _, _, _, h, _ => h.elim
theorem take : ∀ {as : List α} {bs : List β} (i : Nat), All2 R as bs → All2 R (as.take i) (bs.take i)
  | [], [], i, h => by simp; trivial
  | _ :: _, _ :: _, 0, h => trivial
  | _ :: _, _ :: _, i + 1, h => ⟨h.1, take i h.2⟩
  | [], _ :: _, _, h => h.elim
  | _ :: _, [], _, h => h.elim
theorem drop : ∀ {as : List α} {bs : List β} (i : Nat), All2 R as bs → All2 R (as.drop i) (bs.drop i)
  | [], [], i, h => by simp; trivial
  | _ :: _, _ :: _, 0, h => h
  | _ :: _, _ :: _, i + 1, h => drop i h.2
  | [], _ :: _, _, h => h.elim
  | _ :: _, [], _, h => h.elim
theorem replicate (n : Nat) {a : α} {b : β} (h : R a b) : All2 R (List.replicate n a) (List.replicate n b) := by
  induction n with
  | zero => trivial
  | succ n ih => exact ⟨h, ih⟩
end All2

/-! ### how plain data lie in cells -/
structure Ty (α : Type) where
  size : Nat
  rep : Kp → List Value → α → Prop
  mono : ∀ {K K' : Kp} {r : List Value} {x : α}, K.le K' → rep K r x → rep K' r x
  len : ∀ {K : Kp} {r : List Value} {x : α}, rep K r x → r.length = size
  one : ∀ {K : Kp} {r : List Value} {x : α}, rep K r x → ∀ y ∈ r, y.oneCell' = true
/-- The rows of a slice, or of a row of the call's own. -/
def RowR {α : Type} (t : Ty α) (K : Kp) (rows : List (List Value)) (l : List α) : Prop := All2 (t.rep K) rows l
/-- A settled slice. -/
def Slr {α : Type} (t : Ty α) (K : Kp) (v : Value) (l : List α) : Prop := ∃ rows, Sl K v t.size rows ∧ RowR t K rows l
section typed
variable {α : Type} {t : Ty α} {K K' : Kp} {v : Value} {l : List α} {rows : List (List Value)}
theorem RowR.mono (h : RowR t K rows l) (hk : K.le K') : RowR t K' rows l := All2.mono (fun _ _ h => t.mono hk h) h
theorem Slr.mono (h : Slr t K v l) (hk : K.le K') : Slr t K' v l := let ⟨rows, h1, h2⟩ := h; ⟨rows, h1.mono hk, h2.mono hk⟩
theorem RowR.sizes (h : RowR t K rows l) : ∀ r ∈ rows, r.length = t.size := fun r hr => let ⟨_, hx⟩ := All2.mem h r hr; t.len hx
theorem RowR.ones (h : RowR t K rows l) : ∀ y ∈ rows.flatten, y.oneCell' = true := fun y hy => by
  obtain ⟨r, hr, hy⟩ := List.mem_flatten.1 hy
  obtain ⟨_, hx⟩ := All2.mem h r hr
  exact t.one hx y hy
theorem RowR.nil : RowR t K [] [] := trivial
theorem RowR.cons {r : List Value} {x : α} (hx : t.rep K r x) (h : RowR t K rows l) : RowR t K (r :: rows) (x :: l) := ⟨hx, h⟩
theorem RowR.app {rows' : List (List Value)} {l' : List α} (h : RowR t K rows l) (h' : RowR t K rows' l') : RowR t K (rows ++ rows') (l ++ l') := All2.append h h'
theorem RowR.set {r : List Value} {x : α} (i : Int) (h : RowR t K rows l) (hx : t.rep K r x) : RowR t K (rows.set i.toNat r) (setI l i x) := All2.set _ h hx
theorem RowR.replicate {r : List Value} {x : α} (n : Nat) (hx : t.rep K r x) : RowR t K (List.replicate n r) (List.replicate n x) := All2.replicate n hx
theorem RowR.at {i : Int} {x : α} (h : RowR t K rows l) (hx : getI l i = some x) : ∃ r, rows[i.toNat]? = some r ∧ t.rep K r x :=
  All2.get h (getI_ix hx).2.1
theorem Slr.nil (t : Ty α) (K : Kp) : Slr t K (.slice none 0 0) [] := ⟨[], Sl.nil K _, trivial⟩
theorem Slr.at {i : Int} {x : α} (h : Slr t K v l) (hx : getI l i = some x) : ∃ r, t.rep K r x ∧ KAt K (elA v i.toNat t.size) r := by
  obtain ⟨rows, h1, h2⟩ := h
  obtain ⟨r, h3, h4⟩ := h2.at hx
  exact ⟨r, h4, h1.at h3⟩
theorem Slr.form (h : Slr t K v l) : ∃ A c, v = .slice A l.length c ∧ l.length ≤ 9223372036854775807 ∧ l.length ≤ c := by
  obtain ⟨rows, ⟨A, n, c, rfl, h2, h3, h4, _⟩, h5⟩ := h
  have := All2.len h5
  rw [h2, this] at h3 h4 ⊢
  exact ⟨A, c, rfl, by simpa [maxLen] using h3, h4⟩
end typed
/-- A slice as a cell. -/
def Ty.sl {α : Type} (t : Ty α) : Ty (List α) where
  size := 1
  rep K r l := ∃ s, r = [sv s] ∧ Slr t K (sv s) l
  mono hk h := let ⟨v, h1, h2⟩ := h; ⟨v, h1, h2.mono hk⟩
  len h := by obtain ⟨v, rfl, _⟩ := h; rfl
  one h := by
    obtain ⟨v, rfl, hs⟩ := h
    intro y hy
    simp at hy; subst hy; rfl
theorem Slr.isSv {α : Type} {t : Ty α} {K : Kp} {v : Value} {l : List α} (h : Slr t K v l) : ∃ s, v = sv s := let ⟨A, c, h1, _⟩ := h.form; ⟨⟨A, _, c⟩, h1⟩
def Ty.i64 : Ty Int := ⟨1, fun _ r x => r = [.int .i64 x], fun _ h => h, fun h => by rw [h]; rfl, fun h => by rw [h]; intro y hy; simp at hy; subst hy; rfl⟩
def Ty.u64 : Ty Int := ⟨1, fun _ r x => r = [.int .u64 x], fun _ h => h, fun h => by rw [h]; rfl, fun h => by rw [h]; intro y hy; simp at hy; subst hy; rfl⟩
def Ty.u8 : Ty Int := ⟨1, fun _ r x => r = [.int .u8 x], fun _ h => h, fun h => by rw [h]; rfl, fun h => by rw [h]; intro y hy; simp at hy; subst hy; rfl⟩
def Ty.bool : Ty Bool := ⟨1, fun _ r x => r = [.bool x], fun _ h => h, fun h => by rw [h]; rfl, fun h => by rw [h]; intro y hy; simp at hy; subst hy; rfl⟩
def Ty.str : Ty ByteArray := ⟨1, fun _ r x => r = [.string x], fun _ h => h, fun h => by rw [h]; rfl, fun h => by rw [h]; intro y hy; simp at hy; subst hy; rfl⟩

/-! ### the rules -/
section rules
variable {P : Program} {n : Nat} {env : Env} {K K0 : Kp} {G G0 : List Ent} {R : Cont} {Q : Post} {ops : Array Oper} {ls rest : List Oper} {fuel : Nat} {listed : Array Bool}
variable {d : Nat} {dd : Option Tmp} {ty : TypeId} {pos : String} {af : Array Edge} {g : Option (Nat × Bool)}
variable {α : Type} {T : Ty α} {v u : Value} {l m : List α} {rows : List (List Value)}

theorem Q_len {t e : TypeId} {x : Operand} (h : Slr T K v l) (hx : ev env x = some v) (ht : P.underlying t = some (.slice e)) :
    Qt P n ⟨dd, .call { callee := .builtin .len, args := #[x], argTypes := #[t] }, ty, pos, af, g⟩ env K G (.int .i64 (l.length : Int)) := by
  obtain ⟨A, c, rfl, _⟩ := h.form
  exact Qt_len hx ht
theorem Q_lenR {t e e' : TypeId} {x : Operand} (hm : Ent.row v e' T.size rows.flatten ∈ G) (hr : RowR T K rows l) (hz : Nat.blt 0 T.size = true) (hx : ev env x = some v) (ht : P.underlying t = some (.slice e)) :
    Qt P n ⟨dd, .call { callee := .builtin .len, args := #[x], argTypes := #[t] }, ty, pos, af, g⟩ env K G (.int .i64 (l.length : Int)) := by
  intro w a hs ha
  obtain ⟨A, c, rfl, _⟩ := row_shape (hs.g _ hm) hr.sizes (lt_of_blt hz)
  have := All2.len hr
  rw [this] at hx
  exact Qt_len hx ht w a hs ha
theorem Q_ix {t e : TypeId} {x i : Operand} {k : IntKind} {j : Int} {y : α} (h : Slr T K v l) (hy : getI l j = some y) (hx : ev env x = some v) (hi : ev env i = some (.int k j)) (ht : P.underlying t = some (.slice e))
    (hs : P.cellsOf e = T.size) (hz : Nat.beq T.size 0 = false) : Qt P n ⟨dd, .indexAddr t x i, ty, pos, af, g⟩ env K G (.pointer (some ((elA v j.toNat T.size).add 0))) := by
  obtain ⟨rows, h1, h2⟩ := h
  obtain ⟨r, h3, h4⟩ := h2.at hy
  exact Qt_ixK hx hi ht hs hz h1 (getI_ix hy).2.2 h3
theorem Q_ixR {t e e' : TypeId} {x i : Operand} {k : IntKind} {j : Int} {r : List Value} (hm : Ent.row v e' T.size rows.flatten ∈ G) (hr : RowR T K rows l) (hy : rows[j.toNat]? = some r) (hj : 0 ≤ j) (hx : ev env x = some v) (hi : ev env i = some (.int k j)) (ht : P.underlying t = some (.slice e))
    (hs : P.cellsOf e = T.size) (hz : Nat.beq T.size 0 = false) : Qt P n ⟨dd, .indexAddr t x i, ty, pos, af, g⟩ env K G (.pointer (some ((elA v j.toNat T.size).add 0))) :=
  Qt_ixG hx hi ht hs hz hm hr.sizes (by omega) hy
theorem Rd_row {t : TypeId} {q off : Nat} {r cs : List Value} (h : Ent.row v t T.size rows.flatten ∈ G) (hR : RowR T K rows l) (hr : rows[q]? = some r) (hd : (r.drop off).take cs.length = cs) (hl : Nat.ble (off + cs.length) T.size = true) : Rdc K G ((elA v q T.size).add off) cs :=
  Rdc.rowR h hR.sizes hr hd hl
/-- 's[lo:hi]' of a settled slice. -/
def cutS (s : SV) (size lo hi : Nat) : SV := ⟨if s.c = lo then s.A else s.A.map (·.add (lo * size)), hi - lo, s.c - lo⟩
theorem cutI_some {i j : Int} {l' : List α} (h : cutI l i j = some l') : 0 ≤ i ∧ i ≤ j ∧ j ≤ (l.length : Int) ∧ l' = (l.take j.toNat).drop i.toNat := by
  unfold cutI at h
  split at h
  · rename_i h0; cases h; exact ⟨h0.1, h0.2.1, h0.2.2, rfl⟩
  · cases h
variable {s : SV}
theorem Slr.cut {i j : Int} {l' : List α} (h : Slr T K (sv s) l) (hc : cutI l i j = some l') : Slr T K (sv (cutS s T.size i.toNat j.toNat)) l' := by
  obtain ⟨h0, h1, h2, rfl⟩ := cutI_some hc
  obtain ⟨rows, h3, h4⟩ := h
  obtain ⟨A, m, c, e, h5, h6, h7, h8⟩ := id h3
  have hl := All2.len h4
  have hn : s.n = m := by simp only [sv, Value.slice.injEq] at e; exact e.2.1
  exact ⟨(rows.take j.toNat).drop i.toNat, Sl.cut (A := s.A) (m := s.n) (c := s.c) h3 (by omega) (by omega), All2.drop _ (All2.take _ h4)⟩
theorem Q_cutLH {t e : TypeId} {x lo hi : Operand} {k k' : IntKind} {i j : Int} {l' : List α} (h : Slr T K (sv s) l) (hc : cutI l i j = some l') (hx : ev env x = some (sv s)) (hl : ev env lo = some (.int k i)) (hh : ev env hi = some (.int k' j)) (ht : P.underlying t = some (.slice e))
    (hs : P.cellsOf e = T.size) (hz : Nat.beq T.size 0 = false) : Qt P n ⟨dd, .slice t x (some lo) (some hi) none, ty, pos, af, g⟩ env K G (sv (cutS s T.size i.toNat j.toNat)) := by
  obtain ⟨h0, h1, h2, rfl⟩ := cutI_some hc
  obtain ⟨A, c, e, h3, h4⟩ := h.form
  have hc : s.c = c := by simp only [sv, Value.slice.injEq] at e; exact e.2.2
  exact Qt_slice_lh (A := s.A) (m := s.n) (c := s.c) hx hl hh ht hs hz (by omega) (by omega) (by omega) (by omega)
theorem Q_cutL {t e : TypeId} {x lo : Operand} {k : IntKind} {i : Int} {l' : List α} (h : Slr T K (sv s) l) (hc : cutI l i (l.length : Int) = some l') (hx : ev env x = some (sv s)) (hl : ev env lo = some (.int k i)) (ht : P.underlying t = some (.slice e))
    (hs : P.cellsOf e = T.size) (hz : Nat.beq T.size 0 = false) : Qt P n ⟨dd, .slice t x (some lo) none none, ty, pos, af, g⟩ env K G (sv (cutS s T.size i.toNat l.length)) := by
  obtain ⟨h0, h1, h2, rfl⟩ := cutI_some hc
  obtain ⟨A, c, e, h3, h4⟩ := h.form
  have hn : s.n = l.length := by simp only [sv, Value.slice.injEq] at e; exact e.2.1
  have := Qt_slice_l (P := P) (n := n) (dd := dd) (ty := ty) (pos := pos) (af := af) (g := g) (K := K) (G := G) (q := i.toNat) (A := s.A) (m := s.n) (c := s.c) hx hl ht hs hz (by omega) (by omega)
  rw [hn] at this
  exact this
theorem Slr.cutL {i : Int} {l' : List α} (h : Slr T K (sv s) l) (hc : cutI l i (l.length : Int) = some l') : Slr T K (sv (cutS s T.size i.toNat l.length)) l' := by
  have := h.cut hc
  rwa [Int.toNat_natCast] at this
theorem Q_cutH {t e : TypeId} {x hi : Operand} {k : IntKind} {j : Int} {l' : List α} (h : Slr T K (sv s) l) (hc : cutI l 0 j = some l') (hx : ev env x = some (sv s)) (hh : ev env hi = some (.int k j)) (ht : P.underlying t = some (.slice e)) (hi' : (P.info? e).isSome = true) :
    Qt P n ⟨dd, .slice t x none (some hi) none, ty, pos, af, g⟩ env K G (sv (cutS s T.size 0 j.toNat)) := by
  obtain ⟨h0, h1, h2, rfl⟩ := cutI_some hc
  obtain ⟨A, c, e, h3, h4⟩ := h.form
  have hc : s.c = c := by simp only [sv, Value.slice.injEq] at e; exact e.2.2
  have := Qt_slice_h (P := P) (n := n) (dd := dd) (ty := ty) (pos := pos) (af := af) (g := g) (K := K) (G := G) (q := j.toNat) (A := s.A) (m := s.n) (c := s.c) hx hh ht hi' rfl (by omega) (by omega)
  have e1 : sv (cutS s T.size 0 j.toNat) = .slice s.A j.toNat s.c := by
    unfold sv cutS
    cases s.A <;> simp [Addr.add]
  rw [e1]; exact this

/-! what an append takes -/
theorem app_some {l' : List α} (h : app l m = some l') : l' = l ++ m ∧ l.length + m.length ≤ 4294967296 := by
  unfold app at h
  split at h
  · cases h; exact ⟨rfl, by assumption⟩
  · cases h
def SrcT (T : Ty α) (K : Kp) (G : List Ent) (u : Value) (m : List α) : Prop := ∃ nrows, RowR T K nrows m ∧ Src K G u m.length nrows.flatten
theorem SrcT.sl (h : Slr T K u m) : SrcT T K G u m := by
  obtain ⟨rows, h1, h2⟩ := h
  have h3 := Src.sl (G := G) h1
  rw [All2.len h2] at h3
  exact ⟨rows, h2, h3⟩
theorem SrcT.row {e : TypeId} (hm : Ent.row u e T.size rows.flatten ∈ G) (hr : RowR T K rows m) (hz : Nat.blt 0 T.size = true) : SrcT T K G u m := by
  have h3 := Src.row (K := K) hm hr.sizes (lt_of_blt hz)
  rw [All2.len hr] at h3
  exact ⟨rows, hr, h3⟩
theorem O_appRow {t e : TypeId} {s x : Operand} {bytes : Nat} {i : TypeInfo} {z : Value} {l' : List α} (hlt : Nat.blt d n = true)
    (hx : ev env s = some v) (hy : ev env x = some u) (hm : Ent.row v e T.size rows.flatten ∈ G) (hr : RowR T K rows l) (hsrc : SrcT T K G u m) (ha : app l m = some l')
    (ht : P.underlying t = some (.slice e)) (hi : P.info? e = some i) (hz : i.zero = some z) (hsize : i.size = T.size) (hby : i.bytes = bytes) (hzs : Nat.beq z.cells.size T.size = true) (hsz : Nat.blt 0 T.size = true) (hb : Nat.ble bytes 32768 = true)
    (h : ∀ s' rows', RowR T K rows' l' → ∃ G', Upd G (.row v e T.size rows.flatten) (.row (sv s') e T.size rows'.flatten) G' ∧ R ((d, sv s') :: env) K G') :
    OpW P n ⟨some d, .call { callee := .builtin .append, args := #[s, x], argTypes := #[t, t] }, ty, pos, af, g⟩ env K G R := by
  obtain ⟨nrows, h1, h2⟩ := hsrc
  obtain ⟨rfl, hle⟩ := app_some ha
  have e1 := All2.len hr
  have e2 := All2.len h1
  have hb' : bytes ≤ 32768 := by simpa [Nat.ble_eq] using hb
  have hbb : (rows.length + m.length) * bytes ≤ 4294967296 * 32768 := Nat.mul_le_mul (by omega) hb'
  exact OpW_appendRow nrows hlt hx hy hm hr.sizes h2 e2 h1.sizes ht hi hz hsize hby hzs hsz h1.ones (by omega) (by omega) fun v' => h v' _ (hr.app h1)
theorem O_appTok {t e : TypeId} {s x : Operand} {bytes q : Nat} {i : TypeInfo} {z : Value} {vs : List Value} {l' : List α} (hlt : Nat.blt d n = true)
    (hx : ev env s = some v) (hy : ev env x = some u) (hsl : Slr T K v l) (hm : Ent.tok e T.size vs ∈ G) (hq : vs[q]? = some v) (hsrc : SrcT T K G u m) (ha : app l m = some l')
    (ht : P.underlying t = some (.slice e)) (hi : P.info? e = some i) (hz : i.zero = some z) (hsize : i.size = T.size) (hby : i.bytes = bytes) (hzs : Nat.beq z.cells.size T.size = true) (hsz : Nat.blt 0 T.size = true) (hb : Nat.ble bytes 32768 = true)
    (h : ∀ s' K', K.le K' → Slr T K' (sv s') l' → ∃ G', Upd G (.tok e T.size vs) (.tok e T.size (vs.set q (sv s'))) G' ∧ R ((d, sv s') :: env) K' G') :
    OpW P n ⟨some d, .call { callee := .builtin .append, args := #[s, x], argTypes := #[t, t] }, ty, pos, af, g⟩ env K G R := by
  obtain ⟨nrows, h1, h2⟩ := hsrc
  obtain ⟨rows, h3, h4⟩ := hsl
  obtain ⟨rfl, hle⟩ := app_some ha
  have e1 := All2.len h4
  have e2 := All2.len h1
  have hb' : bytes ≤ 32768 := by simpa [Nat.ble_eq] using hb
  have hbb : (rows.length + m.length) * bytes ≤ 4294967296 * 32768 := Nat.mul_le_mul (by omega) hb'
  exact OpW_appendTok nrows hlt hx hy h3 hq hm h2 e2 h1.sizes ht hi hz hsize hby hzs hsz h1.ones (by omega) (by omega) fun v' K' hle' hs' => h v' K' hle' ⟨_, hs', (h4.mono hle').app (h1.mono hle')⟩
theorem mkl_some {k : Int} {z : α} {l' : List α} (h : mkl k z = some l') : 0 ≤ k ∧ k ≤ 4294967296 ∧ l' = List.replicate k.toNat z := by
  unfold mkl at h
  split at h
  · rename_i h0; cases h; exact ⟨h0.1, h0.2, rfl⟩
  · cases h
theorem O_make {t e : TypeId} {lo co : Operand} {kl kc : IntKind} {bytes : Nat} {i : TypeInfo} {z : Value} {k : Int} {r : List Value} {x0 : α} {l' : List α} (hlt : Nat.blt d n = true) (hl : ev env lo = some (.int kl k)) (hc : ev env co = some (.int kc k)) (hk : mkl k x0 = some l')
    (ht : P.underlying t = some (.slice e)) (hi : P.info? e = some i) (hz : i.zero = some z) (hsize : i.size = T.size) (hby : i.bytes = bytes) (hzs : Nat.beq z.cells.size T.size = true) (hpos : Nat.blt 0 T.size = true) (hr : z.cells.toList = r) (hb : Nat.ble bytes 32768 = true) (hrep : T.rep K r x0)
    (h : ∀ s rows, RowR T K rows l' → rows = List.replicate k.toNat r → R ((d, sv s) :: env) K (.row (sv s) e T.size rows.flatten :: G)) :
    OpW P n ⟨some d, .makeSlice t lo co, ty, pos, af, g⟩ env K G R := by
  obtain ⟨h0, h1, rfl⟩ := mkl_some hk
  have hb' : bytes ≤ 32768 := by simpa [Nat.ble_eq] using hb
  have hbb : bytes * k.toNat ≤ 32768 * 4294967296 := Nat.mul_le_mul hb' (by omega)
  exact OpW_make (m := k.toNat) hlt hl hc (by omega) (by omega) ht hi hz hsize hby hzs hpos hr (by omega) (by omega) fun v => h v _ (RowR.replicate _ hrep) rfl
theorem O_lit {t e : TypeId} {m' : Nat} {ps : Array (Nat × Operand)} {pvs : List (Nat × Value)} {i : TypeInfo} {z : Value} (hlt : Nat.blt d n = true) (hp : partsEv env ps.toList = some pvs) (hrows : pvs.map (fun p => p.2.cells.toList) = rows) (hr : RowR T K rows l) (ht : P.underlying t = some (.slice e)) (hi : P.info? e = some i) (hz : i.zero = some z)
    (hsize : i.size = T.size) (hm : Nat.beq pvs.length m' = true) (hok : litOk T.size 0 pvs = true) (hsmall : Nat.ble (m' * T.size) 16777216 = true) (hpos : Nat.blt 0 (m' * T.size) = true)
    (h : ∀ s, R ((d, sv s) :: env) K (.row (sv s) e T.size rows.flatten :: G)) : OpW P n ⟨some d, .buildSlice t m' ps, ty, pos, af, g⟩ env K G R :=
  OpW_buildSlice hlt hp ht hi hz hsize hm hok hsmall hpos hrows h
theorem O_lit0 {t e : TypeId} {ps : Array (Nat × Operand)} {i : TypeInfo} (hlt : Nat.blt d n = true) (hp : ps = #[]) (ht : P.underlying t = some (.slice e)) (hi : P.info? e = some i) (hsize : i.size = T.size)
    (h : ∀ s, R ((d, sv s) :: env) K (.row (sv s) e T.size ([] : List (List Value)).flatten :: G)) : OpW P n ⟨some d, .buildSlice t 0 ps, ty, pos, af, g⟩ env K G R := fun E w a hs ha next Q hk => by
  subst hp
  unfold Oper.wp
  have hrun : (Instr.buildSlice t 0 #[]).run P w = .ok (.slice (some ⟨w.heap.size, 0, none⟩) 0 0) (w.alloc (.cells #[] e)) := by
    simp [Instr.buildSlice, run_und ht, run_sizeOf' hi rfl, Instr.fill, newRow]
    have : Array.map (fun x : Nat => (default : Value)) (Array.range 0) = #[] := by decide +kernel
    first | rw [this] | (congr 2; simp [Array.range])
  simp only [execOp, List.map_toArray, List.map_nil, Sem.run_bind, hrun, Result.andThen_ok, Sem.run_pure]
  rw [Oper.upon_value]
  exact hk _ _ _ _ _ (Kp.le_refl K) (hs.new (e := .row (.slice (some ⟨w.heap.size, 0, none⟩) 0 0) e T.size []) ⟨0, World.ownsRow_lit w #[] 0 (Nat.zero_le _) (Nat.zero_le _) (by simp)⟩ rfl (fun b hb => by cases hb; exact Ent.free_new hs.toSatW (Nat.le_refl _) 0)) (ha.put (lt_of_blt hlt) _) (h ⟨some ⟨w.heap.size, 0, none⟩, 0, 0⟩)
theorem rows_set : ∀ {rows : List (List Value)} {size q off : Nat} {r vs : List Value}, (∀ r ∈ rows, r.length = size) → rows[q]? = some r → off + vs.length ≤ size → ovw rows.flatten (q * size + off) vs = (rows.set q (ovw r off vs)).flatten := by
  intro rows
  induction rows with
  | nil => intro size q off r vs _ h; simp at h
  | cons y L ih =>
    intro size q off r vs hrs h hl
    have key : ∀ (pre cs suf : List Value) (k : Nat) (us : List Value), k + us.length ≤ cs.length → ovw (pre ++ cs ++ suf) (pre.length + k) us = pre ++ ovw cs k us ++ suf := by
      intro pre cs suf k us
      induction us generalizing cs k with
      | nil => intro _; cases cs <;> cases pre <;> cases suf <;> simp [ovw]
      | cons u us ihu =>
        intro hk
        simp only [List.length_cons] at hk
        rw [ovw_cons, ovw_cons, ← ihu (cs.set k u) (k + 1) (by simp; omega), Nat.add_assoc]
        congr 1
        rw [List.append_assoc, List.set_append_right _ _ (by omega), List.set_append_left _ _ (by omega), List.append_assoc]
        congr 3
        omega
    have hy := hrs y (.head _)
    cases q with
    | zero =>
      simp only [List.getElem?_cons_zero, Option.some.injEq] at h
      subst h
      have := key [] y L.flatten off vs (by omega)
      simpa using this
    | succ q =>
      simp only [List.getElem?_cons_succ] at h
      have hL : ∀ r ∈ L, r.length = size := fun r hr => hrs r (.tail _ hr)
      simp only [List.flatten_cons, List.set_cons_succ]
      rw [← ih hL h hl]
      have hlen := flatten_length hL
      have hq : q < L.length := (List.getElem?_eq_some_iff.1 h).1
      have hle : q * size + size ≤ L.length * size := by rw [← Nat.succ_mul]; exact Nat.mul_le_mul_right _ hq
      have := key y L.flatten [] (q * size + off) vs (by omega)
      simp only [List.append_nil] at this
      rw [← this, hy, Nat.succ_mul]
      congr 1
      omega
theorem run_storeCells_row {P : Program} {g n cap size : Nat} {t : TypeId} : ∀ (vs : List Value) (w : World) (xs : List Value) (k i : Nat), w.ownsRow 0 t size (.slice (some ⟨g, 0, none⟩) n cap) n xs → k + i + vs.length ≤ xs.length → (∀ u ∈ vs, u.oneCell' = true) →
    ∃ w', (storeCells ((⟨g, 0, none⟩ : Addr).add k) vs i).run P w = .ok () w' ∧ w'.ownsRow 0 t size (.slice (some ⟨g, 0, none⟩) n cap) n (ovw xs (k + i) vs) ∧ w.grownBy w' (some g) ∧ w'.heap.size = w.heap.size
  | [], w, xs, k, i, h, _, _ => ⟨w, rfl, by cases xs <;> simpa [ovw] using h, World.grownBy.refl w _, rfl⟩
  | v :: vs, w, xs, k, i, h, hl, h1 => by
    have hlt : k + i < xs.length := by simp at hl; omega
    have hcell : w.cell? ⟨g, k + i, none⟩ = xs[k + i]? := h.cellAt (k + i) (by rw [← h.1]; exact hlt)
    have hfr := h.frozenAt (k + i)
    obtain ⟨hs1, hg1⟩ := h.stored (k + i) v
    obtain ⟨w', hr, hh, hg2, hsz⟩ := run_storeCells_row (P := P) vs (w.setCell ⟨g, k + i, none⟩ v) (xs.set (k + i) v) k (i + 1) hs1 (by simp at hl ⊢; omega) (fun u hu => h1 u (.tail _ hu))
    refine ⟨w', ?_, ?_, ⟨hg2.os.trans hg1.os, hg2.tape.trans hg1.tape, hg2.output.trans hg1.output, Nat.le_trans hg1.size hg2.size, fun c hc hne => (hg2.block c (by simpa using hc) hne).trans (hg1.block c hc hne)⟩, by rw [hsz]; simp⟩
    · have haddr : (((⟨g, 0, none⟩ : Addr).add k).add i) = ⟨g, k + i, none⟩ := by rw [add_add, add_lit]; simp
      have hstore := run_store P w (((⟨g, 0, none⟩ : Addr).add k).add i) v .plain (h1 v (.head _))
      rw [haddr] at hstore
      simp only [storeCells, Sem.run_bind, haddr, hstore]
      rw [hcell, List.getElem?_eq_getElem hlt, hfr]
      simpa using hr
    · rw [ovw_cons]
      exact hh

theorem O_storeR {t e : TypeId} {x y : Operand} {q off : Nat} {w0 : Value} {vs r r' : List Value} {G' : List Ent} {l' : List α} (hx : ev env x = some (.pointer (some ((elA v q T.size).add off)))) (hy : ev env y = some w0)
    (hv : w0.cells = vs.toArray) (ht : P.cellsOf t = vs.length) (hn : Nat.beq vs.length 0 = false) (hu : Upd G (.row v e T.size rows.flatten) (.row v e T.size (rows.set q r').flatten) G') (hR : RowR T K rows l) (hr : rows[q]? = some r) (ho : ovw r off vs = r') (h1 : vs.all Value.oneCell' = true) (hl : Nat.ble (off + vs.length) T.size = true)
    (hR' : RowR T K (rows.set q r') l') (h : RowR T K (rows.set q r') l' → R env K G') : OpW P n ⟨none, .store t x y, ty, pos, af, g⟩ env K G R :=
  fun E w a hs ha next Q hk => by
    subst ho
    have hn' : vs.length ≠ 0 := fun e => by rw [e] at hn; cases hn
    have hl' : off + vs.length ≤ T.size := by simpa [Nat.ble_eq] using hl
    unfold Oper.wp
    obtain ⟨A, c, rfl, hc1, hc2, hc3⟩ := row_shape (hs.g _ hu.mem) hR.sizes (by omega)
    have hq : q < rows.length := (List.getElem?_eq_some_iff.1 hr).1
    obtain ⟨g0, rfl⟩ := hc3 (by omega)
    obtain ⟨m', hown⟩ := hs.g _ hu.mem
    have hmr : m' = rows.length := Nat.eq_of_mul_eq_mul_right (show 0 < T.size by omega) (by rw [← hown.1, flatten_length hR.sizes])
    subst hmr
    have hle : q * T.size + T.size ≤ rows.length * T.size := by rw [← Nat.succ_mul]; exact Nat.mul_le_mul_right _ hq
    obtain ⟨w', hrun, hh, hg, hsz⟩ := run_storeCells_row (P := P) vs w rows.flatten (q * T.size + off) 0 hown (by rw [flatten_length hR.sizes]; omega) (by simpa using h1)
    rw [Nat.add_zero, rows_set hR.sizes hr hl'] at hh
    have hadd : ((elA (.slice (some ⟨g0, 0, none⟩) rows.length c) q T.size).add off) = (⟨g0, 0, none⟩ : Addr).add (q * T.size + off) := by simp only [elA]; rw [add_add]
    rw [hadd] at hx
    simp only [execOp, ha.ev hx, ha.ev hy, Instr.storeAt, Instr.sureAddr, storeVar, hv]
    simp [run_size ht hn', hrun]
    rw [Oper.upon_skip]
    have hf := hs.apart _ hu.mem
    refine hk _ _ _ _ _ (Kp.le_refl K) (hs.upd hu hg.os hg.tape hg.output (fun c hc hne => hg.block c hc (fun e => hne (by cases e; simp [Ent.own, Value.ownBlock]))) ⟨_, hh⟩ (fun c hc => .inl hc) ?_ hf (row_off hf)) ha (h hR')
    simp [Ent.own, Value.ownBlock]
/-- Settling, typed. -/
theorem Ow.settleT {G' : List Ent} {t : TypeId} (hu : Upd G (.row v t T.size rows.flatten) (.tok t T.size [v]) G') (hr : RowR T K rows l) (hz : Nat.blt 0 T.size = true)
    (h : ∀ K', K.le K' → Slr T K' v l → Ow P n ops ls env K' G' R) : Ow P n ops ls env K G R :=
  Ow.settle hu hr.sizes (lt_of_blt hz) fun K' hk hs => h K' hk ⟨rows, hs, hr.mono hk⟩
theorem Cw.settleT {c : Code} {G' : List Ent} {t : TypeId} (hu : Upd G (.row v t T.size rows.flatten) (.tok t T.size [v]) G') (hr : RowR T K rows l) (hz : Nat.blt 0 T.size = true)
    (h : ∀ K', K.le K' → Slr T K' v l → Cw P n c env K' G' Q) : Cw P n c env K G Q :=
  Cw.settle hu hr.sizes (lt_of_blt hz) fun K' hk hs => h K' hk ⟨rows, hs, hr.mono hk⟩
theorem Aw.settleT {G' : List Ent} {t : TypeId} (hu : Upd G (.row v t T.size rows.flatten) (.tok t T.size [v]) G') (hr : RowR T K rows l) (hz : Nat.blt 0 T.size = true) (hi : Inc G0 G')
    (h : ∀ K', K.le K' → Slr T K' v l → Aw P n ops K0 G0 fuel listed env K' G' R) : Aw P n ops K0 G0 fuel listed env K G R := fun hk _ E w a hs ha Q hp hq => by
  obtain ⟨K', hle, hs', hsl⟩ := sat_settle hs hu hr.sizes (lt_of_blt hz)
  exact h K' hle ⟨rows, hsl, hr.mono hle⟩ (hk.trans hle) hi E w a hs' ha Q hp fun a' w' env' K'' G' h1 => hq a' w' env' K'' G' (hle.trans h1)
theorem Ow.pull {e : Ent} {G2 : List Ent} (hr : Rem G e G2) (h : Ow P n ops ls env K (e :: G2) R) : Ow P n ops ls env K G R := Ow.ghost (fun _ _ hs => hs.perm hr.perm) h
theorem Cw.pull {c : Code} {e : Ent} {G2 : List Ent} (hr : Rem G e G2) (h : Cw P n c env K (e :: G2) Q) : Cw P n c env K G Q := Cw.ghost (fun _ _ hs => hs.perm hr.perm) h
theorem Aw.ghost {G' : List Ent} (hp : ∀ E w, Sat E w K G → Sat E w K G') (hi : Inc G0 G') (h : Aw P n ops K0 G0 fuel listed env K G' R) : Aw P n ops K0 G0 fuel listed env K G R :=
  fun hk _ E w a hs ha Q hq => h hk hi E w a (hp E w hs) ha Q hq
theorem Aw.pull {e : Ent} {G2 : List Ent} (hr : Rem G e G2) (hi : Inc G0 (e :: G2)) (h : Aw P n ops K0 G0 fuel listed env K (e :: G2) R) : Aw P n ops K0 G0 fuel listed env K G R := Aw.ghost (fun _ _ hs => hs.perm hr.perm) hi h
theorem Aw.rem {e : Ent} {G2 : List Ent} (hr : Rem G e G2) (hi : Inc G0 G2) (h : Aw P n ops K0 G0 fuel listed env K G2 R) : Aw P n ops K0 G0 fuel listed env K G R := Aw.ghost (fun _ _ hs => hs.rem hr) hi h
theorem Aw.nilRow (t : TypeId) (size : Nat) (hi : Inc G0 (.row (.slice none 0 0) t size [] :: G)) (h : Aw P n ops K0 G0 fuel listed env K (.row (.slice none 0 0) t size [] :: G) R) : Aw P n ops K0 G0 fuel listed env K G R := Aw.ghost (fun _ _ hs => hs.nilRow t size) hi h
theorem Aw.nilTok (t : TypeId) (size m : Nat) (hi : Inc G0 (.tok t size (List.replicate m (.slice none 0 0)) :: G)) (h : Aw P n ops K0 G0 fuel listed env K (.tok t size (List.replicate m (.slice none 0 0)) :: G) R) : Aw P n ops K0 G0 fuel listed env K G R := Aw.ghost (fun _ _ hs => hs.nilTok t size m) hi h
end rules
end Go.Hx

namespace Go.Hx
open Go
set_option linter.unusedVariables false

theorem inj1 {α : Type} {a b : α} (h : some a = some b) : a = b := by cases h; rfl
theorem inj2 {α β : Type} {a c : α} {b d : β} (h : some (a, b) = some (c, d)) : a = c ∧ b = d := by cases h; exact ⟨rfl, rfl⟩
theorem inj3 {α β γ : Type} {a a' : α} {b b' : β} {c c' : γ} (h : some (a, b, c) = some (a', b', c')) : a = a' ∧ b = b' ∧ c = c' := by cases h; exact ⟨rfl, rfl, rfl⟩
theorem inj4 {α β γ δ : Type} {a a' : α} {b b' : β} {c c' : γ} {d d' : δ} (h : some (a, b, c, d) = some (a', b', c', d')) : a = a' ∧ b = b' ∧ c = c' ∧ d = d' := by cases h; exact ⟨rfl, rfl, rfl, rfl⟩
theorem set_at {rows : List (List Value)} {q : Nat} {r v : List Value} (h : rows[q]? = some r) : (rows.set q v)[q]? = some v := by
  have := (List.getElem?_eq_some_iff.1 h).1
  rw [List.getElem?_set_self this]
def one (v : Value) : List Value := [v]
theorem map_one_replicate {n : Nat} {v : Value} : (List.replicate n v).map one = List.replicate n [v] := by simp [one]
/-- The same world seen with more settled and other entries. -/
def Shift (K : Kp) (G : List Ent) (R : Kp → List Ent → Prop) : Prop := ∀ E w, Sat E w K G → ∃ K' G', K.le K' ∧ Sat E w K' G' ∧ R K' G'
section
variable {K : Kp} {G G' G2 : List Ent} {R : Kp → List Ent → Prop} {e : Ent} {α : Type} {T : Ty α} {v : Value} {l : List α} {rows : List (List Value)}
theorem Shift.done (h : R K G) : Shift K G R := fun _ _ hs => ⟨K, G, Kp.le_refl K, hs, h⟩
theorem Shift.ghost (hp : ∀ E w, Sat E w K G → Sat E w K G') (h : Shift K G' R) : Shift K G R := fun E w hs => h E w (hp E w hs)
theorem Shift.pull (hr : Rem G e G2) (h : Shift K (e :: G2) R) : Shift K G R := Shift.ghost (fun _ _ hs => hs.perm hr.perm) h
theorem Shift.rem (hr : Rem G e G2) (h : Shift K G2 R) : Shift K G R := Shift.ghost (fun _ _ hs => hs.rem hr) h
theorem Shift.nilRow (t : TypeId) (size : Nat) (h : Shift K (.row (.slice none 0 0) t size ([] : List (List Value)).flatten :: G) R) : Shift K G R := Shift.ghost (fun _ _ hs => hs.nilRow t size) h
theorem Shift.nilTok (t : TypeId) (size m : Nat) (h : Shift K (.tok t size (List.replicate m (.slice none 0 0)) :: G) R) : Shift K G R := Shift.ghost (fun _ _ hs => hs.nilTok t size m) h
theorem Shift.nilTok1 (t : TypeId) (size : Nat) (h : Shift K (.tok t size [.slice none 0 0] :: G) R) : Shift K G R := Shift.ghost (fun _ _ hs => hs.nilTok t size 1) h
theorem Shift.nilTokV {vs : List Value} {m : Nat} (hv : vs = List.replicate m (.slice none 0 0)) (t : TypeId) (size : Nat) (h : Shift K (.tok t size vs :: G) R) : Shift K G R := by subst hv; exact Shift.nilTok t size m h
theorem Shift.settle {t : TypeId} (hu : Upd G (.row v t T.size rows.flatten) (.tok t T.size [v]) G') (hr : RowR T K rows l) (hz : Nat.blt 0 T.size = true)
    (h : ∀ K', K.le K' → Slr T K' v l → Shift K' G' R) : Shift K G R := fun E w hs => by
  obtain ⟨K', hle, hs', hsl⟩ := sat_settle hs hu hr.sizes (lt_of_blt hz)
  obtain ⟨K2, G2, h1, h2, h3⟩ := h K' hle ⟨rows, hsl, hr.mono hle⟩ E w hs'
  exact ⟨K2, G2, hle.trans h1, h2, h3⟩
end
section
variable {P : Program} {n : Nat} {env : Env} {K K0 : Kp} {G G0 : List Ent} {R : Cont} {Q : Post} {ops : Array Oper} {ls : List Oper} {c : Code} {fuel : Nat} {listed : Array Bool}
theorem Cw.shift (h : Shift K G fun K' G' => Cw P n c env K' G' Q) : Cw P n c env K G Q := fun E w a hs ha => by
  obtain ⟨K', G', h1, h2, h3⟩ := h E w hs
  exact Code.wp_mono (fun _ _ _ hq => QL.le h1 hq) (h3 E w a h2 ha)
theorem Ow.shift (h : Shift K G fun K' G' => Ow P n ops ls env K' G' R) : Ow P n ops ls env K G R := fun E w a hs ha Q hq => by
  obtain ⟨K', G', h1, h2, h3⟩ := h E w hs
  exact h3 E w a h2 ha Q fun a' w' env' K'' G'' g1 => hq a' w' env' K'' G'' (h1.trans g1)
theorem Aw.shift (h : Shift K G fun K' G' => Inc G0 G' ∧ Aw P n ops K0 G0 fuel listed env K' G' R) : Aw P n ops K0 G0 fuel listed env K G R := fun hk hi E w a hs ha Q hp hq => by
  obtain ⟨K', G', h1, h2, h3, h4⟩ := h E w hs
  exact h4 (hk.trans h1) h3 E w a h2 ha Q hp fun a' w' env' K'' G'' g1 => hq a' w' env' K'' G'' (h1.trans g1)

/-- What a piece of code leaves where ways meet. -/
def Meet (M : Cont) : Cont := fun env K G => Shift K G fun K' G' => ∃ env'', Sub env'' env ∧ M env'' K' G'
theorem Cw_join {x y : Code} (M : Cont) (h : Cw P n x env K G (thenQ (Meet M) Q)) (hy : ∀ env' K' G', K.le K' → M env' K' G' → Cw P n y env' K' G' Q) : Cw P n (.seq x y) env K G Q :=
  Cw_seq fun E w a hs ha => Code.wp_mono (fun ex a' w' hq => by
    obtain ⟨env', K', G', h1, h2, h3, h4⟩ := hq
    cases ex with
    | normal =>
      obtain ⟨K2, G2, g1, g2, env'', g3, g4⟩ := h4 E w' h2
      exact ⟨env'', K2, G2, h1.trans g1, g2, h3.sub g3, hy _ _ _ (h1.trans g1) g4⟩
    | _ => exact ⟨env', K', G', h1, h2, h3, h4⟩) (h E w a hs ha)
theorem Cw_loopM {c : Code} (I : Nat → Cont) (s0 : Nat) (h0 : Meet (I s0) env K G) (round : ∀ s env' K' G', K.le K' → I s env' K' G' → Cw P n c env' K' G' (thenQ (Meet fun env' K' G' => ∃ s', s' < s ∧ I s' env' K' G') Q)) :
    Cw P n (.loop c) env K G Q := fun E w a hs ha => by
  obtain ⟨K1, G1, h1, h2, env1, h3, h4⟩ := h0 E w hs
  intro b k cs
  have key : ∀ m env' K' G' a w, K.le K' → Sat E w K' G' → EnvOk n env' a → I m env' K' G' →
      ∃ e a' w', QL E n K Q e a' w' ∧ Arrives P (lone (b.at a (.code c :: .inLoop c :: k)) cs w) b k cs e a' w' := by
    intro m
    induction m using Nat.strongRecOn with
    | _ m ih =>
      intro env' K' G' a w h1 h2 h3 h4
      obtain ⟨e, a₁, w₁, hq, harr⟩ := round m env' K' G' h1 h4 E w a h2 h3 b (.inLoop c :: k) cs
      obtain ⟨env1, K1, G1, g1, g2, g3, g4⟩ := hq
      cases e with
      | normal =>
        obtain ⟨K2, G2, f1, f2, env'', f3, s', hlt, hI⟩ := g4 E w₁ g2
        obtain ⟨e₂, a₂, w₂, hq₂, harr₂⟩ := ih s' hlt env'' K2 G2 a₁ w₁ ((h1.trans g1).trans f1) f2 (g3.sub f3) hI
        exact ⟨e₂, a₂, w₂, hq₂, .of_steps (Steps.trans harr (.one step_inLoop)) harr₂⟩
      | exit id => exact ⟨_, a₁, w₁, ⟨env1, K1, G1, h1.trans g1, g2, g3, g4⟩, .pass (x := .inLoop c) rfl (fun _ _ => .inl (by simp)) harr⟩
      | goto l => exact ⟨_, a₁, w₁, ⟨env1, K1, G1, h1.trans g1, g2, g3, g4⟩, .pass (x := .inLoop c) rfl (fun _ _ => .inl (by simp)) harr⟩
      | ret => exact ⟨_, a₁, w₁, ⟨env1, K1, G1, h1.trans g1, g2, g3, g4⟩, .pass (x := .inLoop c) rfl (fun _ _ => .inl (by simp)) harr⟩
      | panic ch => exact ⟨_, a₁, w₁, ⟨env1, K1, G1, h1.trans g1, g2, g3, g4⟩, .pass (x := .inLoop c) rfl (fun _ _ => .inl (by simp)) harr⟩
      | outgrown => exact ⟨_, a₁, w₁, ⟨env1, K1, G1, h1.trans g1, g2, g3, g4⟩, .pass (x := .inLoop c) rfl (fun _ _ => .inl (by simp)) harr⟩
  obtain ⟨e, a', w', hq, harr⟩ := key s0 env1 K1 G1 a w h1 h2 (ha.sub h3) h4
  exact ⟨e, a', w', hq, .of_steps (.one step_loop) harr⟩

def retM (P : Program) (rs : List ResultVar) (Q : Value → Kp → List Ent → Prop) : Post := fun ex env K G => (ex = .ret ∨ ex = .normal) ∧ ∃ vs, RetAll P env K G rs vs ∧ Shift K G fun K' G' => Q (mkRes vs) K' G'
theorem Fc_body {f : FuncId} {fn : Func} {c : Code} {n : Nat} {args : Array Value} {Q : Value → Kp → List Ent → Prop} {rs : Array ResultVar}
    (hf : P.funcs[f]? = some fn) (hb : fn.body = some c) (hn : fn.ntmps = n) (hres : fn.results = rs) (hle : Nat.ble args.size n = true)
    (h : Cw P n c (argEnv 0 args.toList) K G (retM P rs.toList Q)) : Fc P f args K G Q := fun E w hs => by
  have hle' : args.size ≤ n := by simpa [Nat.ble_eq] using hle
  refine calls_of_wp hf hb (Code.wp_mono (fun ex a' w' hq => ?_) (h E w _ hs ⟨?_, rfl, fun t v ht => ?_⟩))
  · obtain ⟨env', K', G', h1, h2, h3, h4, vs, h5, h6⟩ := hq
    obtain ⟨K2, G2, g1, g2, g3⟩ := h6 E w' h2
    have hrun : (results fn a'.tmps).run P w' = .ok (mkRes vs) w' := by
      have := RetAll.run (P := P) h3 h2.toSatW _ _ h5
      rw [results_eq, hres]
      obtain ⟨l⟩ := rs
      rw [List.mapM_toArray]
      simp only [Sem.run_map, Sem.run_bind, Sem.run_pure]
      rw [this]
      match vs with
      | [] => simp [mkRes]
      | [v] => simp [mkRes]
      | v :: u :: r => simp [mkRes]
    rcases h4 with rfl | rfl <;> exact ⟨h3.defers, _, hrun, _, K2, G2, rfl, h1.trans g1, g2, g3⟩
  · simp [hn]; omega
  · obtain ⟨_, h2⟩ := lk_argEnv _ _ _ _ ht
    simp only [Nat.sub_zero] at h2
    have hlt : t < args.size := by
      have := (List.getElem?_eq_some_iff.1 h2).1
      simpa using this
    simp only [Array.getD_eq_getD_getElem?, Array.getElem?_append_left hlt]
    have h2' : args[t]? = some v := by simpa using h2
    rw [h2']; rfl
end
section
variable {R A B C D E F : Type} {r : R} {n : Nat}
theorem lps1 {f : (A → Option R) → A → Option R} {a : A} (h : lp1 f n a = some r) : ∃ m k, n = m + 1 ∧ k = lp1 f m ∧ f k a = some r := by
  cases n with
  | zero => cases h
  | succ m => exact ⟨m, _, rfl, rfl, h⟩
theorem lps2 {f : (A → B → Option R) → A → B → Option R} {a : A} {b : B} (h : lp2 f n a b = some r) : ∃ m k, n = m + 1 ∧ k = lp2 f m ∧ f k a b = some r := by
  cases n with
  | zero => cases h
  | succ m => exact ⟨m, _, rfl, rfl, h⟩
theorem lps3 {f : (A → B → C → Option R) → A → B → C → Option R} {a : A} {b : B} {c : C} (h : lp3 f n a b c = some r) : ∃ m k, n = m + 1 ∧ k = lp3 f m ∧ f k a b c = some r := by
  cases n with
  | zero => cases h
  | succ m => exact ⟨m, _, rfl, rfl, h⟩
theorem lps4 {f : (A → B → C → D → Option R) → A → B → C → D → Option R} {a : A} {b : B} {c : C} {d : D} (h : lp4 f n a b c d = some r) : ∃ m k, n = m + 1 ∧ k = lp4 f m ∧ f k a b c d = some r := by
  cases n with
  | zero => cases h
  | succ m => exact ⟨m, _, rfl, rfl, h⟩
theorem lps5 {f : (A → B → C → D → E → Option R) → A → B → C → D → E → Option R} {a : A} {b : B} {c : C} {d : D} {e : E} (h : lp5 f n a b c d e = some r) : ∃ m k, n = m + 1 ∧ k = lp5 f m ∧ f k a b c d e = some r := by
  cases n with
  | zero => cases h
  | succ m => exact ⟨m, _, rfl, rfl, h⟩
theorem lps6 {f : (A → B → C → D → E → F → Option R) → A → B → C → D → E → F → Option R} {a : A} {b : B} {c : C} {d : D} {e : E} {x : F} (h : lp6 f n a b c d e x = some r) : ∃ m k, n = m + 1 ∧ k = lp6 f m ∧ f k a b c d e x = some r := by
  cases n with
  | zero => cases h
  | succ m => exact ⟨m, _, rfl, rfl, h⟩
end
end Go.Hx

namespace Go.Hx
open Go
set_option linter.unusedVariables false
set_option linter.unusedSimpArgs false
def remO (a b : Int) : Option Int := if b = 0 then none else some (Int.tmod a b)
def quoO (a b : Int) : Option Int := if b = 0 then none else some (Int.tdiv a b)
section
variable {P : Program} {n : Nat} {env : Env} {K : Kp} {G : List Ent} {R : Cont} {Q : Post} {ops : Array Oper} {l rest : List Oper}
variable {d : Nat} {dd : Option Tmp} {ty : TypeId} {pos : String} {af : Array Edge} {g : Option (Nat × Bool)}
theorem Qt_buildArr {t e : TypeId} {ps : Array (Nat × Operand)} {pvs : List (Nat × Value)} {m : Nat} {i : TypeInfo} {z : Value} {cs : List Value} (hp : partsEv env ps.toList = some pvs) (ht : P.underlying t = some (.array m e)) (hi : P.info? t = some i) (hz : i.zero = some z)
    (he : (P.info? e).isSome = true)
    (hf : fillL (fun k => some (k * P.cellsOf e, P.cellsOf e)) z.cells.toList (pvs.map fun p => (p.1, p.2.cells.toList)) = some cs) : Qt P n ⟨dd, .build t ps, ty, pos, af, g⟩ env K G (.agg cs.toArray) := fun w a _ ha => by
  have hps : (ps.map fun (i, x) => (i, a.eval x)) = pvs.toArray := by
    obtain ⟨l⟩ := ps
    simp only [List.map_toArray]
    rw [← partsEv_map ha l pvs hp]
  obtain ⟨j, hj⟩ := Option.isSome_iff_exists.1 he
  have hsz : ∀ w, (sizeOf e).run P w = .ok (P.cellsOf e) w := fun w => run_sizeOf' hj (by simp [Program.cellsOf, hj]) w
  have hfill := fill_eq _ pvs z.cells cs hf
  simp only [execOp]
  rw [hps]
  simp only [Instr.build, zeroValue, typeInfo, Sem.run_bind, run_program, Result.andThen_ok, hi, Sem.run_pure, hz, run_und ht, hsz]
  rw [hfill]
  simp
/-- An element of an array that is a variable. -/
theorem Qt_ixArr {t e : TypeId} {x i : Operand} {A : Addr} {k : IntKind} {j : Int} {len q o m : Nat} (hx : ev env x = some (.pointer (some (A.add o)))) (hi : ev env i = some (.int k j)) (ht : P.underlying t = some (.array len e)) (hs : (P.info? e).isSome = true)
    (hj : j = (q : Int)) (hq : q < len) (hm : o + q * P.cellsOf e = m) (h1 : Nat.blt 1 len = true) : Qt P n ⟨dd, .indexAddr t x i, ty, pos, af, g⟩ env K G (.pointer (some (A.add m))) := fun w a _ ha => by
  obtain ⟨i', hi'⟩ := Option.isSome_iff_exists.1 hs
  have hsz : ∀ w, (sizeOf e).run P w = .ok (P.cellsOf e) w := fun w => run_sizeOf' hi' (by simp [Program.cellsOf, hi']) w
  subst hj hm
  simp [execOp, ha.ev hx, ha.ev hi, Instr.indexAt, asIntOf, run_und ht, hq, hsz, Instr.sureAddr, add_add]
theorem Qt_min2 {x y : Operand} {k k' : IntKind} {p q : Int} {ts : Array TypeId}
    (hx : ev env x = some (.int k p)) (hy : ev env y = some (.int k' q)) : Qt P n ⟨dd, .call { callee := .builtin .min, args := #[x, y], argTypes := ts }, ty, pos, af, g⟩ env K G (.int k (if q < p then q else p)) := fun w a _ ha => by
  simp [execOp, resolve, invoke, builtin, ha.ev hx, ha.ev hy, run_min_int2]
theorem Qt_max2 {x y : Operand} {k k' : IntKind} {p q : Int} {ts : Array TypeId}
    (hx : ev env x = some (.int k p)) (hy : ev env y = some (.int k' q)) : Qt P n ⟨dd, .call { callee := .builtin .max, args := #[x, y], argTypes := ts }, ty, pos, af, g⟩ env K G (.int k (if p < q then q else p)) := fun w a _ ha => by
  simp [execOp, resolve, invoke, builtin, ha.ev hx, ha.ev hy, run_max_int2]
theorem Q_rem {t t' : TypeId} {x y : Operand} {k : IntKind} {a b r : Int} (h : remO a b = some r) (hx : ev env x = some (.int k a)) (hy : ev env y = some (.int k b)) : Qt P n ⟨dd, .binOp .rem t x y t', ty, pos, af, g⟩ env K G (.int k r) := by
  unfold remO at h
  split at h
  · cases h
  · cases h; exact Qt_rem hx hy ‹_›
theorem Q_quo {t t' : TypeId} {x y : Operand} {k : IntKind} {a b r : Int} (h : quoO a b = some r) (hx : ev env x = some (.int k a)) (hy : ev env y = some (.int k b)) : Qt P n ⟨dd, .binOp .quo t x y t', ty, pos, af, g⟩ env K G (.int k (k.wrap r)) := by
  unfold quoO at h
  split at h
  · cases h
  · cases h; exact Qt_quo hx hy ‹_›
theorem Qt_makeFunc {f : FuncId} {first captured : Array Operand} {fs cs : List Value} (hf : first.toList.mapM (ev env) = some fs) (hc : captured.toList.mapM (ev env) = some cs) : Qt P n ⟨dd, .makeFunc (.func f) first captured, ty, pos, af, g⟩ env K G (.func (.func f) fs.toArray cs.toArray) := fun w a _ ha => by
  have key : ∀ (l : List Operand) (vs : List Value), l.mapM (ev env) = some vs → l.map a.eval = vs := by
    intro l
    induction l with
    | nil => intro vs h; simp at h; simp [h]
    | cons o l ih =>
      intro vs h
      simp only [List.mapM_cons, Option.bind_eq_bind, Option.bind_eq_some_iff, Option.pure_def, Option.some.injEq] at h
      obtain ⟨u, hu, us, hus, rfl⟩ := h
      rw [List.map_cons, ha.ev hu, ih _ hus]
  obtain ⟨l1⟩ := first
  obtain ⟨l2⟩ := captured
  simp [execOp, Instr.makeFunc, List.map_toArray, key _ _ hf, key _ _ hc]
theorem eqArr2 {t e : TypeId} {a b c d : Value} {p q : Bool} {w : World} {m : Nat} (ht : P.underlying t = some (.array 2 e)) (hs : P.cellsOf e = 1) (hb : aggB P e = false) (hu : (P.underlying e).isSome = true)
    (h1 : (Op.equalIn m e a c).run P w = .ok p w) (h2 : (Op.equalIn m e b d).run P w = .ok q w) : (Op.equalIn (m + 1) t (.agg #[a, b]) (.agg #[c, d])).run P w = .ok (p && q) w := by
  have hp : ∀ (cs : Array Value) (i : Nat) (v : Value), cs[i]? = some v → (part e cs i).run P w = .ok v w := by
    intro cs i v h
    simp [part, run_isAgg' hb hu, h]
  have a0 := hp #[a, b] 0 a rfl
  have a1 := hp #[a, b] 1 b rfl
  have c0 := hp #[c, d] 0 c rfl
  have c1 := hp #[c, d] 1 d rfl
  simp only [Op.equalIn, Sem.run_bind, run_und ht, Result.andThen_ok, run_size hs (by decide)]
  cases p <;> cases q <;> simp [List.range', a0, a1, c0, c1, h1, h2]
theorem eqInt {t : TypeId} {k : IntKind} {a b : Int} {w : World} {m : Nat} (ht : P.underlying t = some (.int k)) : (Op.equalIn (m + 1) t (.int k a) (.int k b)).run P w = .ok (dcd (a = b)) w := by
  simp [Op.equalIn, run_und ht, dcd_eq]; rfl
/-- A slice held against nil: the value tells. -/
def isNil (v : Value) : Bool := match v with | .slice none _ _ => true | _ => false
theorem Qt_eqNilS {t t' e : TypeId} {x y : Operand} {s : SV} {n' c' : Nat} (hx : ev env x = some (sv s)) (hy : ev env y = some (.slice none n' c')) (ht : P.underlying t = some (.slice e)) :
    Qt P n ⟨dd, .binOp .eql t x y t', ty, pos, af, g⟩ env K G (.bool (isNil (sv s))) := fun w a _ ha => by
  have h := Lib.run_equalIn_slice_nil (P := P) w 9999 t e s.A s.n s.c n' c' ht
  have he : isNil (sv s) = s.A.isNone := by unfold isNil sv; cases s.A <;> rfl
  rw [he]
  have hx' : ev env x = some (.slice s.A s.n s.c) := hx
  simp only [execOp, ha.ev hx', ha.ev hy]
  simp [eqGuard_at_slice, binOp, Op.equal, Op.maxDepth, h]
theorem Slr.nil_of {α : Type} {T : Ty α} {K : Kp} {v : Value} {l : List α} (h : Slr T K v l) (hn : isNil v = true) : l = [] := by
  obtain ⟨rows, ⟨A, m, c, rfl, h2, _, _, _, h5⟩, h6⟩ := h
  have hl := All2.len h6
  cases l with
  | nil => rfl
  | cons x l =>
    obtain ⟨a, rfl, _⟩ := h5 (by rw [h2, hl]; simp)
    simp [isNil] at hn
theorem map_one_at {vs : List Value} {q : Nat} {x : Value} (h : (vs.map one)[q]? = some [x]) : vs[q]? = some x := by
  rw [List.getElem?_map] at h
  cases hv : vs[q]? with
  | none => rw [hv] at h; cases h
  | some y => rw [hv] at h; simp [one] at h; rw [h]
theorem set_map_one (vs : List Value) (q : Nat) (x : Value) : (vs.map one).set q [x] = (vs.set q x).map one := by
  rw [List.map_set]; rfl
theorem set_at_one {vs : List Value} {q : Nat} {r : List Value} {v : Value} (h : (vs.map one)[q]? = some r) : ((vs.set q v).map one)[q]? = some [v] := by
  rw [← set_map_one]; exact set_at h
end
end Go.Hx
