/-
  A small logic over the kit's walk: what is settled in memory (K), what the call owns (G), which slots are known (env).
-/
import Derived.WalkKit
import Derived.WalkSpells
import Derived.WalkLawsBesides
import Derived.OrdersHeld
import Derived.Maps.AppendAt
namespace Go.Hx
set_option linter.unusedVariables false
set_option linter.unusedSimpArgs false
open Go

/-! ### slots -/
abbrev Env := List (Nat × Value)
def lk : Env → Nat → Option Value
  | [], _ => none
  | (k, v) :: r, t => match Nat.beq k t with
    | true => some v
    | false => lk r t
theorem lk_hit {k t : Nat} {v : Value} {r : Env} (h : k = t) : lk ((k, v) :: r) t = some v := by
  subst h; simp [lk]
theorem lk_miss {k t : Nat} {v : Value} {r : Env} (h : k ≠ t) : lk ((k, v) :: r) t = lk r t := by
  have : Nat.beq k t = false := by cases hb : Nat.beq k t with
    | false => rfl
    | true => exact absurd (Nat.eq_of_beq_eq_true hb) h
  simp [lk, this]

structure EnvOk (n : Nat) (env : Env) (a : Act) : Prop where
  size : a.tmps.size = n
  defers : a.defers = []
  at_ : ∀ t v, lk env t = some v → a.tmps.getD t undef = v

def ev (env : Env) : Operand → Option Value
  | .tmp t => lk env t
  | .const v => some v
  | .global g => some (.pointer (some ⟨g, 0, none⟩))
  | .func f => some (.func (.func f) #[] #[])

theorem EnvOk.ev {n : Nat} {env : Env} {a : Act} (h : EnvOk n env a) {x : Operand} {v : Value} (hv : ev env x = some v) : a.eval x = v := by
  cases x with
  | tmp t => exact h.at_ t v hv
  | const u => simpa [Hx.ev, Act.eval] using hv
  | global g => simpa [Hx.ev, Act.eval] using hv
  | func f => simpa [Hx.ev, Act.eval] using hv

theorem EnvOk.put {n : Nat} {env : Env} {a : Act} (h : EnvOk n env a) {d : Nat} (hd : d < n) (v : Value) : EnvOk n ((d, v) :: env) (a.put (some d) v) := by
  refine ⟨by simp [Act.put, h.size], by simp [Act.put, h.defers], fun t u hu => ?_⟩
  by_cases e : d = t
  · subst e
    rw [lk_hit rfl] at hu
    cases hu
    have := h.size
    simp [Act.put, this, hd]
  · rw [lk_miss e] at hu
    have := h.at_ t u hu
    simp only [Act.put, Array.getD_eq_getD_getElem?] at this ⊢
    rw [Array.getElem?_setIfInBounds_ne e]
    exact this

def Sub : Env → Env → Prop
  | [], _ => True
  | (t, v) :: r, env => lk env t = some v ∧ Sub r env
theorem Sub.lk {e1 e2 : Env} (h : Sub e1 e2) {t : Nat} {v : Value} (hv : lk e1 t = some v) : Hx.lk e2 t = some v := by
  induction e1 with
  | nil => simp [Hx.lk] at hv
  | cons p r ih =>
    obtain ⟨k, u⟩ := p
    obtain ⟨h1, h2⟩ := h
    by_cases e : k = t
    · subst e; rw [lk_hit rfl] at hv; cases hv; exact h1
    · rw [lk_miss e] at hv; exact ih h2 hv
theorem EnvOk.sub {n : Nat} {e1 e2 : Env} {a : Act} (h : EnvOk n e2 a) (hs : Sub e1 e2) : EnvOk n e1 a :=
  ⟨h.size, h.defers, fun t v hv => h.at_ t v (hs.lk hv)⟩

/-! ### memory -/
/-- What is settled: cells that keep their values, blocks that keep everything. -/
structure Kp where
  c : Nat → Nat → Option Value
  o : Nat → Option Obj
def Kp.le (K K' : Kp) : Prop := (∀ b j v, K.c b j = some v → K'.c b j = some v) ∧ ∀ b o, K.o b = some o → K'.o b = some o
theorem Kp.le_refl (K : Kp) : K.le K := ⟨fun _ _ _ h => h, fun _ _ h => h⟩
theorem Kp.le.trans {K K' K'' : Kp} (h : K.le K') (h' : K'.le K'') : K.le K'' := ⟨fun b j v e => h'.1 b j v (h.1 b j v e), fun b o e => h'.2 b o (h.2 b o e)⟩

/-- An own entry: a block; a row that may be changed; an object; the room behind slices of elements of a size; many rows that may be changed. -/
inductive Ent where
  | blk (b : Nat) (t : TypeId) (cs : List Value)
  | row (v : Value) (t : TypeId) (size : Nat) (xs : List Value)
  | obj (b : Nat) (o : Obj)
  | tok (t : TypeId) (size : Nat) (vs : List Value)
  | rws (t : TypeId) (size : Nat) (vs : List Value) (xss : List (List Value))

def Ent.own : Ent → List Nat
  | .blk b _ _ => [b]
  | .row v _ _ _ => v.ownBlock.toList
  | .obj b _ => [b]
  | .tok _ _ vs => vs.filterMap Value.ownBlock
  | .rws _ _ vs _ => vs.filterMap Value.ownBlock

def Ent.holds (w : World) : Ent → Prop
  | .blk b t cs => w.heap[b]? = some (.cells cs.toArray t (0, 0))
  | .row v t size xs => ∃ n, w.ownsRow 0 t size v n xs
  | .obj b o => w.heap[b]? = some o
  | .tok t size vs => ∀ v ∈ vs, ∃ n xs, w.ownsRow 0 t size v n xs
  | .rws t size vs xss => vs.length = xss.length ∧ ∀ (i : Nat) (v : Value) (xs : List Value), vs[i]? = some v → xss[i]? = some xs → ∃ n, w.ownsRow 0 t size v n xs

/-- Nothing that is settled lies where the entry may write. -/
def Kp.off (K : Kp) (b from_ : Nat) : Prop := K.o b = none ∧ ∀ j, from_ ≤ j → K.c b j = none
def Ent.free (K : Kp) : Ent → Prop
  | .blk b _ _ => K.off b 0
  | .row v _ _ _ => ∀ b, v.ownBlock = some b → K.off b 0
  | .obj b _ => K.off b 0
  | .tok _ size vs => ∀ v ∈ vs, ∀ A n c, v = .slice (some A) n c → K.off A.block (n * size)
  | .rws _ _ vs _ => ∀ v ∈ vs, ∀ b, v.ownBlock = some b → K.off b 0

structure SatW (w : World) (K : Kp) (G : List Ent) : Prop where
  k : ∀ b j v, K.c b j = some v → ∃ cs t fr, w.heap[b]? = some (.cells cs t fr) ∧ cs[j]? = some v
  ko : ∀ b o, K.o b = some o → w.heap[b]? = some o
  g : ∀ e ∈ G, e.holds w

structure Sat (E w : World) (K : Kp) (G : List Ent) : Prop extends SatW w K G where
  os : w.os = E.os
  tape : w.tape = E.tape
  output : w.output = E.output
  apart : ∀ e ∈ G, e.free K
  nodup : (G.flatMap Ent.own).Nodup

theorem Sat.perm {E w : World} {K : Kp} {G G' : List Ent} (h : Sat E w K G) (hp : G.Perm G') : Sat E w K G' :=
  { k := h.k, ko := h.ko, g := fun x hx => h.g x (hp.mem_iff.2 hx), os := h.os, tape := h.tape, output := h.output, apart := fun x hx => h.apart x (hp.mem_iff.2 hx), nodup := (hp.flatMap_right Ent.own).nodup_iff.1 h.nodup }
theorem Sat.drop {E w : World} {K : Kp} {G : List Ent} {e : Ent} (h : Sat E w K (e :: G)) : Sat E w K G :=
  { k := h.k, ko := h.ko, os := h.os, tape := h.tape, output := h.output, g := fun x hx => h.g x (.tail _ hx), apart := fun x hx => h.apart x (.tail _ hx)
    nodup := by
      have hn := h.nodup
      rw [List.flatMap_cons] at hn
      exact (List.nodup_append.1 hn).2.1 }
theorem sub_flatMap {α β : Type} (f : α → List β) {l m : List α} (h : l.Sublist m) : (l.flatMap f).Sublist (m.flatMap f) := by
  induction h with
  | slnil => exact .refl _
  | cons a _ ih => rw [List.flatMap_cons]; exact ih.trans (List.sublist_append_right _ _)
  | cons_cons a _ ih => rw [List.flatMap_cons, List.flatMap_cons]; exact (List.Sublist.refl _).append ih
theorem Sat.less {E w : World} {K : Kp} {G G' : List Ent} (h : Sat E w K G) (hs : G'.Sublist G) : Sat E w K G' :=
  { k := h.k, ko := h.ko, g := fun e he => h.g e (hs.subset he), os := h.os, tape := h.tape, output := h.output, apart := fun e he => h.apart e (hs.subset he), nodup := h.nodup.sublist (sub_flatMap _ hs) }

theorem lt_of_some {w : World} {b : Nat} {o : Obj} (h : w.heap[b]? = some o) : b < w.heap.size := by
  rcases Nat.lt_or_ge b w.heap.size with h' | h'
  · exact h'
  · rw [Array.getElem?_eq_none h'] at h; cases h
theorem Ent.lt {w : World} {e : Ent} (h : e.holds w) {b : Nat} (hb : b ∈ e.own) : b < w.heap.size := by
  cases e with
  | blk c t cs => simp [Ent.own] at hb; subst hb; exact lt_of_some h
  | row v t s xs => obtain ⟨n, hn⟩ := h; simp [Ent.own] at hb; exact (hn.lt b hb).2
  | obj c o => simp [Ent.own] at hb; subst hb; exact lt_of_some h
  | tok t s vs =>
    simp only [Ent.own, List.mem_filterMap] at hb
    obtain ⟨v, hv, hb⟩ := hb
    obtain ⟨n, xs, hn⟩ := h v hv
    exact (hn.lt b hb).2
  | rws t s vs xss =>
    simp only [Ent.own, List.mem_filterMap] at hb
    obtain ⟨v, hv, hb⟩ := hb
    obtain ⟨hl, h⟩ := h
    obtain ⟨i, hi, he⟩ := List.mem_iff_getElem.1 hv
    obtain ⟨n, hn⟩ := h i v xss[i] (by rw [List.getElem?_eq_getElem hi, he]) (List.getElem?_eq_getElem (by omega))
    exact (hn.lt b hb).2

theorem ownsRow_of {w w' : World} {t : TypeId} {size n : Nat} {v : Value} {xs : List Value} (h : w.ownsRow 0 t size v n xs) (hb : ∀ b, v.ownBlock = some b → w'.heap[b]? = w.heap[b]?) : w'.ownsRow 0 t size v n xs := by
  obtain ⟨h1, h2⟩ := h
  refine ⟨h1, ?_⟩
  rcases h2 with h2 | ⟨g, cap, cur, rfl, hg, hh, h3⟩
  · exact .inl h2
  · exact .inr ⟨g, cap, cur, rfl, hg, (hb g rfl).trans hh, h3⟩
/-- An entry holds in a world that has the entry's blocks as they were. -/
theorem Ent.holds_of {w w' : World} {e : Ent} (h : e.holds w) (hb : ∀ b ∈ e.own, w'.heap[b]? = w.heap[b]?) : e.holds w' := by
  cases e with
  | blk c t cs => exact (hb c (by simp [Ent.own])).trans h
  | row v t size xs => obtain ⟨n, h⟩ := h; exact ⟨n, ownsRow_of h fun b e => hb b (by simp [Ent.own, e])⟩
  | obj c o => exact (hb c (by simp [Ent.own])).trans h
  | tok t size vs => exact fun v hv => let ⟨n, xs, h⟩ := h v hv; ⟨n, xs, ownsRow_of h fun b e => hb b (by simp only [Ent.own, List.mem_filterMap]; exact ⟨v, hv, e⟩)⟩
  | rws t size vs xss => exact ⟨h.1, fun i v xs hv hx => let ⟨n, h⟩ := h.2 i v xs hv hx; ⟨n, ownsRow_of h fun b e => hb b (by simp only [Ent.own, List.mem_filterMap]; exact ⟨v, List.mem_of_getElem? hv, e⟩)⟩⟩

/-! ### what a call, a piece of code, an operation does -/
def Fc (P : Program) (f : FuncId) (args : Array Value) (K : Kp) (G : List Ent) (Q : Value → Kp → List Ent → Prop) : Prop :=
  ∀ E w, Sat E w K G → Calls P f args w fun e w' => ∃ v K' G', e = .returned v ∧ K.le K' ∧ Sat E w' K' G' ∧ Q v K' G'

theorem Fc.mono {P : Program} {f : FuncId} {args : Array Value} {K : Kp} {G : List Ent} {Q Q' : Value → Kp → List Ent → Prop} (h : Fc P f args K G Q)
    (hq : ∀ v K' G', K.le K' → Q v K' G' → Q' v K' G') : Fc P f args K G Q' := fun E w hs =>
  (h E w hs).mono fun _ _ ⟨v, K', G', h1, h2, h3, h4⟩ => ⟨v, K', G', h1, h2, h3, hq _ _ _ h2 h4⟩

abbrev Post := Exit → Env → Kp → List Ent → Prop
abbrev Cont := Env → Kp → List Ent → Prop

def QL (E : World) (n : Nat) (K0 : Kp) (Q : Post) : Exit → Act → World → Prop := fun ex a' w' =>
  ∃ env' K' G', K0.le K' ∧ Sat E w' K' G' ∧ EnvOk n env' a' ∧ Q ex env' K' G'

def Cw (P : Program) (n : Nat) (c : Code) (env : Env) (K : Kp) (G : List Ent) (Q : Post) : Prop :=
  ∀ E w a, Sat E w K G → EnvOk n env a → c.wp P (QL E n K Q) a w

def thenQ (R : Cont) (Q : Post) : Post := fun ex env K G => match ex with
  | .normal => R env K G
  | e => Q e env K G

def OpW (P : Program) (n : Nat) (o : Oper) (env : Env) (K : Kp) (G : List Ent) (R : Cont) : Prop :=
  ∀ E w a, Sat E w K G → EnvOk n env a → ∀ (next : Act → World → Prop) (Q : Exit → Act → World → Prop),
    (∀ a' w' env' K' G', K.le K' → Sat E w' K' G' → EnvOk n env' a' → R env' K' G' → next a' w') → o.wp P a w next Q

def Ow (P : Program) (n : Nat) (ops : Array Oper) (l : List Oper) (env : Env) (K : Kp) (G : List Ent) (R : Cont) : Prop :=
  ∀ E w a, Sat E w K G → EnvOk n env a → ∀ (Q : Exit → Act → World → Prop),
    (∀ a' w' env' K' G', K.le K' → Sat E w' K' G' → EnvOk n env' a' → R env' K' G' → Q .normal a' w') → wpList P ops Q l a w

def Qt (P : Program) (n : Nat) (o : Oper) (env : Env) (K : Kp) (G : List Ent) (v : Value) : Prop :=
  ∀ w a, SatW w K G → EnvOk n env a → (execOp a.eval o).run P w = .ok (.value v) w

section rules
variable {P : Program} {n : Nat} {env : Env} {K : Kp} {G : List Ent} {Q : Post} {R : Cont}

theorem Cw.sub {c : Code} {env' : Env} (h : Cw P n c env' K G Q) (hs : Sub env' env) : Cw P n c env K G Q :=
  fun E w a hsat ha => h E w a hsat (ha.sub hs)

theorem Cw.mono {c : Code} {Q' : Post} (h : Cw P n c env K G Q) (hq : ∀ ex env' K' G', K.le K' → Q ex env' K' G' → Q' ex env' K' G') : Cw P n c env K G Q' :=
  fun E w a hs ha => Code.wp_mono (fun _ _ _ ⟨env', K', G', h1, h2, h3, h4⟩ => ⟨env', K', G', h1, h2, h3, hq _ _ _ _ h1 h4⟩) (h E w a hs ha)

theorem QL.le {E : World} {K K' : Kp} (h : K.le K') {ex : Exit} {a : Act} {w : World} (hq : QL E n K' Q ex a w) : QL E n K Q ex a w :=
  let ⟨env', K'', G', h1, h2⟩ := hq
  ⟨env', K'', G', h.trans h1, h2⟩

theorem Cw_seq {x y : Code} (h : Cw P n x env K G (thenQ (fun env K G => Cw P n y env K G Q) Q)) : Cw P n (.seq x y) env K G Q :=
  fun E w a hs ha => wp_seq (Code.wp_mono (fun ex a' w' hq => by
    obtain ⟨env', K', G', h1, h2, h3, h4⟩ := hq
    cases ex with
    | normal => exact Code.wp_mono (fun _ _ _ hq => QL.le h1 hq) (h4 E w' a' h2 h3)
    | _ => exact ⟨env', K', G', h1, h2, h3, h4⟩) (h E w a hs ha))

/-- The same with a named state in between: both ways of an 'if' meet there. -/
theorem Cw_cut {x y : Code} (M : Cont) (h : Cw P n x env K G (thenQ (fun env' K' G' => ∃ env'' G'', Sub env'' env' ∧ G''.Sublist G' ∧ M env'' K' G'') Q)) (hy : ∀ env' K' G', K.le K' → M env' K' G' → Cw P n y env' K' G' Q) : Cw P n (.seq x y) env K G Q :=
  Cw_seq (h.mono fun ex env' K' G' hle hq => by
    cases ex with
    | normal => obtain ⟨env'', G'', hs, hg, hm⟩ := hq; exact fun E w a hsat ha => ((hy _ _ _ hle hm).sub hs) E w a (hsat.less hg) ha
    | _ => exact hq)

theorem Cw_ret (h : Q .ret env K G) : Cw P n .ret env K G Q := fun _ _ _ hs ha => wp_ret ⟨env, K, G, Kp.le_refl K, hs, ha, h⟩
theorem Cw_skip (h : Q .normal env K G) : Cw P n .skip env K G Q := fun _ _ _ hs ha => wp_skip ⟨env, K, G, Kp.le_refl K, hs, ha, h⟩
theorem Cw_exit {id : Nat} (h : Q (.exit id) env K G) : Cw P n (.exit id) env K G Q := fun _ _ _ hs ha => wp_exit ⟨env, K, G, Kp.le_refl K, hs, ha, h⟩
theorem Cw_label {l : Nat} (h : Q .normal env K G) : Cw P n (.label l) env K G Q := fun _ _ _ hs ha => wp_label ⟨env, K, G, Kp.le_refl K, hs, ha, h⟩

theorem Cw_cond {c : Operand} {x y : Code} {t : Bool} (hc : ev env c = some (.bool t)) (h1 : t = true → Cw P n x env K G Q) (h2 : t = false → Cw P n y env K G Q) :
    Cw P n (.cond c x y) env K G Q := fun E w a hs ha =>
  wp_cond_split (ha.ev hc) (fun ht => h1 ht E w a hs ha) (fun ht => h2 ht E w a hs ha)
theorem Cw_cond_t {c : Operand} {x y : Code} (hc : ev env c = some (.bool true)) (h1 : Cw P n x env K G Q) :
    Cw P n (.cond c x y) env K G Q := Cw_cond hc (fun _ => h1) (fun h => by cases h)
theorem Cw_cond_f {c : Operand} {x y : Code} (hc : ev env c = some (.bool false)) (h1 : Cw P n y env K G Q) :
    Cw P n (.cond c x y) env K G Q := Cw_cond hc (fun h => by cases h) (fun _ => h1)

def inBlk (id : Nat) (Q : Post) : Post := fun ex env K G => match ex with
  | .exit id' => if id' = id then Q .normal env K G else Q (.exit id') env K G
  | e => Q e env K G
theorem Cw_block {id : Nat} {c : Code} (h : Cw P n c env K G (inBlk id Q)) : Cw P n (.block id c) env K G Q := fun E w a hs ha =>
  wp_block (Code.wp_mono (fun ex a' w' hq => by
    obtain ⟨env', K', G', h1, h2, h3, h4⟩ := hq
    cases ex with
    | exit id' =>
      simp only [Exit.inBlock]
      simp only [inBlk] at h4
      split
      · rename_i e; rw [if_pos e] at h4; exact ⟨env', K', G', h1, h2, h3, h4⟩
      · rename_i e; rw [if_neg e] at h4; exact ⟨env', K', G', h1, h2, h3, h4⟩
    | _ => exact ⟨env', K', G', h1, h2, h3, h4⟩) (h E w a hs ha))

/-- A loop: 'S' is what changes from round to round. -/
theorem Cw_loop {c : Code} {S : Type} (I : S → Env → Kp → List Ent → Prop) (μ : S → Nat) (s0 : S) (env0 : Env) (G0 : List Ent) (h0 : I s0 env0 K G0) (hsub : Sub env0 env) (hgsub : G0.Sublist G)
    (round : ∀ s env' K' G', K.le K' → I s env' K' G' → Cw P n c env' K' G' (thenQ (fun env' K' G' => ∃ s' env'' G'', Sub env'' env' ∧ G''.Sublist G' ∧ μ s' < μ s ∧ I s' env'' K' G'') Q)) :
    Cw P n (.loop c) env K G Q := fun E w a hs ha => by
  intro b k cs
  have key : ∀ m s env' K' G' a w, μ s = m → K.le K' → Sat E w K' G' → EnvOk n env' a → I s env' K' G' →
      ∃ e a' w', QL E n K Q e a' w' ∧ Arrives P (lone (b.at a (.code c :: .inLoop c :: k)) cs w) b k cs e a' w' := by
    intro m
    induction m using Nat.strongRecOn with
    | _ m ih =>
      intro s env' K' G' a w h5 h1 h2 h3 h4
      obtain ⟨e, a₁, w₁, hq, harr⟩ := round s env' K' G' h1 h4 E w a h2 h3 b (.inLoop c :: k) cs
      obtain ⟨env1, K1, G1, g1, g2, g3, g4⟩ := hq
      cases e with
      | normal =>
        obtain ⟨s', env'', G'', hsb, hgs, hlt, hI⟩ := g4
        obtain ⟨e₂, a₂, w₂, hq₂, harr₂⟩ := ih (μ s') (h5 ▸ hlt) s' env'' K1 G'' a₁ w₁ rfl (h1.trans g1) (g2.less hgs) (g3.sub hsb) hI
        exact ⟨e₂, a₂, w₂, hq₂, .of_steps (Steps.trans harr (.one step_inLoop)) harr₂⟩
      | exit id => exact ⟨_, a₁, w₁, ⟨env1, K1, G1, h1.trans g1, g2, g3, g4⟩, .pass (x := .inLoop c) rfl (fun _ _ => .inl (by simp)) harr⟩
      | goto l => exact ⟨_, a₁, w₁, ⟨env1, K1, G1, h1.trans g1, g2, g3, g4⟩, .pass (x := .inLoop c) rfl (fun _ _ => .inl (by simp)) harr⟩
      | ret => exact ⟨_, a₁, w₁, ⟨env1, K1, G1, h1.trans g1, g2, g3, g4⟩, .pass (x := .inLoop c) rfl (fun _ _ => .inl (by simp)) harr⟩
      | panic ch => exact ⟨_, a₁, w₁, ⟨env1, K1, G1, h1.trans g1, g2, g3, g4⟩, .pass (x := .inLoop c) rfl (fun _ _ => .inl (by simp)) harr⟩
      | outgrown => exact ⟨_, a₁, w₁, ⟨env1, K1, G1, h1.trans g1, g2, g3, g4⟩, .pass (x := .inLoop c) rfl (fun _ _ => .inl (by simp)) harr⟩
  obtain ⟨e, a', w', hq, harr⟩ := key _ s0 env0 K G0 a w rfl (Kp.le_refl K) (hs.less hgsub) (ha.sub hsub) h0
  exact ⟨e, a', w', hq, .of_steps (.one step_loop) harr⟩

/-! ### a region in the order of its text -/
theorem Cw_region {id : Nat} {l : List Oper} (h : Ow P n l.toArray l env K G (fun env K G => Q .normal env K G)) : Cw P n (.region id l.toArray false) env K G Q :=
  fun E w a hs ha => wp_region_lit (h E w a hs ha _ fun a' w' env' K' G' h1 h2 h3 h4 => ⟨env', K', G', h1, h2, h3, h4⟩)

variable {ops : Array Oper} {rest : List Oper} {o : Oper}
theorem Ow_nil (h : R env K G) : Ow P n ops [] env K G R := fun _ w a hs ha _ hq => wpList_nil (hq a w env K G (Kp.le_refl K) hs ha h)

theorem OpW.mono {R' : Cont} (h : OpW P n o env K G R) (hr : ∀ env' K' G', K.le K' → R env' K' G' → R' env' K' G') : OpW P n o env K G R' :=
  fun E w a hs ha next Q hk => h E w a hs ha next Q fun a' w' env' K' G' h1 h2 h3 h4 => hk a' w' env' K' G' h1 h2 h3 (hr _ _ _ h1 h4)

theorem Ow_cons (hg : o.guard = none) (h : OpW P n o env K G (fun env' K' G' => Ow P n ops rest env' K' G' R)) : Ow P n ops (o :: rest) env K G R :=
  fun E w a hs ha Q hq => wpList_plain hg fun Kc hK => h E w a hs ha Kc Q fun a' w' env' K' G' h1 h2 h3 h4 =>
    hK a' w' (h4 E w' a' h2 h3 Q fun a'' w'' env'' K'' G'' g1 g2 g3 g4 => hq a'' w'' env'' K'' G'' (h1.trans g1) g2 g3 g4)

theorem wanted_of {j d : Nat} {b c : Bool} {a : Act} (hg : o.guard = some (j, b)) (hd : (ops[j]?).bind (·.dst) = some d) (ha : EnvOk n env a) (hv : lk env d = some (.bool c))
    (hlt : d < n) : Region.wanted o (yielded ops a.tmps) = (c == b) := by
  have h1 := ha.at_ d _ hv
  have h2 : a.tmps[d]? = some (.bool c) := by
    have hsz : d < a.tmps.size := by rw [ha.size]; exact hlt
    rw [Array.getElem?_eq_getElem hsz]
    rw [Array.getD_eq_getD_getElem?, Array.getElem?_eq_getElem hsz] at h1
    simpa using h1
  simp only [Region.wanted, hg, yielded, hd]
  cases c <;> cases b <;> simp_all

theorem Ow_want {j d : Nat} {b : Bool} (hg : o.guard = some (j, b)) (hd : (ops[j]?).bind (·.dst) = some d) (hv : lk env d = some (.bool b)) (hlt : Nat.blt d n = true)
    (h : OpW P n o env K G (fun env' K' G' => Ow P n ops rest env' K' G' R)) : Ow P n ops (o :: rest) env K G R :=
  fun E w a hs ha Q hq => wpList_step fun Kc hK => by
    rw [wanted_of hg hd ha hv (by simpa [Nat.blt_eq] using hlt)]
    simp only [beq_self_eq_true, if_true]
    exact h E w a hs ha Kc Q fun a' w' env' K' G' h1 h2 h3 h4 =>
      hK a' w' (h4 E w' a' h2 h3 Q fun a'' w'' env'' K'' G'' g1 g2 g3 g4 => hq a'' w'' env'' K'' G'' (h1.trans g1) g2 g3 g4)

theorem Ow_pass {j d t : Nat} {b c : Bool} (hg : o.guard = some (j, b)) (ht : o.dst = some t) (hd : (ops[j]?).bind (·.dst) = some d) (hv : lk env d = some (.bool c)) (hc : (c == b) = false) (hlt : Nat.blt d n = true)
    (hlt' : Nat.blt t n = true) (h : Ow P n ops rest ((t, undef) :: env) K G R) : Ow P n ops (o :: rest) env K G R :=
  fun E w a hs ha Q hq => wpList_step fun Kc hK => by
    rw [wanted_of hg hd ha hv (by simpa [Nat.blt_eq] using hlt), hc, ht]
    simp only [Bool.false_eq_true, if_false]
    exact hK _ _ (h E w _ hs (ha.put (by simpa [Nat.blt_eq] using hlt') undef) Q hq)

theorem wanted_undef {j d : Nat} {b : Bool} {a : Act} (hg : o.guard = some (j, b)) (hd : (ops[j]?).bind (·.dst) = some d) (ha : EnvOk n env a) (hv : lk env d = some undef) : Region.wanted o (yielded ops a.tmps) = false := by
  have h1 := ha.at_ d _ hv
  rw [Array.getD_eq_getD_getElem?] at h1
  simp only [Region.wanted, hg, yielded, hd, Option.bind_some]
  split
  · rename_i b' hb
    rw [hb] at h1
    exact absurd h1 (by simp [undef])
  · rfl
theorem Ow_passU {j d t : Nat} {b : Bool} (hg : o.guard = some (j, b)) (ht : o.dst = some t) (hd : (ops[j]?).bind (·.dst) = some d) (hv : lk env d = some undef)
    (hlt' : Nat.blt t n = true) (h : Ow P n ops rest ((t, undef) :: env) K G R) : Ow P n ops (o :: rest) env K G R :=
  fun E w a hs ha Q hq => wpList_step fun Kc hK => by
    rw [wanted_undef hg hd ha hv, ht]
    simp only [Bool.false_eq_true, if_false]
    exact hK _ _ (h E w _ hs (ha.put (by simpa [Nat.blt_eq] using hlt') undef) Q hq)

theorem OpW_of_Qt {d : Nat} {v : Value} (hd : o.dst = some d) (hlt : Nat.blt d n = true) (hq : Qt P n o env K G v) (h : R ((d, v) :: env) K G) : OpW P n o env K G R :=
  fun E w a hs ha next Q hk => by
    unfold Oper.wp
    rw [hq w a hs.toSatW ha, Oper.upon_value, hd]
    exact hk _ _ _ _ _ (Kp.le_refl K) hs (ha.put (by simpa [Nat.blt_eq] using hlt) v) h

/-- The common case: an operation that only computes or reads. -/
theorem Ow_q {d : Nat} {v : Value} (hg : o.guard = none) (hd : o.dst = some d) (hlt : Nat.blt d n = true) (hq : Qt P n o env K G v)
    (h : Ow P n ops rest ((d, v) :: env) K G R) : Ow P n ops (o :: rest) env K G R :=
  Ow_cons hg (OpW_of_Qt hd hlt hq h)
theorem Ow_qw {j e d : Nat} {b : Bool} {v : Value} (hg : o.guard = some (j, b)) (he : (ops[j]?).bind (·.dst) = some e) (hv : lk env e = some (.bool b)) (hlt' : Nat.blt e n = true)
    (hd : o.dst = some d) (hlt : Nat.blt d n = true) (hq : Qt P n o env K G v)
    (h : Ow P n ops rest ((d, v) :: env) K G R) : Ow P n ops (o :: rest) env K G R :=
  Ow_want hg he hv hlt' (OpW_of_Qt hd hlt hq h)

end rules
end Go.Hx
