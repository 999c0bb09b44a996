/-
  The small logic: a region whose order is drawn.
-/
import Derived.Test.YtlegagccaeoidaaDoorHxFn
namespace Go.Hx
set_option linter.unusedVariables false
set_option linter.unusedSimpArgs false
open Go

/-- Some of the own entries. -/
def Inc (G0 G : List Ent) : Prop := ∀ e ∈ G0, e ∈ G
theorem Inc.nil {G : List Ent} : Inc [] G := fun e h => by cases h
theorem Inc.cons {e : Ent} {G0 G : List Ent} (h : e ∈ G) (h' : Inc G0 G) : Inc (e :: G0) G := fun x hx => by
  cases hx with
  | head => exact h
  | tail _ hx => exact h' x hx
theorem Inc.refl (G : List Ent) : Inc G G := fun _ h => h
theorem SatW.less {w : World} {K K0 : Kp} {G G0 : List Ent} (h : SatW w K G) (hk : K0.le K) (hg : Inc G0 G) : SatW w K0 G0 := ⟨fun b j v hb => h.k b j v (hk.1 b j v hb), fun b o hb => h.ko b o (hk.2 b o hb), fun e he => h.g e (hg e he)⟩

def Aw (P : Program) (n : Nat) (ops : Array Oper) (K0 : Kp) (G0 : List Ent) (fuel : Nat) (listed : Array Bool) (env : Env) (K : Kp) (G : List Ent) (R : Cont) : Prop :=
  K0.le K → Inc G0 G → ∀ E w a, Sat E w K G → EnvOk n env a → ∀ (Q : Exit → Act → World → Prop), (∀ c a w, ¬ Q (.panic c) a w) →
    (∀ a' w' env' K' G', K.le K' → Sat E w' K' G' → EnvOk n env' a' → R env' K' G' → Q .normal a' w') → wpAnyH P .any ops Q (fun w => SatW w K0 G0) fuel listed a w

section
variable {P : Program} {n : Nat} {env : Env} {K K0 : Kp} {G G0 : List Ent} {R : Cont} {Q : Post} {ops : Array Oper} {fuel : Nat} {listed : Array Bool} {o : Oper}

theorem Cw_region_any {id : Nat} (G0 : List Ent) (hm : P.follows .mixedOrders = true) (hg : Inc G0 G)
    (h : Aw P n ops K G0 ops.size (Array.replicate ops.size false) env K G (fun env K G => Q .normal env K G)) : Cw P n (.region id ops true) env K G Q := fun E w a hs ha => by
  have := h (Kp.le_refl K) hg E { w with drawn := w.drawn + 1 } a hs.drew ha (fun ex a' w' => ex = .normal ∧ QL E n K Q ex a' w') (fun c a w hq => by cases hq.1)
    (fun a' w' env' K' G' h1 h2 h3 h4 => ⟨rfl, env', K', G', h1, h2, h3, h4⟩)
  exact Code.wp_mono (fun _ _ _ hq => hq.2) (wp_region_held hm this)

theorem Aw.sub {env' : Env} (h : Aw P n ops K0 G0 fuel listed env' K G R) (hs : Sub env' env) : Aw P n ops K0 G0 fuel listed env K G R :=
  fun hk hg E w a hsat ha Q hp hq => h hk hg E w a hsat (ha.sub hs) Q hp hq

theorem Aw_done (hr : Region.ready .any ops listed = []) (h : R env K G) : Aw P n ops K0 G0 fuel listed env K G R :=
  fun _ _ E w a hs ha Q _ hq => wpAnyH_done hr (hq a w env K G (Kp.le_refl K) hs ha h) fuel

/-- Number i is taken first: it only computes, or reads what nobody in the region changes. -/
theorem Aw_q (i : Nat) {d : Nat} {v : Value} (hi : ops[i]? = some o) (hs : Region.noSelect ops = true) (hf : Region.free .any ops listed i = true) (hr : (Region.ready .any ops listed).contains i = true)
    (hg : o.guard = none) (hd : o.dst = some d) (hlt : Nat.blt d n = true) (hq : Qt P n o env K0 G0 v)
    (h : Aw P n ops K0 G0 fuel (listed.setIfInBounds i true) ((d, v) :: env) K G R) : Aw P n ops K0 G0 (fuel + 1) listed env K G R :=
  fun hk hgi E w a hsat ha Q hp hc => by
    refine wpAnyH_take hi hs hf hr (fun c a w hq => absurd hq (hp c _ w)) (v := v) (.inl ⟨by simp [Region.wanted, hg], fun w' hw' => hq w' a hw' ha⟩) (hsat.toSatW.less hk hgi) ?_
    rw [hd]
    exact h hk hgi E w _ hsat (ha.put (lt_of_blt hlt) v) Q hp hc
theorem Aw_qw (i : Nat) {j e d : Nat} {b : Bool} {v : Value} (hi : ops[i]? = some o) (hs : Region.noSelect ops = true) (hf : Region.free .any ops listed i = true) (hr : (Region.ready .any ops listed).contains i = true)
    (hg : o.guard = some (j, b)) (he : (ops[j]?).bind (·.dst) = some e) (hv : lk env e = some (.bool b)) (hlt' : Nat.blt e n = true) (hd : o.dst = some d) (hlt : Nat.blt d n = true) (hq : Qt P n o env K0 G0 v)
    (h : Aw P n ops K0 G0 fuel (listed.setIfInBounds i true) ((d, v) :: env) K G R) : Aw P n ops K0 G0 (fuel + 1) listed env K G R :=
  fun hk hgi E w a hsat ha Q hp hc => by
    refine wpAnyH_take hi hs hf hr (fun c a w hq => absurd hq (hp c _ w)) (v := v) (.inl ⟨?_, fun w' hw' => hq w' a hw' ha⟩) (hsat.toSatW.less hk hgi) ?_
    · rw [wanted_of hg he ha hv (lt_of_blt hlt')]; simp
    · rw [hd]
      exact h hk hgi E w _ hsat (ha.put (lt_of_blt hlt) v) Q hp hc
theorem Aw_pass (i : Nat) {j e d : Nat} {b c : Bool} (hi : ops[i]? = some o) (hs : Region.noSelect ops = true) (hf : Region.free .any ops listed i = true) (hr : (Region.ready .any ops listed).contains i = true)
    (hg : o.guard = some (j, b)) (he : (ops[j]?).bind (·.dst) = some e) (hv : lk env e = some (.bool c)) (hcb : (c == b) = false) (hlt' : Nat.blt e n = true) (hd : o.dst = some d) (hlt : Nat.blt d n = true)
    (h : Aw P n ops K0 G0 fuel (listed.setIfInBounds i true) ((d, undef) :: env) K G R) : Aw P n ops K0 G0 (fuel + 1) listed env K G R :=
  fun hk hgi E w a hsat ha Q hp hc => by
    refine wpAnyH_take hi hs hf hr (fun c a w hq => absurd hq (hp c _ w)) (v := undef) (.inr ⟨?_, rfl⟩) (hsat.toSatW.less hk hgi) ?_
    · rw [wanted_of hg he ha hv (lt_of_blt hlt'), hcb]
    · rw [hd]
      exact h hk hgi E w _ hsat (ha.put (lt_of_blt hlt) undef) Q hp hc

theorem Aw_passU (i : Nat) {j e d : Nat} {b : Bool} (hi : ops[i]? = some o) (hs : Region.noSelect ops = true) (hf : Region.free .any ops listed i = true) (hr : (Region.ready .any ops listed).contains i = true)
    (hg : o.guard = some (j, b)) (he : (ops[j]?).bind (·.dst) = some e) (hv : lk env e = some undef) (hd : o.dst = some d) (hlt : Nat.blt d n = true)
    (h : Aw P n ops K0 G0 fuel (listed.setIfInBounds i true) ((d, undef) :: env) K G R) : Aw P n ops K0 G0 (fuel + 1) listed env K G R :=
  fun hk hgi E w a hsat ha Q hp hc => by
    refine wpAnyH_take hi hs hf hr (fun c a w hq => absurd hq (hp c _ w)) (v := undef) (.inr ⟨wanted_undef hg he ha hv, rfl⟩) (hsat.toSatW.less hk hgi) ?_
    rw [hd]
    exact h hk hgi E w _ hsat (ha.put (lt_of_blt hlt) undef) Q hp hc

/-- One operation that may change memory, carried out now. -/
def Ax (P : Program) (n : Nat) (ops : Array Oper) (K0 : Kp) (G0 : List Ent) (fuel : Nat) (listed : Array Bool) (env : Env) (K : Kp) (G : List Ent) (R : Cont) (i : Nat) : Prop :=
  ∃ o, ops[i]? = some o ∧ (o.guard = none ∨ ∃ j e b, o.guard = some (j, b) ∧ (ops[j]?).bind (·.dst) = some e ∧ lk env e = some (.bool b) ∧ e < n) ∧
    OpW P n o env K G fun env' K' G' => Inc G0 G' ∧ Aw P n ops K0 G0 fuel (listed.setIfInBounds i true) env' K' G' R
theorem Ax_mk {i : Nat} (hi : ops[i]? = some o) (hg : o.guard = none) (h : OpW P n o env K G fun env' K' G' => Inc G0 G' ∧ Aw P n ops K0 G0 fuel (listed.setIfInBounds i true) env' K' G' R) : Ax P n ops K0 G0 fuel listed env K G R i :=
  ⟨o, hi, .inl hg, h⟩
theorem Ax_mkw {i j e : Nat} {b : Bool} (hi : ops[i]? = some o) (hg : o.guard = some (j, b)) (he : (ops[j]?).bind (·.dst) = some e) (hv : lk env e = some (.bool b)) (hlt : Nat.blt e n = true)
    (h : OpW P n o env K G fun env' K' G' => Inc G0 G' ∧ Aw P n ops K0 G0 fuel (listed.setIfInBounds i true) env' K' G' R) : Ax P n ops K0 G0 fuel listed env K G R i :=
  ⟨o, hi, .inr ⟨j, e, b, hg, he, hv, lt_of_blt hlt⟩, h⟩

theorem Aw_x (rs : List Nat) (hr : Region.ready .any ops listed = rs) (hne : rs.isEmpty = false) (h : ∀ i ∈ rs, Ax P n ops K0 G0 fuel listed env K G R i) : Aw P n ops K0 G0 (fuel + 1) listed env K G R :=
  fun hk hgi E w a hsat ha Q hp hc => by
    refine wpAnyH_all hr (by intro e; subst e; cases hne) fun i hi => ?_
    obtain ⟨o, hoi, hg, hw⟩ := h i hi
    have hwant : Region.wanted o (yielded ops a.tmps) = true := by
      rcases hg with hg | ⟨j, e, b, hg, he, hv, hlt⟩
      · simp [Region.wanted, hg]
      · rw [wanted_of hg he ha hv hlt]; simp
    unfold wpOp
    simp only [hoi, hwant, if_true]
    refine .inl (hw E w a hsat ha _ Q fun a' w' env' K' G' h1 h2 h3 h4 => ⟨h2.toSatW.less (hk.trans h1) h4.1, ?_⟩)
    exact h4.2 (hk.trans h1) h4.1 E w' a' h2 h3 Q hp fun a'' w'' env'' K'' G'' g1 g2 g3 g4 => hc a'' w'' env'' K'' G'' (h1.trans g1) g2 g3 g4
theorem Aw_one (i : Nat) (hr : Region.ready .any ops listed = [i]) (h : Ax P n ops K0 G0 fuel listed env K G R i) : Aw P n ops K0 G0 (fuel + 1) listed env K G R :=
  Aw_x [i] hr rfl fun j hj => by
    cases hj with
    | head => exact h
    | tail _ hj => cases hj
theorem Aw_two (i j : Nat) (hr : Region.ready .any ops listed = [i, j]) (h1 : Ax P n ops K0 G0 fuel listed env K G R i) (h2 : Ax P n ops K0 G0 fuel listed env K G R j) : Aw P n ops K0 G0 (fuel + 1) listed env K G R :=
  Aw_x [i, j] hr rfl fun k hk => by
    cases hk with
    | head => exact h1
    | tail _ hk => cases hk with
      | head => exact h2
      | tail _ hk => cases hk

/-- A test that is not decided: both ways. -/
theorem Aw.case {d : Nat} {c : Bool} (hv : lk env d = some (.bool c)) (h1 : c = true → Aw P n ops K0 G0 fuel listed ((d, .bool true) :: env) K G R) (h2 : c = false → Aw P n ops K0 G0 fuel listed ((d, .bool false) :: env) K G R) : Aw P n ops K0 G0 fuel listed env K G R := by
  have key : ∀ b, c = b → ∀ t v, lk ((d, .bool b) :: env) t = some v → lk env t = some v := fun b hb t v h => by
    by_cases e : d = t
    · subst e; rw [lk_hit rfl] at h; rw [hv, hb]; exact h
    · rwa [lk_miss e] at h
  intro hk hgi E w a hsat ha Q hp hc
  cases c with
  | true => exact h1 rfl hk hgi E w a hsat ⟨ha.size, ha.defers, fun t v h => ha.at_ t v (key _ rfl t v h)⟩ Q hp hc
  | false => exact h2 rfl hk hgi E w a hsat ⟨ha.size, ha.defers, fun t v h => ha.at_ t v (key _ rfl t v h)⟩ Q hp hc
theorem Ow.case {l : List Oper} {d : Nat} {c : Bool} (hv : lk env d = some (.bool c)) (h1 : c = true → Ow P n ops l ((d, .bool true) :: env) K G R) (h2 : c = false → Ow P n ops l ((d, .bool false) :: env) K G R) : Ow P n ops l env K G R := by
  have key : ∀ b, c = b → ∀ t v, lk ((d, .bool b) :: env) t = some v → lk env t = some v := fun b hb t v h => by
    by_cases e : d = t
    · subst e; rw [lk_hit rfl] at h; rw [hv, hb]; exact h
    · rwa [lk_miss e] at h
  intro E w a hsat ha Q hc
  cases c with
  | true => exact h1 rfl E w a hsat ⟨ha.size, ha.defers, fun t v h => ha.at_ t v (key _ rfl t v h)⟩ Q hc
  | false => exact h2 rfl E w a hsat ⟨ha.size, ha.defers, fun t v h => ha.at_ t v (key _ rfl t v h)⟩ Q hc
theorem nt_t {b : Bool} (h : (!b) = true) : b = false := by cases b <;> first | rfl | cases h
theorem nt_f {b : Bool} (h : (!b) = false) : b = true := by cases b <;> first | rfl | cases h
theorem nt_mt {b : Bool} (h : b = false) : (!b) = true := by subst h; rfl
theorem nt_mf {b : Bool} (h : b = true) : (!b) = false := by subst h; rfl
/-- A test whose outcome is known. -/
theorem Cw_cond_kt {x : Operand} {c1 c2 : Code} {c : Bool} (hv : ev env x = some (.bool c)) (hc : c = true) (h : Cw P n c1 env K G Q) : Cw P n (.cond x c1 c2) env K G Q :=
  Cw_cond hv (fun _ => h) (fun e => by rw [hc] at e; cases e)
theorem Cw_cond_kf {x : Operand} {c1 c2 : Code} {c : Bool} (hv : ev env x = some (.bool c)) (hc : c = false) (h : Cw P n c2 env K G Q) : Cw P n (.cond x c1 c2) env K G Q :=
  Cw_cond hv (fun e => by rw [hc] at e; cases e) (fun _ => h)
theorem Ow.known {l : List Oper} {d : Nat} {c b : Bool} (hv : lk env d = some (.bool c)) (hc : c = b) (h : Ow P n ops l ((d, .bool b) :: env) K G R) : Ow P n ops l env K G R := by
  cases b with
  | true => exact Ow.case hv (fun _ => h) (fun e => by rw [hc] at e; cases e)
  | false => exact Ow.case hv (fun e => by rw [hc] at e; cases e) (fun _ => h)
theorem Aw.known {d : Nat} {c b : Bool} (hv : lk env d = some (.bool c)) (hc : c = b) (h : Aw P n ops K0 G0 fuel listed ((d, .bool b) :: env) K G R) : Aw P n ops K0 G0 fuel listed env K G R := by
  cases b with
  | true => exact Aw.case hv (fun _ => h) (fun e => by rw [hc] at e; cases e)
  | false => exact Aw.case hv (fun e => by rw [hc] at e; cases e) (fun _ => h)

/-- A call of a function that only computes. -/
theorem OpW_callP {d f : Nat} {ty : TypeId} {pos : String} {af : Array Edge} {g : Option (Nat × Bool)} {fo : Operand} {first captured : Array Value} {args : Array Operand} {ts : Array TypeId} {vs : List Value} {v0 : Value} (hlt : Nat.blt d n = true)
    (hcall : ∀ (xs : Array Value) (w : World), (callFunc f xs).run P w = .ok (.enter f xs) w) (hf : ev env fo = some (.func (.func f) first captured))
    (ha' : args.toList.mapM (ev env) = some vs) (hfn : Fc P f (first ++ vs.toArray ++ captured) K G (fun v K' G' => v = v0 ∧ K' = K ∧ G' = G))
    (h : R ((d, v0) :: env) K G) : OpW P n ⟨some d, .call { callee := .value fo, args := args, argTypes := ts }, ty, pos, af, g⟩ env K G R :=
  OpW_call hlt hcall hf ha' hfn fun v K' G' _ hq => by obtain ⟨rfl, rfl, rfl⟩ := hq; exact h
/-- .. that also turns the own entries in a known way. -/
theorem OpW_callG {d f : Nat} {ty : TypeId} {pos : String} {af : Array Edge} {g : Option (Nat × Bool)} {fo : Operand} {first captured : Array Value} {args : Array Operand} {ts : Array TypeId} {vs : List Value} {v0 : Value} {G1 : List Ent} (hlt : Nat.blt d n = true)
    (hcall : ∀ (xs : Array Value) (w : World), (callFunc f xs).run P w = .ok (.enter f xs) w) (hf : ev env fo = some (.func (.func f) first captured))
    (ha' : args.toList.mapM (ev env) = some vs) (hfn : Fc P f (first ++ vs.toArray ++ captured) K G (fun v K' G' => v = v0 ∧ K' = K ∧ G' = G1))
    (h : R ((d, v0) :: env) K G1) : OpW P n ⟨some d, .call { callee := .value fo, args := args, argTypes := ts }, ty, pos, af, g⟩ env K G R :=
  OpW_call hlt hcall hf ha' hfn fun v K' G' _ hq => by obtain ⟨rfl, rfl, rfl⟩ := hq; exact h

/-- A guard that is not decided: both ways. -/
theorem Ow_caseG {o : Oper} {rest : List Oper} {j e : Nat} {b c : Bool} (hg : o.guard = some (j, b)) (he : (ops[j]?).bind (·.dst) = some e) (hv : lk env e = some (.bool c))
    (h1 : c = true → Ow P n ops (o :: rest) ((e, .bool true) :: env) K G R) (h2 : c = false → Ow P n ops (o :: rest) ((e, .bool false) :: env) K G R) : Ow P n ops (o :: rest) env K G R :=
  Ow.case hv h1 h2
end
end Go.Hx
