/-
  What the printed walks use: view shifts, cuts, loops and functions against plain data.
-/
import Derived.Test.YtlegagccaeoidaaDoorHxRep
namespace Go.Hx
open Go
set_option linter.unusedVariables false

theorem inj1 {α : Type} {a b : α} (h : some a = some b) : a = b := by cases h; rfl
theorem inj2 {α β : Type} {a c : α} {b d : β} (h : some (a, b) = some (c, d)) : a = c ∧ b = d := by cases h; exact ⟨rfl, rfl⟩
theorem inj3 {α β γ : Type} {a a' : α} {b b' : β} {c c' : γ} (h : some (a, b, c) = some (a', b', c')) : a = a' ∧ b = b' ∧ c = c' := by cases h; exact ⟨rfl, rfl, rfl⟩
theorem inj4 {α β γ δ : Type} {a a' : α} {b b' : β} {c c' : γ} {d d' : δ} (h : some (a, b, c, d) = some (a', b', c', d')) : a = a' ∧ b = b' ∧ c = c' ∧ d = d' := by cases h; exact ⟨rfl, rfl, rfl, rfl⟩
theorem set_at {rows : List (List Value)} {q : Nat} {r v : List Value} (h : rows[q]? = some r) : (rows.set q v)[q]? = some v := by
  have := (List.getElem?_eq_some_iff.1 h).1
  rw [List.getElem?_set_self this]
def one (v : Value) : List Value := [v]
theorem map_one_replicate {n : Nat} {v : Value} : (List.replicate n v).map one = List.replicate n [v] := by simp [one]
/-- The same world seen with more settled and other entries. -/
def Shift (K : Kp) (G : List Ent) (R : Kp → List Ent → Prop) : Prop := ∀ E w, Sat E w K G → ∃ K' G', K.le K' ∧ Sat E w K' G' ∧ R K' G'
section
variable {K : Kp} {G G' G2 : List Ent} {R : Kp → List Ent → Prop} {e : Ent} {α : Type} {T : Ty α} {v : Value} {l : List α} {rows : List (List Value)}
theorem Shift.done (h : R K G) : Shift K G R := fun _ _ hs => ⟨K, G, Kp.le_refl K, hs, h⟩
theorem Shift.ghost (hp : ∀ E w, Sat E w K G → Sat E w K G') (h : Shift K G' R) : Shift K G R := fun E w hs => h E w (hp E w hs)
theorem Shift.pull (hr : Rem G e G2) (h : Shift K (e :: G2) R) : Shift K G R := Shift.ghost (fun _ _ hs => hs.perm hr.perm) h
theorem Shift.rem (hr : Rem G e G2) (h : Shift K G2 R) : Shift K G R := Shift.ghost (fun _ _ hs => hs.rem hr) h
theorem Shift.nilRow (t : TypeId) (size : Nat) (h : Shift K (.row (.slice none 0 0) t size ([] : List (List Value)).flatten :: G) R) : Shift K G R := Shift.ghost (fun _ _ hs => hs.nilRow t size) h
theorem Shift.nilTok (t : TypeId) (size m : Nat) (h : Shift K (.tok t size (List.replicate m (.slice none 0 0)) :: G) R) : Shift K G R := Shift.ghost (fun _ _ hs => hs.nilTok t size m) h
theorem Shift.nilTok1 (t : TypeId) (size : Nat) (h : Shift K (.tok t size [.slice none 0 0] :: G) R) : Shift K G R := Shift.ghost (fun _ _ hs => hs.nilTok t size 1) h
theorem Shift.nilTokV {vs : List Value} {m : Nat} (hv : vs = List.replicate m (.slice none 0 0)) (t : TypeId) (size : Nat) (h : Shift K (.tok t size vs :: G) R) : Shift K G R := by subst hv; exact Shift.nilTok t size m h
theorem Shift.settle {t : TypeId} (hu : Upd G (.row v t T.size rows.flatten) (.tok t T.size [v]) G') (hr : RowR T K rows l) (hz : Nat.blt 0 T.size = true)
    (h : ∀ K', K.le K' → Slr T K' v l → Shift K' G' R) : Shift K G R := fun E w hs => by
  obtain ⟨K', hle, hs', hsl⟩ := sat_settle hs hu hr.sizes (lt_of_blt hz)
  obtain ⟨K2, G2, h1, h2, h3⟩ := h K' hle ⟨rows, hsl, hr.mono hle⟩ E w hs'
  exact ⟨K2, G2, hle.trans h1, h2, h3⟩
end
section
variable {P : Program} {n : Nat} {env : Env} {K K0 : Kp} {G G0 : List Ent} {R : Cont} {Q : Post} {ops : Array Oper} {ls : List Oper} {c : Code} {fuel : Nat} {listed : Array Bool}
theorem Cw.shift (h : Shift K G fun K' G' => Cw P n c env K' G' Q) : Cw P n c env K G Q := fun E w a hs ha => by
  obtain ⟨K', G', h1, h2, h3⟩ := h E w hs
  exact Code.wp_mono (fun _ _ _ hq => QL.le h1 hq) (h3 E w a h2 ha)
theorem Ow.shift (h : Shift K G fun K' G' => Ow P n ops ls env K' G' R) : Ow P n ops ls env K G R := fun E w a hs ha Q hq => by
  obtain ⟨K', G', h1, h2, h3⟩ := h E w hs
  exact h3 E w a h2 ha Q fun a' w' env' K'' G'' g1 => hq a' w' env' K'' G'' (h1.trans g1)
theorem Aw.shift (h : Shift K G fun K' G' => Inc G0 G' ∧ Aw P n ops K0 G0 fuel listed env K' G' R) : Aw P n ops K0 G0 fuel listed env K G R := fun hk hi E w a hs ha Q hp hq => by
  obtain ⟨K', G', h1, h2, h3, h4⟩ := h E w hs
  exact h4 (hk.trans h1) h3 E w a h2 ha Q hp fun a' w' env' K'' G'' g1 => hq a' w' env' K'' G'' (h1.trans g1)

/-- What a piece of code leaves where ways meet. -/
def Meet (M : Cont) : Cont := fun env K G => Shift K G fun K' G' => ∃ env'', Sub env'' env ∧ M env'' K' G'
theorem Cw_join {x y : Code} (M : Cont) (h : Cw P n x env K G (thenQ (Meet M) Q)) (hy : ∀ env' K' G', K.le K' → M env' K' G' → Cw P n y env' K' G' Q) : Cw P n (.seq x y) env K G Q :=
  Cw_seq fun E w a hs ha => Code.wp_mono (fun ex a' w' hq => by
    obtain ⟨env', K', G', h1, h2, h3, h4⟩ := hq
    cases ex with
    | normal =>
      obtain ⟨K2, G2, g1, g2, env'', g3, g4⟩ := h4 E w' h2
      exact ⟨env'', K2, G2, h1.trans g1, g2, h3.sub g3, hy _ _ _ (h1.trans g1) g4⟩
    | _ => exact ⟨env', K', G', h1, h2, h3, h4⟩) (h E w a hs ha)
theorem Cw_loopM {c : Code} (I : Nat → Cont) (s0 : Nat) (h0 : Meet (I s0) env K G) (round : ∀ s env' K' G', K.le K' → I s env' K' G' → Cw P n c env' K' G' (thenQ (Meet fun env' K' G' => ∃ s', s' < s ∧ I s' env' K' G') Q)) :
    Cw P n (.loop c) env K G Q := fun E w a hs ha => by
  obtain ⟨K1, G1, h1, h2, env1, h3, h4⟩ := h0 E w hs
  intro b k cs
  have key : ∀ m env' K' G' a w, K.le K' → Sat E w K' G' → EnvOk n env' a → I m env' K' G' →
      ∃ e a' w', QL E n K Q e a' w' ∧ Arrives P (lone (b.at a (.code c :: .inLoop c :: k)) cs w) b k cs e a' w' := by
    intro m
    induction m using Nat.strongRecOn with
    | _ m ih =>
      intro env' K' G' a w h1 h2 h3 h4
      obtain ⟨e, a₁, w₁, hq, harr⟩ := round m env' K' G' h1 h4 E w a h2 h3 b (.inLoop c :: k) cs
      obtain ⟨env1, K1, G1, g1, g2, g3, g4⟩ := hq
      cases e with
      | normal =>
        obtain ⟨K2, G2, f1, f2, env'', f3, s', hlt, hI⟩ := g4 E w₁ g2
        obtain ⟨e₂, a₂, w₂, hq₂, harr₂⟩ := ih s' hlt env'' K2 G2 a₁ w₁ ((h1.trans g1).trans f1) f2 (g3.sub f3) hI
        exact ⟨e₂, a₂, w₂, hq₂, .of_steps (Steps.trans harr (.one step_inLoop)) harr₂⟩
      | exit id => exact ⟨_, a₁, w₁, ⟨env1, K1, G1, h1.trans g1, g2, g3, g4⟩, .pass (x := .inLoop c) rfl (fun _ _ => .inl (by simp)) harr⟩
      | goto l => exact ⟨_, a₁, w₁, ⟨env1, K1, G1, h1.trans g1, g2, g3, g4⟩, .pass (x := .inLoop c) rfl (fun _ _ => .inl (by simp)) harr⟩
      | ret => exact ⟨_, a₁, w₁, ⟨env1, K1, G1, h1.trans g1, g2, g3, g4⟩, .pass (x := .inLoop c) rfl (fun _ _ => .inl (by simp)) harr⟩
      | panic ch => exact ⟨_, a₁, w₁, ⟨env1, K1, G1, h1.trans g1, g2, g3, g4⟩, .pass (x := .inLoop c) rfl (fun _ _ => .inl (by simp)) harr⟩
      | outgrown => exact ⟨_, a₁, w₁, ⟨env1, K1, G1, h1.trans g1, g2, g3, g4⟩, .pass (x := .inLoop c) rfl (fun _ _ => .inl (by simp)) harr⟩
  obtain ⟨e, a', w', hq, harr⟩ := key s0 env1 K1 G1 a w h1 h2 (ha.sub h3) h4
  exact ⟨e, a', w', hq, .of_steps (.one step_loop) harr⟩

def retM (P : Program) (rs : List ResultVar) (Q : Value → Kp → List Ent → Prop) : Post := fun ex env K G => (ex = .ret ∨ ex = .normal) ∧ ∃ vs, RetAll P env K G rs vs ∧ Shift K G fun K' G' => Q (mkRes vs) K' G'
theorem Fc_body {f : FuncId} {fn : Func} {c : Code} {n : Nat} {args : Array Value} {Q : Value → Kp → List Ent → Prop} {rs : Array ResultVar}
    (hf : P.funcs[f]? = some fn) (hb : fn.body = some c) (hn : fn.ntmps = n) (hres : fn.results = rs) (hle : Nat.ble args.size n = true)
    (h : Cw P n c (argEnv 0 args.toList) K G (retM P rs.toList Q)) : Fc P f args K G Q := fun E w hs => by
  have hle' : args.size ≤ n := by simpa [Nat.ble_eq] using hle
  refine calls_of_wp hf hb (Code.wp_mono (fun ex a' w' hq => ?_) (h E w _ hs ⟨?_, rfl, fun t v ht => ?_⟩))
  · obtain ⟨env', K', G', h1, h2, h3, h4, vs, h5, h6⟩ := hq
    obtain ⟨K2, G2, g1, g2, g3⟩ := h6 E w' h2
    have hrun : (results fn a'.tmps).run P w' = .ok (mkRes vs) w' := by
      have := RetAll.run (P := P) h3 h2.toSatW _ _ h5
      rw [results_eq, hres]
      obtain ⟨l⟩ := rs
      rw [List.mapM_toArray]
      simp only [Sem.run_map, Sem.run_bind, Sem.run_pure]
      rw [this]
      match vs with
      | [] => simp [mkRes]
      | [v] => simp [mkRes]
      | v :: u :: r => simp [mkRes]
    rcases h4 with rfl | rfl <;> exact ⟨h3.defers, _, hrun, _, K2, G2, rfl, h1.trans g1, g2, g3⟩
  · simp [hn]; omega
  · obtain ⟨_, h2⟩ := lk_argEnv _ _ _ _ ht
    simp only [Nat.sub_zero] at h2
    have hlt : t < args.size := by
      have := (List.getElem?_eq_some_iff.1 h2).1
      simpa using this
    simp only [Array.getD_eq_getD_getElem?, Array.getElem?_append_left hlt]
    have h2' : args[t]? = some v := by simpa using h2
    rw [h2']; rfl
end
section
variable {R A B C D E F : Type} {r : R} {n : Nat}
theorem lps1 {f : (A → Option R) → A → Option R} {a : A} (h : lp1 f n a = some r) : ∃ m k, n = m + 1 ∧ k = lp1 f m ∧ f k a = some r := by
  cases n with
  | zero => cases h
  | succ m => exact ⟨m, _, rfl, rfl, h⟩
theorem lps2 {f : (A → B → Option R) → A → B → Option R} {a : A} {b : B} (h : lp2 f n a b = some r) : ∃ m k, n = m + 1 ∧ k = lp2 f m ∧ f k a b = some r := by
  cases n with
  | zero => cases h
  | succ m => exact ⟨m, _, rfl, rfl, h⟩
theorem lps3 {f : (A → B → C → Option R) → A → B → C → Option R} {a : A} {b : B} {c : C} (h : lp3 f n a b c = some r) : ∃ m k, n = m + 1 ∧ k = lp3 f m ∧ f k a b c = some r := by
  cases n with
  | zero => cases h
  | succ m => exact ⟨m, _, rfl, rfl, h⟩
theorem lps4 {f : (A → B → C → D → Option R) → A → B → C → D → Option R} {a : A} {b : B} {c : C} {d : D} (h : lp4 f n a b c d = some r) : ∃ m k, n = m + 1 ∧ k = lp4 f m ∧ f k a b c d = some r := by
  cases n with
  | zero => cases h
  | succ m => exact ⟨m, _, rfl, rfl, h⟩
theorem lps5 {f : (A → B → C → D → E → Option R) → A → B → C → D → E → Option R} {a : A} {b : B} {c : C} {d : D} {e : E} (h : lp5 f n a b c d e = some r) : ∃ m k, n = m + 1 ∧ k = lp5 f m ∧ f k a b c d e = some r := by
  cases n with
  | zero => cases h
  | succ m => exact ⟨m, _, rfl, rfl, h⟩
theorem lps6 {f : (A → B → C → D → E → F → Option R) → A → B → C → D → E → F → Option R} {a : A} {b : B} {c : C} {d : D} {e : E} {x : F} (h : lp6 f n a b c d e x = some r) : ∃ m k, n = m + 1 ∧ k = lp6 f m ∧ f k a b c d e x = some r := by
  cases n with
  | zero => cases h
  | succ m => exact ⟨m, _, rfl, rfl, h⟩
end
end Go.Hx
