/-
  The document's desk: closing, communicating, any operation.
-/
import Derived.Test.YthokebmjjkjjfaaXDDesk
namespace Go.Hx
open Go
set_option linter.unusedVariables false
set_option linter.unusedSimpArgs false
def namedD (op : Op) (i : Int) : Int := if op.kind = 4 then i else -1
theorem named_eq (op : Op) (i : Int) : M_19z op i = some (namedD op i) := by
  unfold M_19z namedD; split <;> rfl
def resD (k own v : Int) (ok : Bool) : Result := Result.mk k own v ok 0
def shutP (ch : Int) (send : Bool) (kd : Int) : List Waiter → List Done → List Waiter × List Done
  | [], out => ([], out)
  | w :: ws, out => if sideD w.op ch send < 0 then (w :: (shutP ch send kd ws out).1, (shutP ch send kd ws out).2) else shutP ch send kd ws (addD out w.thread (resD kd (namedD w.op (sideD w.op ch send)) 0 false))
theorem shutP_len (ch : Int) (send : Bool) (kd : Int) : ∀ (ws : List Waiter) (out : List Done), (shutP ch send kd ws out).1.length + (shutP ch send kd ws out).2.length = ws.length + out.length
  | [], out => rfl
  | w :: ws, out => by
    unfold shutP
    split
    · have := shutP_len ch send kd ws out; simp; omega
    · have := shutP_len ch send kd ws (addD out w.thread (resD kd (namedD w.op (sideD w.op ch send)) 0 false))
      rw [addD_len] at this; simp; omega
theorem shutP_sub (ch : Int) (send : Bool) (kd : Int) : ∀ (ws : List Waiter) (out : List Done), (shutP ch send kd ws out).1.Sublist ws
  | [], out => .slnil
  | w :: ws, out => by
    unfold shutP
    split
    · exact (shutP_sub ch send kd ws out).cons_cons w
    · exact (shutP_sub ch send kd ws _).cons w
def shutD (d : Desk) (t : Int) (op : Op) : Desk × List Done := match getI d.chans op.channel with
  | none => (d, [Done.mk t (resD 5 (-1) 0 false)])
  | some c => if c.closed then (d, [Done.mk t (resD 5 (-1) 0 false)]) else
    (Desk.mk (setI d.chans op.channel (Chan.mk c.capacity c.buffer true)) (shutP op.channel true 5 (shutP op.channel false 2 d.waiting [Done.mk t (resD 6 (-1) 0 false)]).1 (shutP op.channel false 2 d.waiting [Done.mk t (resD 6 (-1) 0 false)]).2).1 d.tick,
     (shutP op.channel true 5 (shutP op.channel false 2 d.waiting [Done.mk t (resD 6 (-1) 0 false)]).1 (shutP op.channel false 2 d.waiting [Done.mk t (resD 6 (-1) 0 false)]).2).2)
theorem shut_eq {n : Nat} {d : Desk} {t : Int} {op : Op} (h : DOk n d) : M_109z d t op = some (shutD d t op) := by
  have hcl := h.ch
  have h9 := h.n9
  have hw := h.wt
  unfold M_109z shutD M_61z
  by_cases h1 : op.channel < 0
  · rw [if_pos h1, if_pos rfl, getI_none (.inl h1)]; rfl
  rw [if_neg h1]
  by_cases h2 : op.channel ≥ (d.chans.length : Int)
  · rw [if_pos h2, if_pos rfl, getI_none (.inr h2)]; rfl
  rw [if_neg h2]
  obtain ⟨c, hc⟩ : ∃ c, getI d.chans op.channel = some c := ⟨_, getI_eq (by omega) (by omega)⟩
  rw [hc]
  simp only [Option.bind_some]
  by_cases h3 : c.closed = true
  · rw [if_pos h3, if_pos h3]; rfl
  rw [if_neg h3, if_neg h3, put_eq h hc]
  simp only [Option.bind_some]
  -- the chans and the time stay
  refine Ok.eq ?_
  have pass : ∀ (i : Int) (ch2 : List Chan) (tk : Int) (k : (List Done) → Int → (List Chan) → (List Waiter) → Int → Option (Desk × (List Done))) (ws0 : List Waiter) (out0 : List Done) (P : Desk × List Done → Prop),
      ws0.length ≤ 1000 → out0.length ≤ 1000 → (∀ w ∈ ws0, w.op.cases.length ≤ 20) → 0 ≤ i → i < 2 → ch2.length ≤ 1000 → (∀ x ∈ ch2, True) →
      Ok (k (shutP op.channel (dcd (i = 1)) (if i = 1 then 5 else 2) ws0 out0).2 (i + 1) ch2 (shutP op.channel (dcd (i = 1)) (if i = 1 then 5 else 2) ws0 out0).1 tk) P →
      Ok (lp5 (M_60z i op k) BIG out0 0 ch2 ws0 tk) P := by
    intro i ch2 tk k ws0 out0 P hws hout hops i0 i1 hch _ hfin
    refine lp5_ok (fun out j ch' ws tk' => ((ws.length : Int) - j).toNat) (fun out j ch' ws tk' => 0 ≤ j ∧ j ≤ (ws.length : Int) ∧ ch' = ch2 ∧ tk' = tk ∧ (∀ w ∈ ws, w.op.cases.length ≤ 20) ∧ ws.length + out.length ≤ 2000 ∧
      (shutP op.channel (dcd (i = 1)) (if i = 1 then 5 else 2) ws0 out0).1 = ws.take j.toNat ++ (shutP op.channel (dcd (i = 1)) (if i = 1 then 5 else 2) (ws.drop j.toNat) out).1 ∧
      (shutP op.channel (dcd (i = 1)) (if i = 1 then 5 else 2) ws0 out0).2 = (shutP op.channel (dcd (i = 1)) (if i = 1 then 5 else 2) (ws.drop j.toNat) out).2) (fun _ _ _ _ _ => P) ?_ BIG out0 0 ch2 ws0 tk ⟨by omega, by omega, rfl, rfl, hops, by omega, by simp, by simp⟩ (lt_BIG (by omega))
    intro out j ch' ws tk' k' ⟨g0, g1, e1, e2, g4, g5, g6, g7⟩ hk
    subst e1 e2
    unfold M_60z
    refine Ok.ite (fun h4 => ?_) fun h4 => ?_
    · obtain ⟨w, hwj⟩ : ∃ w, getI ws j = some w := ⟨_, getI_eq g0 h4⟩
      have hd := drop_getI hwj
      have htk := take_getI hwj
      have hwc := g4 w (getI_mem hwj)
      rw [hwj]
      simp only [Option.bind_some]
      rw [side_eq hwc]
      simp only [Option.bind_some]
      rw [hd] at g6 g7
      have eP : ∀ out, shutP op.channel (dcd (i = 1)) (if i = 1 then 5 else 2) (w :: ws.drop (j + 1).toNat) out = if sideD w.op op.channel (dcd (i = 1)) < 0 then (w :: (shutP op.channel (dcd (i = 1)) (if i = 1 then 5 else 2) (ws.drop (j + 1).toNat) out).1, (shutP op.channel (dcd (i = 1)) (if i = 1 then 5 else 2) (ws.drop (j + 1).toNat) out).2) else shutP op.channel (dcd (i = 1)) (if i = 1 then 5 else 2) (ws.drop (j + 1).toNat) (addD out w.thread (resD (if i = 1 then 5 else 2) (namedD w.op (sideD w.op op.channel (dcd (i = 1)))) 0 false)) := fun out => rfl
      rw [eP] at g6 g7
      refine Ok.ite (fun h5 => ?_) fun h5 => ?_
      · rw [if_pos h5] at g6 g7
        rw [wI_id (by omega) (by omega)]
        refine hk _ _ _ _ _ ⟨by omega, by omega, rfl, rfl, g4, g5, ?_, g7⟩ (by omega)
        rw [g6, htk]; simp
      · rw [if_neg h5] at g6 g7
        rw [named_eq]
        simp only [Option.bind_some]
        have hJ4 : ∀ kd, kd = (if i = 1 then (5 : Int) else 2) → Ok (M_59z out i j (namedD w.op (sideD w.op op.channel (dcd (i = 1)))) w op ch' ws tk' k k' kd) P := by
          intro kd hkd
          unfold M_59z
          have hdk : DOk 1000 (Desk.mk ch' [] tk') ∨ True := .inr trivial
          have hlv : M_3z (Desk.mk ch' ws tk') j = some (leaveD (Desk.mk ch' ws tk') j) := by
            unfold M_3z M_52z
            rw [wI_id (by omega) (by omega), cutI_eq (by omega) g0 (by simp only; omega), cutI_eq (by omega) (by simp only; omega) (by omega)]
            simp only [Option.bind_some]
            have e1 : List.drop (0 : Int).toNat (ws.take j.toNat) = ws.take j.toNat := by simp
            have e2 : (ws.take ((ws.length : Int)).toNat).drop (j + 1).toNat = ws.drop (j.toNat + 1) := by
              rw [List.take_of_length_le (by omega), show (j + 1).toNat = j.toNat + 1 by omega]
            have e3 : app [] (ws.take j.toNat) = some (ws.take j.toNat) := by rw [app_eq (by simp; omega), List.nil_append]
            rw [e1, e2, e3]
            simp only [Option.bind_some]
            rw [app_eq (by simp; omega)]
            rfl
          rw [hlv]
          simp only [Option.bind_some]
          rw [add_eq (by omega)]
          simp only [Option.bind_some]
          have hj1 : (j + 1).toNat = j.toNat + 1 := by omega
          have hlen : (ws.take j.toNat ++ ws.drop (j.toNat + 1)).length + 1 = ws.length := by simp; omega
          have htake : (ws.take j.toNat ++ ws.drop (j.toNat + 1)).take j.toNat = ws.take j.toNat := by
            rw [List.take_append_of_le_length (by simp; omega), List.take_take]; simp
          have hdrop : (ws.take j.toNat ++ ws.drop (j.toNat + 1)).drop j.toNat = ws.drop (j.toNat + 1) := by
            rw [List.drop_append_of_le_length (by simp; omega), List.drop_take]; simp
          refine hk _ _ _ _ _ ⟨g0, by show j ≤ ((ws.take j.toNat ++ ws.drop (j.toNat + 1)).length : Int); omega, rfl, rfl, fun u hu => ?_, ?_, ?_, ?_⟩ ?_
          · rcases List.mem_append.1 hu with hu | hu
            · exact g4 u (List.mem_of_mem_take hu)
            · exact g4 u (List.mem_of_mem_drop hu)
          · rw [addD_len]; show (ws.take j.toNat ++ ws.drop (j.toNat + 1)).length + (out.length + 1) ≤ 2000; omega
          · show _ = (ws.take j.toNat ++ ws.drop (j.toNat + 1)).take j.toNat ++ (shutP op.channel (dcd (i = 1)) (if i = 1 then 5 else 2) ((ws.take j.toNat ++ ws.drop (j.toNat + 1)).drop j.toNat) _).1
            rw [htake, hdrop, ← hj1, hkd]; exact g6
          · show _ = (shutP op.channel (dcd (i = 1)) (if i = 1 then 5 else 2) ((ws.take j.toNat ++ ws.drop (j.toNat + 1)).drop j.toNat) _).2
            rw [hdrop, ← hj1, hkd]; exact g7
          · show (((ws.take j.toNat ++ ws.drop (j.toNat + 1)).length : Int) - j).toNat < _
            omega
        refine Ok.ite (fun h6 => hJ4 _ (by rw [if_pos h6])) fun h6 => hJ4 _ (by rw [if_neg h6])
    · unfold M_157z
      have hj : j.toNat = ws.length := by omega
      rw [hj, List.drop_eq_nil_of_le (Nat.le_refl _), List.take_of_length_le (Nat.le_refl _)] at g6
      rw [hj, List.drop_eq_nil_of_le (Nat.le_refl _)] at g7
      simp only [shutP, List.append_nil] at g6 g7
      rw [wI_id (by omega) (by omega), ← g6, ← g7]
      exact hfin
  obtain ⟨B, hB⟩ : ∃ B, BIG = B + 3 := ⟨BIG - 3, by unfold BIG; omega⟩
  have hs1 := shutP_len op.channel false 2 d.waiting [Done.mk t (resD 6 (-1) 0 false)]
  have hsub1 := shutP_sub op.channel false 2 d.waiting [Done.mk t (resD 6 (-1) 0 false)]
  have hlsub := hsub1.length_le
  have hB2 : (shutP op.channel false 2 d.waiting [Done.mk t (resD 6 (-1) 0 false)]).2.length ≤ 1000 := by
    have := hs1
    simp only [List.length_cons, List.length_nil] at this
    omega
  have hchl : (setI d.chans op.channel (Chan.mk c.capacity c.buffer true)).length ≤ 1000 := by rw [length_setI]; exact hcl
  have step : ∀ n a b c2 d2 e2, lp5 (M_32z op) (n + 1) a b c2 d2 e2 = M_32z op (lp5 (M_32z op) n) a b c2 d2 e2 := fun _ _ _ _ _ _ => rfl
  have stepL : ∀ k a b c2 d2 e2, M_32z op k a b c2 d2 e2 = if b < 2 then lp5 (M_60z b op k) BIG a 0 c2 d2 e2 else M_108z a c2 d2 e2 := fun _ _ _ _ _ _ => rfl
  rw [hB, step, stepL, if_pos (by omega)]
  refine pass 0 _ _ _ _ _ _ (by show d.waiting.length ≤ 1000; omega) (by simp) h.ops (by omega) (by omega) hchl (fun _ _ => trivial) ?_
  have e0 : dcd ((0 : Int) = 1) = false := by decide +kernel
  rw [e0, if_neg (by omega), show (0 : Int) + 1 = 1 from rfl, step, stepL, if_pos (by omega)]
  refine pass 1 _ _ _ _ _ _ (Nat.le_trans hlsub (by omega)) hB2 (fun w hw' => h.ops w (hsub1.subset hw')) (by omega) (by omega) hchl (fun _ _ => trivial) ?_
  have e1 : dcd ((1 : Int) = 1) = true := by decide +kernel
  rw [e1, if_pos rfl, show (1 : Int) + 1 = 2 from rfl, step, stepL, if_neg (by omega)]
  unfold M_108z
  exact Ok.some rfl
end Go.Hx
