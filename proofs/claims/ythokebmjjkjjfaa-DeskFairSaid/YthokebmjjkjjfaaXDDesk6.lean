/-
  The program's desk: waking, communicating, closing.
-/
import Derived.Test.YthokebmjjkjjfaaXDDesk5
namespace Go.Hx
open Go
set_option linter.unusedVariables false
set_option linter.unusedSimpArgs false
theorem delete_eq {ws : List Waiter} {i : Int} (hl : ws.length ≤ 100000) (h0 : 0 ≤ i) (h1 : i < (ws.length : Int)) : M_75z ws i (wI (i + 1)) = some (ws.take i.toNat ++ ws.drop (i.toNat + 1)) := by
  unfold M_75z
  rw [wI_id (by omega) (by omega), cutI_eq h0 (by omega) (by omega)]
  simp only [Option.bind_some]
  rw [if_neg (by omega), cutI_eq (by omega) h0 (by omega), cutI_eq (by omega) (by omega) (by omega)]
  simp only [Option.bind_some]
  have e1 : List.drop (0 : Int).toNat (ws.take i.toNat) = ws.take i.toNat := by simp
  have e2 : (ws.take ((ws.length : Int)).toNat).drop (i + 1).toNat = ws.drop (i.toNat + 1) := by
    rw [List.take_of_length_le (by omega), show (i + 1).toNat = i.toNat + 1 by omega]
  rw [e1, e2]
  unfold appIn
  rw [if_pos ⟨by omega, by simp; omega⟩]
  rfl
theorem index_eq (op : Op) (i : Int) : M_40z op i = some (namedD op i) := by
  unfold M_40z namedD; split <;> rfl
theorem wake_eq {W : Desk_work} {i k : Int} {r : Result} {w : Waiter} (hl : W.desk.waiting.length ≤ 100000) (hd : W.done.length ≤ 100000) (hw : getI W.desk.waiting i = some w) :
    M_25z W i k r = some (W.desk.waiting.take i.toNat ++ W.desk.waiting.drop (i.toNat + 1), addD W.done w.thread (Result.mk r.kind (namedD w.op k) r.value r.ok r.number)) := by
  obtain ⟨h0, h1⟩ := getI_lt hw
  unfold M_25z
  rw [hw]
  simp only [Option.bind_some]
  rw [index_eq, delete_eq hl h0 h1]
  simp only [Option.bind_some]
  rw [finish_eq (W := Desk_work.mk (Desk.mk W.desk.chans (W.desk.waiting.take i.toNat ++ W.desk.waiting.drop (i.toNat + 1)) W.desk.tick) W.done) hd]
  rfl
theorem take_eq {W : Desk_work} {i ch : Int} {w : Waiter} (hl : W.desk.waiting.length ≤ 100000) (hd : W.done.length ≤ 100000) (hw : getI W.desk.waiting i = some w) (ho : WOk w) (hs : 0 ≤ sideD w.op ch true) :
    M_46z W i ch = some (valD w.op (sideD w.op ch true), W.desk.waiting.take i.toNat ++ W.desk.waiting.drop (i.toNat + 1), addD W.done w.thread (Result.mk 1 (namedD w.op (sideD w.op ch true)) 0 false 0)) := by
  obtain ⟨y, hy, _⟩ := side_at hs
  unfold M_46z
  rw [hw]
  simp only [Option.bind_some]
  rw [meeting_eq ho.op.nos ho.op.len, if_pos hs, all_eq ho.op.nos]
  simp only [Option.bind_some, bd2_some]
  rw [hy]
  simp only [Option.bind_some]
  rw [wake_eq hl hd hw]
  simp only [bd2_some]
  unfold valD
  rw [hy]
theorem setI_setI {α : Type} (l : List α) (i : Int) (a b : α) : setI (setI l i a) i b = setI l i b := by
  unfold setI; simp
theorem setI_self {α : Type} {l : List α} {i : Int} {a : α} (h : getI l i = some a) : setI l i a = l := by
  have := (getI_ix h).2.1
  unfold setI
  obtain ⟨h1, h2⟩ := List.getElem?_eq_some_iff.1 this
  rw [← h2]; exact List.set_getElem_self h1
def WW (d : Desk) : Desk_work := Desk_work.mk (Desk.mk d.chans d.waiting d.tick) []
theorem chan_eta (c : Chan) : Chan.mk c.capacity c.buffer c.closed = c := rfl
theorem clone_eq {l : List Int} (h : l.length ≤ 100000) : M_45z l = some l := by
  unfold M_45z
  rw [app_eq (by simp; omega)]; rfl
theorem communicate_eq {n : Nat} {d : Desk} {t : Int} {op : Op} {i : Int} {x : Case} {c : Chan} (h : DI n d) (hc : getI d.chans x.channel = some c) :
    ∃ r ch wt dn, M_13z (WW d) t x = some (r, ch, wt, dn) ∧ dn.length ≤ 10 ∧ Desk.mk ch wt d.tick = (doD d t op i x).1 ∧ addD dn t (Result.mk r.kind (namedD op i) r.value r.ok r.number) = (doD d t op i x).2 := by
  have h9 := h.ok.n9
  have hwt := h.ok.wt
  have hb := h.ok.buf c (getI_mem hc)
  have key : ∀ (o : Option (Result × List Chan × List Waiter × List Done)), (∃ r ch wt dn, o = some (r, ch, wt, dn) ∧ dn.length ≤ 10 ∧ Desk.mk ch wt d.tick = (doD d t op i x).1 ∧ addD dn t (Result.mk r.kind (namedD op i) r.value r.ok r.number) = (doD d t op i x).2) → M_13z (WW d) t x = o → ∃ r ch wt dn, M_13z (WW d) t x = some (r, ch, wt, dn) ∧ dn.length ≤ 10 ∧ Desk.mk ch wt d.tick = (doD d t op i x).1 ∧ addD dn t (Result.mk r.kind (namedD op i) r.value r.ok r.number) = (doD d t op i x).2 := by
    intro o h e; rw [e]; exact h
  have e0 : M_13z (WW d) t x = (if x.send = true then M_1z c x (partnerD d t x) (WW d) c.closed else M_1z c x (partnerD d t x) (WW d) false) := by
    unfold M_13z
    have : getI (WW d).desk.chans x.channel = some c := hc
    rw [this]
    simp only [Option.bind_some]
    have : M_44z (WW d).desk t x = some (partnerD d t x) := deskPartner2_eq h
    rw [this]
    simp only [Option.bind_some]
  refine key _ ?_ e0
  unfold doD
  rw [hc]
  simp only
  cases hw : getI d.waiting (partnerD d t x) with
  | none =>
    have hk := partner_none hw
    by_cases hs : x.send = true
    · simp only [hs, if_true]
      by_cases hcl : c.closed = true
      · rw [if_pos hcl]
        unfold M_1z
        rw [if_pos hcl]
        exact ⟨_, _, _, _, rfl, by simp [WW], rfl, rfl⟩
      · rw [if_neg hcl]
        unfold M_1z
        rw [if_neg hcl, if_pos hs]
        unfold M_12z
        rw [if_neg (by rw [dcd_tt]; omega), if_pos hs, clone_eq (by omega)]
        simp only [Option.bind_some]
        rw [app_eq (by simp; omega)]
        exact ⟨_, _, _, _, rfl, by simp [WW], rfl, rfl⟩
    · have hs' : x.send = false := by simpa using hs
      simp only [hs', if_neg (show ¬ (false = true) by decide)]
      unfold M_1z
      rw [if_neg (by decide), if_neg hs]
      unfold M_12z
      rw [if_neg (by decide), if_neg hs]
      cases hbf : c.buffer with
      | nil =>
        rw [if_neg (by simp), if_neg (by omega)]
        exact ⟨_, _, _, _, rfl, by simp [WW], rfl, rfl⟩
      | cons v b =>
        rw [hbf] at hb
        rw [if_pos (by simp), show getI (v :: b) 0 = some v from rfl]
        simp only [Option.bind_some]
        rw [cutI_eq (by omega) (by simp; omega) (by omega)]
        have e : ((v :: b).take (((v :: b).length : Int)).toNat).drop (1 : Int).toNat = b := by simp
        rw [e]
        simp only [Option.bind_some]
        rw [clone_eq (by simp at hb; omega)]
        simp only [Option.bind_some]
        rw [if_neg (by omega)]
        exact ⟨_, _, _, _, rfl, by simp [WW], rfl, rfl⟩
  | some w =>
    obtain ⟨q1, q2, q3, q4, q5, q6⟩ := partner_side hw
    have hwo := h.ws w (getI_mem hw)
    have hw2 : getI (WW d).desk.waiting (partnerD d t x) = some w := hw
    have hl2 : (WW d).desk.waiting.length ≤ 100000 := by show d.waiting.length ≤ 100000; omega
    have hcomm : ∀ a b, addD [Done.mk w.thread a] t b = addD [Done.mk t b] w.thread a := fun a b => addD_comm (l := []) srt_nil q1
    by_cases hs : x.send = true
    · simp only [hs, if_true]
      by_cases hcl : c.closed = true
      · rw [if_pos hcl]
        unfold M_1z
        rw [if_pos hcl]
        exact ⟨_, _, _, _, rfl, by simp [WW], rfl, rfl⟩
      · rw [if_neg hcl]
        unfold M_1z
        rw [if_neg hcl, if_pos hs]
        unfold M_12z
        rw [if_pos (by rw [dcd_tt]; omega), hw2]
        simp only [Option.bind_some]
        rw [hs] at q2
        rw [meeting_eq hwo.op.nos hwo.op.len, if_pos (show 0 ≤ sideD w.op x.channel false from q2)]
        simp only [bd2_some]
        rw [wake_eq hl2 (by simp [WW]) hw2]
        simp only [bd2_some]
        refine ⟨_, _, _, _, rfl, by rw [addD_len]; simp [WW], rfl, ?_⟩
        exact hcomm _ _
    · have hs' : x.send = false := by simpa using hs
      simp only [hs', if_neg (show ¬ (false = true) by decide)]
      rw [hs'] at q2
      unfold M_1z
      rw [if_neg (by decide), if_neg hs]
      unfold M_12z
      rw [if_neg (by decide), if_neg hs]
      cases hbf : c.buffer with
      | nil =>
        rw [if_neg (by simp), if_pos (by omega), take_eq hl2 (by simp [WW]) hw2 hwo q2]
        simp only [bd3_some]
        refine ⟨_, _, _, _, rfl, by rw [addD_len]; simp [WW], ?_, ?_⟩
        · show Desk.mk d.chans _ d.tick = Desk.mk (setI d.chans x.channel (Chan.mk c.capacity [] c.closed)) _ d.tick
          rw [← hbf, chan_eta, setI_self hc]; rfl
        · exact hcomm _ _
      | cons v b =>
        rw [hbf] at hb
        rw [if_pos (by simp), show getI (v :: b) 0 = some v from rfl]
        simp only [Option.bind_some]
        rw [cutI_eq (by omega) (by simp; omega) (by omega)]
        have e : ((v :: b).take (((v :: b).length : Int)).toNat).drop (1 : Int).toNat = b := by simp
        rw [e]
        simp only [Option.bind_some]
        rw [clone_eq (by simp at hb; omega)]
        simp only [Option.bind_some]
        rw [if_pos (by omega)]
        rw [take_eq (W := Desk_work.mk (Desk.mk (setI (WW d).desk.chans x.channel (Chan.mk c.capacity b c.closed)) (WW d).desk.waiting (WW d).desk.tick) (WW d).done) hl2 (by simp [WW]) hw2 hwo q2]
        simp only [bd3_some]
        rw [app_eq (by simp at hb ⊢; omega)]
        simp only [Option.bind_some]
        unfold M_93z
        refine ⟨_, _, _, _, rfl, by rw [addD_len]; simp [WW], ?_, ?_⟩
        · rw [setI_setI]; rfl
        · exact hcomm _ _
theorem close_eq {W : Desk_work} {ch : Int} {c : Chan} (hl : W.desk.waiting.length ≤ 1000) (hd : W.done.length ≤ 1000) (ho : ∀ w ∈ W.desk.waiting, WOk w) (hc : getI W.desk.chans ch = some c) :
    M_79z W ch = some (setI W.desk.chans ch (Chan.mk c.capacity c.buffer true), (shutP ch true 5 (shutP ch false 2 W.desk.waiting W.done).1 (shutP ch false 2 W.desk.waiting W.done).2)) := by
  refine Ok.eq ?_
  unfold M_79z
  rw [hc]
  simp only [Option.bind_some]
  have pass : ∀ (send : Bool) (kd i : Int) (k : Int → List Waiter → List Done → Option (List Chan × List Waiter × List Done)) (ws0 : List Waiter) (out0 : List Done) (P : List Chan × List Waiter × List Done → Prop),
      0 ≤ i → i < 2 → ws0.length ≤ 1000 → out0.length ≤ 3000 → (∀ w ∈ ws0, WOk w) →
      Ok (k (i + 1) (shutP ch send kd ws0 out0).1 (shutP ch send kd ws0 out0).2) P →
      Ok (lp3 (M_78z ch send i W c kd k) BIG 0 ws0 out0) P := by
    intro send kd i k ws0 out0 P i0 i1 hws hout hops hfin
    refine lp3_ok (fun j ws out => ((ws.length : Int) - j).toNat) (fun j ws out => 0 ≤ j ∧ j ≤ (ws.length : Int) ∧ (∀ w ∈ ws, WOk w) ∧ ws.length + out.length ≤ 5000 ∧
      (shutP ch send kd ws0 out0).1 = ws.take j.toNat ++ (shutP ch send kd (ws.drop j.toNat) out).1 ∧
      (shutP ch send kd ws0 out0).2 = (shutP ch send kd (ws.drop j.toNat) out).2) (fun _ _ _ => P) ?_ BIG 0 ws0 out0 ⟨by omega, by omega, hops, by omega, by simp, by simp⟩ (lt_BIG (by omega))
    intro j ws out k' ⟨g0, g1, g4, g5, g6, g7⟩ hk
    unfold M_78z
    refine Ok.ite (fun h4 => ?_) fun h4 => ?_
    · obtain ⟨w, hwj⟩ : ∃ w, getI ws j = some w := ⟨_, getI_eq g0 h4⟩
      have hdr := drop_getI hwj
      have htk := take_getI hwj
      have hwc := g4 w (getI_mem hwj)
      rw [hwj]
      simp only [Option.bind_some]
      rw [meeting_eq hwc.op.nos hwc.op.len]
      rw [hdr] at g6 g7
      have eP : ∀ out, shutP ch send kd (w :: ws.drop (j + 1).toNat) out = if sideD w.op ch send < 0 then (w :: (shutP ch send kd (ws.drop (j + 1).toNat) out).1, (shutP ch send kd (ws.drop (j + 1).toNat) out).2) else shutP ch send kd (ws.drop (j + 1).toNat) (addD out w.thread (resD kd (namedD w.op (sideD w.op ch send)) 0 false)) := fun out => rfl
      rw [eP] at g6 g7
      by_cases h5 : sideD w.op ch send < 0
      · rw [if_pos h5] at g6 g7
        rw [if_neg (by omega)]
        simp only [bd2_some]
        rw [if_neg (by decide), wI_id (by omega) (by omega)]
        refine hk _ _ _ ⟨by omega, by omega, g4, g5, ?_, g7⟩ (by omega)
        rw [g6, htk]; simp
      · rw [if_neg h5] at g6 g7
        rw [if_pos (by omega)]
        simp only [bd2_some, if_true]
        rw [wake_eq (W := Desk_work.mk (Desk.mk _ ws _) out) (by show ws.length ≤ 100000; omega) (by show out.length ≤ 100000; omega) hwj]
        simp only [bd2_some]
        have hj1 : (j + 1).toNat = j.toNat + 1 := by omega
        have hlen : (ws.take j.toNat ++ ws.drop (j.toNat + 1)).length + 1 = ws.length := by simp; omega
        have htake : (ws.take j.toNat ++ ws.drop (j.toNat + 1)).take j.toNat = ws.take j.toNat := by
          rw [List.take_append_of_le_length (by simp; omega), List.take_take]; simp
        have hdrop : (ws.take j.toNat ++ ws.drop (j.toNat + 1)).drop j.toNat = ws.drop (j.toNat + 1) := by
          rw [List.drop_append_of_le_length (by simp; omega), List.drop_take]; simp
        refine hk _ _ _ ⟨g0, by show j ≤ ((ws.take j.toNat ++ ws.drop (j.toNat + 1)).length : Int); omega, fun u hu => ?_, ?_, ?_, ?_⟩ ?_
        · rcases List.mem_append.1 hu with hu | hu
          · exact g4 u (List.mem_of_mem_take hu)
          · exact g4 u (List.mem_of_mem_drop hu)
        · rw [addD_len]; show (ws.take j.toNat ++ ws.drop (j.toNat + 1)).length + (out.length + 1) ≤ 5000; omega
        · show _ = (ws.take j.toNat ++ ws.drop (j.toNat + 1)).take j.toNat ++ (shutP ch send kd ((ws.take j.toNat ++ ws.drop (j.toNat + 1)).drop j.toNat) _).1
          rw [htake, hdrop, ← hj1]; exact g6
        · show _ = (shutP ch send kd ((ws.take j.toNat ++ ws.drop (j.toNat + 1)).drop j.toNat) _).2
          rw [hdrop, ← hj1]; exact g7
        · show (((ws.take j.toNat ++ ws.drop (j.toNat + 1)).length : Int) - j).toNat < _
          omega
    · unfold M_134z
      have hj : j.toNat = ws.length := by omega
      rw [hj, List.drop_eq_nil_of_le (Nat.le_refl _), List.take_of_length_le (Nat.le_refl _)] at g6
      rw [hj, List.drop_eq_nil_of_le (Nat.le_refl _)] at g7
      simp only [shutP, List.append_nil] at g6 g7
      rw [wI_id (by omega) (by omega), ← g6, ← g7]
      exact hfin
  obtain ⟨B, hB⟩ : ∃ B, BIG = B + 3 := ⟨BIG - 3, by unfold BIG; omega⟩
  have hs1 := shutP_len ch false 2 W.desk.waiting W.done
  have hsub1 := shutP_sub ch false 2 W.desk.waiting W.done
  have hlsub := hsub1.length_le
  have step : ∀ n a b c2, lp3 (M_26z ch W c) (n + 1) a b c2 = M_26z ch W c (lp3 (M_26z ch W c) n) a b c2 := fun _ _ _ _ => rfl
  have stepL : ∀ k i l o, M_26z ch W c k i l o = if i < ((([false, true] : List Bool).length : Nat) : Int) then (getI [false, true] i).bind fun x => (if x = true then M_11z ch x i W c l o k 5 else M_11z ch x i W c l o k 2) else some (setI W.desk.chans ch (Chan.mk c.capacity c.buffer true), l, o) := fun _ _ _ _ => rfl
  rw [hB, step, stepL, if_pos (by decide), show getI [false, true] 0 = some false from rfl]
  simp only [Option.bind_some]
  rw [if_neg (by decide)]
  unfold M_11z
  refine pass false 2 0 _ _ _ _ (by omega) (by omega) hl (by omega) ho ?_
  rw [show (0 : Int) + 1 = 1 from rfl, step, stepL, if_pos (by decide), show getI [false, true] 1 = some true from rfl]
  simp only [Option.bind_some, if_true]
  unfold M_11z
  refine pass true 5 1 _ _ _ _ (by omega) (by omega) (by omega) (by omega) (fun w hw' => ho w (hsub1.subset hw')) ?_
  rw [show (1 : Int) + 1 = 2 from rfl, step, stepL, if_neg (by decide)]
  exact Ok.some rfl
end Go.Hx
