/- A select that finds some cases ready takes each of them for the same number of lists of draws. -/
import Derived.Test.YthokebmjjkjjfaaXDDesk8
namespace Go.Hx
open Go
set_option linter.unusedVariables false
set_option linter.unusedSimpArgs false
theorem getI_map {α β : Type} (f : α → β) (l : List α) (i : Int) : getI (l.map f) i = (getI l i).map f := by
  unfold getI
  split
  · rw [List.getElem?_map]
  · rfl
def ordR (n : Int) (l : List Int) : List Int := (M_4z n l).getD []
def choiceR (rs : List Bool) (l : List Int) : Int := (getI (ordR rs.length l) (idxI (fun e => (getI rs e).getD false) (ordR rs.length l))).getD (-1)
def fairJ5 (n : Int) (l : List Int) : Option Bool := (M_4z n l).bind fun x => some (dcd ((x.length : Int) = n))
def fairJ6 (i : Int) (k : Int → Option Bool) (t : Bool) : Option Bool := if t = true then some false else k (wI (i + 1))
def fairL3 (rs : List Bool) (rd : Int) (wins : List Int) (all : Int) (l : List Int) (k : Int → Option Bool) (i : Int) : Option Bool :=
  (if i < (wins.length : Int) then (getI rs i).bind fun a => (if a = true then (getI wins i).bind fun w => (if (wI (w * rd)) = all then (getI rs i).bind fun b => (if b = true then fairJ6 i k false else (getI wins i).bind fun u => fairJ6 i k (dcd (u > 0))) else fairJ6 i k true) else (getI rs i).bind fun b => (if b = true then fairJ6 i k false else (getI wins i).bind fun u => fairJ6 i k (dcd (u > 0)))) else fairJ5 rs.length l)
def fairJ4 (wins : List Int) (i c : Int) (l : List Int) (k : List Int → Int → List Int → Option Bool) (t : Bool) : Option Bool :=
  (if t = true then some false else (if c ≥ 0 then (getI wins c).bind fun a => (getI wins c).bind fun b => k (setI wins c (wI (a + 1))) (wI (i + 1)) l else k wins (wI (i + 1)) l))
def fairL2 (rs : List Bool) (rd : Int) (drs : List (List Int)) (k : List Int → Int → List Int → Option Bool) (wins : List Int) (i : Int) (l : List Int) : Option Bool :=
  (if i < (drs.length : Int) then (getI drs i).bind fun o => (if choiceR rs o < (-1) then fairJ4 wins i (choiceR rs o) o k true else (if choiceR rs o ≥ (rs.length : Int) then fairJ4 wins i (choiceR rs o) o k true else fairJ4 wins i (choiceR rs o) o k (!(((dcd (choiceR rs o ≥ 0)) == (dcd (rd > 0))))))) else lp1 (fairL3 rs rd wins i l) BIG 0)
def fairJ2 (rs : List Bool) (rd : Int) (l : List Int) : Option Bool :=
  (mkl (rs.length : Int) (0 : Int)).bind fun w => (M_68z (rs.length : Int)).bind fun drs => lp3 (fairL2 rs rd drs) BIG w 0 l
def fairL1 (rs : List Bool) (l : List Int) (k : Int → Int → Option Bool) (rd i : Int) : Option Bool :=
  (if i < (rs.length : Int) then (getI rs i).bind fun b => (if b = true then k (wI (rd + 1)) (wI (i + 1)) else k rd (wI (i + 1))) else fairJ2 rs rd l)
def fairR (rs : List Bool) (l : List Int) : Option Bool := lp2 (fairL1 rs l) BIG 0 0
section
variable {n : Nat} {d : Desk} {t : Int} {op : Op}
theorem rdy_bind (h : DI n d) {R : Type} (f : Bool → Option R) (i : Int) : ((getI op.cases i).bind fun y => (M_6z d t y).bind f) = (getI (op.cases.map (rdyD d t)) i).bind f := by
  rw [getI_map]
  cases getI op.cases i with
  | none => rfl
  | some y => simp only [Option.bind_some, Option.map_some]; rw [rdyD_eq h.ok]; rfl
theorem choiceR_eq (h : DI n d) (hc : op.cases.length ≤ 20) (l : List Int) : M_27z d t (Op.mk op.kind op.mode op.channel op.value op.deadline op.cases l) = some (choiceR (op.cases.map (rdyD d t)) l) := by
  rw [deskChoice_eq (op := Op.mk op.kind op.mode op.channel op.value op.deadline op.cases l) h hc]
  have e1 : orderD (Op.mk op.kind op.mode op.channel op.value op.deadline op.cases l) = ordR ((op.cases.map (rdyD d t)).length : Int) l := by
    unfold orderD ordR M_5z
    rw [List.length_map]
    cases M_4z (op.cases.length : Int) l <;> rfl
  have e2 : choicePd d t (Op.mk op.kind op.mode op.channel op.value op.deadline op.cases l) = fun e => (getI (op.cases.map (rdyD d t)) e).getD false := by
    funext e
    unfold choicePd
    rw [getI_map]
    cases getI op.cases e <;> rfl
  unfold choiceD choiceR
  rw [e1, e2]
theorem fairL3_eq (h : DI n d) (rd : Int) (wins : List Int) (all : Int) (l : List Int) : M_125z t op rd wins all l d = fairL3 (op.cases.map (rdyD d t)) rd wins all l := by
  funext k i
  unfold M_125z fairL3
  simp only [rdy_bind h]
  unfold M_163z fairJ5 M_5z
  rw [List.length_map]
  by_cases hi : i < (wins.length : Int)
  · rw [if_pos hi, if_pos hi]; rfl
  · rw [if_neg hi, if_neg hi]
    cases M_4z (op.cases.length : Int) l <;> rfl
theorem fairL2_eq (h : DI n d) (hc : op.cases.length ≤ 20) (rd : Int) (drs : List (List Int)) : M_127z t op rd drs d = fairL2 (op.cases.map (rdyD d t)) rd drs := by
  funext k wins i l
  unfold M_127z fairL2
  simp only [choiceR_eq h hc, Option.bind_some, List.length_map]
  unfold M_164z
  rw [fairL3_eq h]
  rfl
theorem fair_eq (h : DI n d) (hc : op.cases.length ≤ 20) : lp2 (M_69z t op d) BIG 0 0 = fairR (op.cases.map (rdyD d t)) op.draws := by
  have : M_69z t op d = fairL1 (op.cases.map (rdyD d t)) op.draws := by
    funext k rd i
    unfold M_69z fairL1
    simp only [rdy_bind h]
    unfold M_165z fairJ2
    simp only [fairL2_eq h hc, List.length_map]
  rw [this]; rfl
end
theorem fairR_all : ([1, 2, 3, 4].all fun n => (List.range (2 ^ n)).all fun q => fairR ((List.range n).map fun i => (q / 2 ^ i) % 2 == 1) [] == some true) = true := by decide +kernel
theorem draws_all : ([1, 2, 3, 4].all fun n : Int => match M_68z n with | some (_ :: _) => true | _ => false) = true := by decide +kernel
theorem fairJ2_nil {rs : List Bool} {rd : Int} {l : List Int} (h : 1 ≤ rs.length ∧ rs.length ≤ 4) : fairJ2 rs rd l = fairJ2 rs rd [] := by
  have hd := draws_all
  rw [List.all_eq_true] at hd
  have hd := hd (rs.length : Int) (by
    have : (rs.length : Int) = 1 ∨ (rs.length : Int) = 2 ∨ (rs.length : Int) = 3 ∨ (rs.length : Int) = 4 := by omega
    rcases this with e | e | e | e <;> rw [e] <;> decide)
  unfold fairJ2
  cases hm : mkl (rs.length : Int) (0 : Int) with
  | none => simp only [Option.bind_none]
  | some w =>
    simp only [Option.bind_some]
    cases hq : M_68z (rs.length : Int) with
    | none => simp only [Option.bind_none]
    | some drs =>
      cases drs with
      | nil => rw [hq] at hd; cases hd
      | cons a b =>
        simp only [Option.bind_some]
        obtain ⟨B, hB⟩ : ∃ B, BIG = B + 1 := ⟨BIG - 1, by unfold BIG; omega⟩
        rw [hB]
        show fairL2 rs rd (a :: b) (lp3 (fairL2 rs rd (a :: b)) B) w 0 l = fairL2 rs rd (a :: b) (lp3 (fairL2 rs rd (a :: b)) B) w 0 []
        unfold fairL2
        have h0 : (0 : Int) < ((a :: b).length : Int) := by rw [List.length_cons]; omega
        rw [if_pos h0, if_pos h0]
theorem fairR_nil {rs : List Bool} {l : List Int} (h : 1 ≤ rs.length ∧ rs.length ≤ 4) : fairR rs l = fairR rs [] := by
  have : fairL1 rs l = fairL1 rs [] := by
    funext k rd i
    unfold fairL1
    rw [fairJ2_nil h]
  unfold fairR
  rw [this]
theorem bools : ∀ (rs : List Bool), 1 ≤ rs.length → rs.length ≤ 4 → ∃ n ∈ [1, 2, 3, 4], ∃ q ∈ List.range (2 ^ n), rs = (List.range n).map fun i => (q / 2 ^ i) % 2 == 1
  | [], h, _ => by simp at h
  | [a], _, _ => by cases a <;> decide
  | [a, b], _, _ => by cases a <;> cases b <;> decide
  | [a, b, c], _, _ => by cases a <;> cases b <;> cases c <;> decide
  | [a, b, c, d], _, _ => by cases a <;> cases b <;> cases c <;> cases d <;> decide
  | _ :: _ :: _ :: _ :: _ :: _, _, h => by simp at h
theorem fairR_true {rs : List Bool} {l : List Int} (h : 1 ≤ rs.length ∧ rs.length ≤ 4) : fairR rs l = some true := by
  rw [fairR_nil h]
  obtain ⟨n, hn, q, hq, e⟩ := bools rs h.1 h.2
  have := fairR_all
  rw [List.all_eq_true] at this
  have := this n hn
  rw [List.all_eq_true] at this
  have := this q hq
  rw [e]
  exact eq_of_beq this
theorem law_DeskFair (p0 : List Int) (p1 : Int) (hp : ∀ b ∈ p0, 0 ≤ b ∧ b < 256) : M_166z p0 p1 = some true := by
  refine Ok.eq ?_
  unfold M_166z
  refine Ok.bindEq awakeD ?_
  rw [if_pos rfl]
  refine Ok.bind (New_ok hp (by omega) (by omega)) fun c ⟨hc, _⟩ => ?_
  obtain ⟨hl, ha⟩ := hc
  refine Ok.bd3 (Config_ok ⟨hl, ha⟩) fun x a1 v1 ⟨hx, ha1⟩ => ?_
  simp only at hx ha1
  have hx2 := hx.t2
  have hx4 := hx.t4
  have hx3 := hx.n3
  refine Ok.bd3 (reach_ok (c := Draw_Codes.mk c.list a1 v1) ⟨hl, ha1⟩ hx (by omega) (by omega)) fun d a2 v2 ⟨hd, ha2⟩ => ?_
  simp only at hd ha2
  refine Ok.bind (Mod_ok (by omega) (by omega)) fun t ⟨_, _⟩ => ?_
  have hwt := hd.ok.wt
  refine Ok.bd3 (Select_ok (c := Draw_Codes.mk c.list a2 v2) ⟨hl, ha2⟩ (by omega) (by omega) (by omega)) fun op a3 v3 ⟨ho, ha3, _, h4⟩ => ?_
  simp only at ho h4
  refine Ok.bind (waits_ok (by omega)) fun b hb => ?_
  unfold M_128z
  refine Ok.ite (fun h => by rw [if_pos rfl]; exact Ok.some rfl) fun h => ?_
  refine Ok.ite (fun h => Ok.some rfl) fun h => ?_
  rw [dcd_tt] at h
  rw [fair_eq hd ho.len, fairR_true (by rw [List.length_map]; omega)]
  exact Ok.some rfl
end Go.Hx
