/- The clocks of a beginning are the beginning of the clocks. -/
import Derived.Test.YthpjaddchdnejaaXBLHappensClocks
namespace Go.Hx
open Go
set_option linter.unusedVariables false
set_option linter.unusedSimpArgs false
theorem out_more : ∀ (l : List Item) (s : CS), ∃ e, (l.foldl stepC s).out = s.out ++ e
  | [], s => ⟨[], by simp⟩
  | x :: l, s => by
    obtain ⟨e, he⟩ := out_more l (stepC s x)
    exact ⟨c1S s x :: e, by rw [List.foldl_cons, he]; simp [stepC]⟩
theorem clk_prefix (t : Int) (a b : List Item) : ∃ e, clkS t (a ++ b) = clkS t a ++ e := by
  unfold clkS runC
  rw [List.foldl_append]; exact out_more _ _
theorem law_HappensPrefixes (codes : List Int) (n cut : Int) (hc : ∀ b ∈ codes, 0 ≤ b ∧ b < 256) (hn : 0 ≤ n ∧ n < 256) : M_law18_HappensPrefixes codes n cut = some true := by
  refine Ok.eq ?_
  unfold M_law18_HappensPrefixes
  rw [awake18]
  simp only [Option.bind_some, if_true]
  have ht := thr_eq hn.1 hn.2
  generalize hT : wI (1 + wI (Int.tmod n 4)) = t at *
  have t1 : 1 ≤ t := by omega
  have t8 : t ≤ 8 := by omega
  refine Ok.bind (law_items hc t1 t8 (by omega) (by omega)) fun l ⟨hl, hll⟩ => ?_
  rw [wI_id (x := (l.length : Int) + 1) (by omega) (by omega)]
  refine Ok.bind (mod_ok (by omega) (by omega)) fun k ⟨k0, k1⟩ => ?_
  rw [clocks_happens hl, cutI_eq (by omega) k0 (by omega)]
  simp only [Option.bind_some]
  have e0 : List.drop (0 : Int).toNat (l.take k.toNat) = l.take k.toNat := by simp
  rw [e0, clocks_happens (hl.take _)]
  simp only [Option.bind_some]
  have hcl := clk_len hl
  have hcl2 := clk_len (hl.take k.toNat)
  rw [if_pos (by omega)]
  unfold M_law18_HappensPrefixes_J1
  have e1 : (((clkS t (l.take k.toNat)).length : Int) = k) := by rw [hcl2]; simp; omega
  rw [if_neg (by rw [e1]; simp [dcd_eq])]
  obtain ⟨e, he⟩ := clk_prefix t (l.take k.toNat) (l.drop k.toNat)
  rw [List.take_append_drop] at he
  refine lp1_ok (fun i => (k - i).toNat) (fun i => 0 ≤ i ∧ i ≤ k) (fun _ => _) ?_ BIG 0 ⟨by omega, by omega⟩ (lt_BIG (by omega))
  intro j q ⟨f0, f1⟩ hq
  unfold M_law18_HappensPrefixes_L1
  refine Ok.ite (fun h6 => ?_) fun h6 => Ok.some rfl
  have hg : getI (clkS t l) j = getI (clkS t (l.take k.toNat)) j := by
    unfold getI; rw [if_pos f0, if_pos f0, he, List.getElem?_append_left (by omega)]
  obtain ⟨e2, e3⟩ := ck_get (hl.take k.toNat) f0 (by omega)
  rw [hg, e2]
  simp only [Option.bind_some]
  rw [same_ok rfl (by omega)]
  simp only [Option.bind_some, if_true]
  rw [wI_id (by omega) (by omega)]
  exact hq _ (by omega) (by omega)
end Go.Hx
