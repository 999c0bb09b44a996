/- The text of any event. -/
import Derived.Test.YtlegagccaeoidaaDoorXRRep
import Derived.Test.YtlegagccaeoidaaDoorHxLaw
namespace Go.Hx
open Go
set_option linter.unusedVariables false
set_option linter.unusedSimpArgs false
structure EW (e : Event) : Prop where
  t0 : -9223372036854775808 ≤ e.thread
  t1 : e.thread ≤ 9223372036854775807
  o0 : -9223372036854775808 ≤ e.op
  o1 : e.op ≤ 9223372036854775807
  r : RW e.result
theorem EW.of {e : Event} (ht : inI e.thread) (ho : inI e.op) (hr : RW e.result) : EW e := ⟨ht.1, by have := ht.2; omega, ho.1, by have := ho.2; omega, hr⟩
def evT (e : Event) : List UInt8 := Lib.itoa e.thread ++ [32] ++ Lib.itoa e.op ++ [32] ++ (if e.ret = true then resT e.result else [99, 97, 108, 108])
theorem resT_len {r : Result} (h : RW r) : (resT r).length ≤ 100 := by
  have h1 := words_len h
  have h2 := Lib.itoa_length_le r.case_ h.c0 h.c1
  unfold resT
  split <;> simp <;> omega
theorem report_event {e : Event} (h : EW e) : M_report_Event e = some (BS (evT e)) := by
  have h1 := Lib.itoa_length_le e.thread h.t0 h.t1
  have h2 := Lib.itoa_length_le e.op h.o0 h.o1
  have h3 := resT_len h.r
  refine Ok.eq ?_
  have hJ : ∀ l : List UInt8, l.length ≤ 100 → l = (if e.ret = true then resT e.result else [99, 97, 108, 108]) → Ok (M_report_Event_J1 e (BS l)) fun x => x = BS (evT e) := by
    intro l hl he
    unfold M_report_Event_J1
    refine Ok.bindEq (itoa_eq h.t0 h.t1) ?_
    refine Ok.bindEq (cat_eq (b := [32]) (by simp; omega)) ?_
    refine Ok.bindEq (itoa_eq h.o0 h.o1) ?_
    refine Ok.bindEq (cat_eq (by simp; omega)) ?_
    refine Ok.bindEq (cat_eq (b := [32]) (by simp; omega)) ?_
    refine Ok.bindEq (cat_eq (by simp; omega)) ?_
    refine Ok.some ?_
    rw [he]; rfl
  unfold M_report_Event
  refine Ok.ite (fun hr => ?_) fun hr => ?_
  · refine Ok.bindEq (report_res h.r) ?_
    exact hJ _ h3 (by rw [if_pos hr])
  · exact hJ [99, 97, 108, 108] (by simp) (by rw [if_neg hr])
theorem ref_event {e : Event} (h : EW e) : M_ref23_Event e = some (BS (evT e)) := by
  have h1 := Lib.itoa_length_le e.thread h.t0 h.t1
  have h2 := Lib.itoa_length_le e.op h.o0 h.o1
  have h3 := resT_len h.r
  refine Ok.eq ?_
  unfold M_ref23_Event
  refine Ok.bindEq (num_eq h.t0 h.t1) ?_
  refine Ok.bindEq (cat_eq (b := [32]) (by simp; omega)) ?_
  refine Ok.bindEq (num_eq h.o0 h.o1) ?_
  refine Ok.bindEq (cat_eq (by simp; omega)) ?_
  refine Ok.bindEq (cat_eq (b := [32]) (by simp; omega)) ?_
  unfold evT
  refine Ok.ite (fun hr => ?_) fun hr => ?_
  · refine Ok.bindEq (ref_res h.r) ?_
    refine Ok.bindEq (cat_eq (by simp; omega)) ?_
    exact Ok.some (by rw [if_pos hr])
  · refine Ok.bindEq (cat_eq (b := [99, 97, 108, 108]) (by simp; omega)) ?_
    exact Ok.some (by rw [if_neg hr])
theorem law_ReportEvents (raw : Event) (thread op : Int) (h : EW raw) : M_law26_ReportEvents raw thread op = some true := by
  refine Ok.eq ?_
  unfold M_law26_ReportEvents
  refine Ok.bindEq awake26 ?_
  rw [if_pos rfl]
  refine Ok.bindEq (report_event h) ?_
  refine Ok.bindEq (ref_event h) ?_
  rw [if_pos rfl]
  have a := wI_rng thread; have b := wI_rng op
  have h' : EW (Event.mk (wI thread) (wI op) raw.ret raw.result) := ⟨a.1, by simp only; omega, b.1, by simp only; omega, h.r⟩
  refine Ok.bindEq (report_event h') ?_
  refine Ok.bindEq (ref_event h') ?_
  exact Ok.some (by rw [dcd_tt])
end Go.Hx
