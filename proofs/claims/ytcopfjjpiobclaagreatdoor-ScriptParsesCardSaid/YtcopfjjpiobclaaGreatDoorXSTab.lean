
import Derived.Test.YtcopfjjpiobclaaGreatDoorXSFmt
import Derived.Test.YtcopfjjpiobclaaGreatDoorHxLaw
import Derived.Test.YtcopfjjpiobclaaGreatDoorRows
import Derived.WideKeyElems2
import Derived.Maps.Range
import Derived.Maps.RangeWalk
import Derived.Maps.StringElems
import Derived.Shelf.Vars
import Derived.Lib.LaidTab
import Derived.MakeChecks
import Derived.Stop.LaidErr
import Derived.LaidMore
import Derived.Deep.DeepWitnessRowRef
namespace Go.Hx
open Go Go.ChangeShapes Go.WideShapes Go.WideElems Go.Proofs Go.Proofs.YtcopfjjpiobclaaGreatDoor
set_option linter.unusedVariables false
set_option maxRecDepth 100000
abbrev afr : List (String × DataW Unit) := Rows.scriptTripRow.laid
theorem ahI {P : Program} {w : World} : ∀ {l : List (String × DataW Unit)} {ps : List MemPlace}, DataW.LaidVars P w l ps → ∀ {n : String} {d : DataW Unit}, (n, d) ∈ l →
  ∃ g t cs fuel p, P.globalNamed n = some g ∧ (P.globals[g]?).map (·.type) = some t ∧ w.var? P n = some cs ∧ DataW.trod (fun _ => ()) P w 0 (fun _ => true) false fuel t cs.toList = some (d, p) := by
 intro l
 induction l with
 | nil => intro ps _ n d h; cases h
 | cons x r ih =>
  intro ps h n d hm
  obtain ⟨n0, d0⟩ := x
  obtain ⟨g, t, cs, fuel, p, q, h1, h2, h3, h4, h5, _⟩ := h
  rcases List.mem_cons.1 hm with e | hm
  ·cases e
   exact ⟨g, t, cs, fuel, p, h1, h2, h3, h4⟩
  ·exact ih h5 hm
theorem ajm {P : Program} {w : World} {l : List (String × DataW Unit)} {ps : List MemPlace} (h : DataW.LaidVars P w l ps) {n : String} {d : DataW Unit} (hm : (n, d) ∈ l) {g : Nat} {t : TypeId} (hg : P.globalNamed n = some g) (ht : (P.globals[g]?).map (·.type) = some t) :
  ∃ cs fuel p t' fr, w.heap[g]? = some (.cells cs t' fr) ∧ DataW.trod (fun _ => ()) P w 0 (fun _ => true) false fuel t cs.toList = some (d, p) := by
 obtain ⟨g', t', cs, fuel, p, h1, h2, h3, h4⟩ := ahI h hm
 obtain rfl := Option.some.inj (hg.symm.trans h1)
 obtain rfl := Option.some.inj (ht.symm.trans h2)
 unfold World.var? at h3
 rw [hg, Option.bind_some] at h3
 split at h3
 ·rename_i cs' t2 fr hh
  cases h3
  exact ⟨cs, fuel, p, t2, fr, hh, h4⟩
 ·cases h3
theorem aiS {H : Type} {enc : TypeId × Value → H} {P : Program} {w : World} {base : Nat} {sp : Nat → Bool} {fuel : Nat} {t : TypeId} {ms : Array (String × TypeId)} {cs : List Value} {nm : String} {d : DataW H} {p : List MemPlace}
  (ht : P.underlying t = some (.interface ms)) (h : DataW.trod enc P w base sp false fuel t cs = some (.iface nm d, p)) : ∃ u v, cs = [.iface u v] := by
 cases fuel with
 | zero => simp [DataW.trod] at h
 | succ n =>
  rw [DataW.trod_step] at h
  unfold DataW.trodStep at h
  rw [ht] at h
  split at h
  all_goals first
   | (rename_i e; cases e; exact ⟨_, _, rfl⟩)
   | (rename_i e; cases e; done)
   | (exact ⟨_, _, rfl⟩)
   | (simp at h)
theorem gErrS : Tryz.prog.globalNamed "strconv.ErrSyntax" = some 3 := by kernel_rfl
theorem gErrR : Tryz.prog.globalNamed "strconv.ErrRange" = some 4 := by kernel_rfl
theorem ani : Tryz.prog.globalNamed "chanfabric/script.words" = some 0 := by kernel_rfl
theorem tErrS : (Tryz.prog.globals[3]?).map (·.type) = some 116 := by kernel_rfl
theorem tErrR : (Tryz.prog.globals[4]?).map (·.type) = some 116 := by kernel_rfl
theorem anz : (Tryz.prog.globals[0]?).map (·.type) = some 106 := by kernel_rfl
theorem gTab : Tryz.prog.globalNamed "internal/strconv.uint64pow10" = some 2 := by kernel_rfl
theorem alj : (Tryz.prog.globals[2]?).map (·.type) = some 151 := by kernel_rfl
theorem anh : Tryz.prog.cellsOf 151 = 20 := by kernel_rfl
theorem ang : Tryz.prog.cellsOf 53 = 1 := by kernel_rfl
theorem ali : (Rows.laid_internal_strconv_uint64pow10 : DataW Unit) = Lib.tabData .u64 Lib.pow10Tab := by kernel_rfl
theorem ajo : ((begin Tryz.prog (fun _ _ => 0) default).world.heap[1]?).bind Obj.row? = some (#[.int .i64 0], 3) := by kernel_rfl
theorem als : Tryz.prog.buildable 3 = true := by kernel_rfl
theorem alt : Tryz.prog.cellTypes Tryz.prog.depth 3 = some [3] := by kernel_rfl
theorem amM : 1 < Tryz.prog.globals.size := of_decide_eq_true (by kernel_rfl)
theorem agX {cs : Array Value} {v : Value} (h : cs.toList = [v]) : cs = [v].toArray := by
 obtain ⟨l⟩ := cs
 simp only at h
 rw [h]
theorem table {W : World} (h : laidMet Tryz.prog afr W) : Lib.TabIs Tryz.prog W "internal/strconv.uint64pow10" .u64 Lib.pow10Tab := by
 have h2 : laidMet Tryz.prog [("internal/strconv.uint64pow10", Rows.laid_internal_strconv_uint64pow10), ("unicode/utf8.acceptRanges", Rows.laid_unicode_utf8_acceptRanges), ("strconv.ErrRange", Rows.laid_strconv_ErrRange), ("strconv.ErrSyntax", Rows.laid_strconv_ErrSyntax), ("chanfabric/script.words", Rows.laid_chanfabric_script_words), ("unicode/utf8.first", Rows.laid_unicode_utf8_first)] W := laidMet.tail (laidMet.tail h)
 rw [ali] at h2
 exact Lib.tabIs_of_head gTab alj Tryz.underlying151 Tryz.underlying53 ang anh h2
theorem aje {W : World} {g : Nat} {n : String} {nm : String} {d : DataW Unit} {ps : List MemPlace} (h : DataW.LaidVars Tryz.prog W afr ps) (hm : (n, .iface nm d) ∈ afr) (hg : Tryz.prog.globalNamed n = some g) (ht : (Tryz.prog.globals[g]?).map (·.type) = some 116) :
  ∃ te pe t fr, (IR W).o g = some (.cells [Value.iface te pe].toArray t fr) := by
 obtain ⟨cs, fuel, p, t', fr, hh, hd⟩ := ajm h hm hg ht
 obtain ⟨u, v, e⟩ := aiS Tryz.underlying116 hd
 rw [agX e] at hh
 exact ⟨u, v, t', fr, hh⟩
theorem aml {W : World} (h : W.ShapedOpen Tryz.prog) : ∃ m t fr, (IR W).o 1 = some (.cells [Value.int .i64 m].toArray t fr) := by
 obtain ⟨m, hm⟩ := cell_of_shapedOpen_int h amM ajo rfl als alt Tryz.underlying3
 obtain ⟨cs, hh, hs, _⟩ := h.1 1 _ 3 amM ajo
 have hs1 : cs.size = 1 := hs
 have h0 : cs[0]? = some (Value.int .i64 m) := by
  have := hm
  unfold World.cell? at this
  simpa [hh] using this
 have e : cs = [Value.int .i64 m].toArray := agX (by
  obtain ⟨l⟩ := cs
  match l, hs1, h0 with
  | [x], _, h0 => simp at h0; subst h0; rfl)
 rw [e] at hh
 exact ⟨m, _, _, hh⟩
theorem ake {W : World} {ps : List MemPlace} (h : DataW.LaidVars Tryz.prog W afr ps) : ∃ b t fr es clk, GMap (IR W) 0 b t fr es clk (H2 EN) := by
 obtain ⟨cs, fuel, p, t', fr, hh, hd⟩ := ajm h (n := "chanfabric/script.words") (d := Rows.laid_chanfabric_script_words) (.tail _ (.tail _ (.tail _ (.tail _ (.tail _ (.tail _ (.head _))))))) ani anz
 rcases open_map Tryz.underlying106 hd with ⟨_, hx⟩ | ⟨b, es, clk, n, _, hcs, hb, _, F, hx⟩
 ·simp [Rows.laid_chanfabric_script_words] at hx
 simp only [Prod.mk.injEq] at hx
 obtain ⟨hx, _⟩ := hx
 unfold Rows.laid_chanfabric_script_words at hx
 injection hx with hx
 rw [agX hcs] at hh
 obtain ⟨s1, s2, s3⟩ := F.stamped
 have rep : ∀ x ∈ es.toList, ∃ (k : Int) (s : ByteArray), x.key = .int .i64 k ∧ x.val = .string s ∧ rg Tryz.prog 3 (elemAt (fun _ => ()) Tryz.prog W 0 (fun _ => true) false n 9) x = (.int .i64 k, .lit (.string s.data.toList)) := by
  intro x hxm
  obtain ⟨y, hy⟩ := F.reads x hxm
  have hk := rd_key hy
  obtain ⟨k, e1, e2, _⟩ := Maps.keyOf_int_inv Tryz.underlying3 hk
  unfold rd at hy
  rw [hk, Option.bind_some] at hy
  obtain ⟨z, hz, e3⟩ := Option.map_eq_some_iff.1 hy
  obtain ⟨s, e4, e5, _⟩ := elemAt_string Tryz.underlying9 hz
  refine ⟨k, s, e1, e4, ?_⟩
  have hy2 := rg_of (F.reads x hxm).choose_spec
  unfold rg rd
  rw [hk, Option.bind_some, hz, Option.map_some, Option.getD_some, e5]
  have : y = (y.1, y.2) := rfl
  rw [e2]
 have inL : ∀ x ∈ es.toList, ∀ (k : Int) (s : ByteArray), x.key = .int .i64 k → x.val = .string s → rg Tryz.prog 3 (elemAt (fun _ => ()) Tryz.prog W 0 (fun _ => true) false n 9) x = (.int .i64 k, .lit (.string s.data.toList)) → H2 EN k = some s := by
  intro x hxm k s e1 e2 e3
  have hm : (Lit.int .i64 k, (DataW.lit (.string s.data.toList) : DataW Unit)) ∈ (es.toList.map (rg Tryz.prog 3 (elemAt (fun _ => ()) Tryz.prog W 0 (fun _ => true) false n 9))).foldr DataW.insert [] :=
   mem_sorted.2 (List.mem_map.2 ⟨x, hxm, e3⟩)
  rw [← hx] at hm
  simp only [List.mem_cons, List.not_mem_nil, or_false, Prod.mk.injEq, Lit.int.injEq, DataW.lit.injEq, Lit.string.injEq, true_and] at hm
  have es : ∀ l : List UInt8, s.data.toList = l → s = ⟨l.toArray⟩ := fun l e => by subst e; rfl
  rcases hm with ⟨rfl, e⟩ | ⟨rfl, e⟩ | ⟨rfl, e⟩ | ⟨rfl, e⟩ | ⟨rfl, e⟩ | ⟨rfl, e⟩ <;> (rw [es _ e]; rfl)
 refine ⟨b, t', fr, es, clk, hh, hb, ⟨fun x hxm => ?_, fun k s hks => ?_, s3⟩, ⟨s1, s2⟩⟩
 ·obtain ⟨k, s, e1, e2, e3⟩ := rep x hxm
  exact ⟨k, s, e1, by rw [e2]; exact rfl, inL x hxm k s e1 e2 e3⟩
 ·have hm := aft hks
  have hm2 : (Lit.int .i64 k, (DataW.lit (.string s.data.toList) : DataW Unit)) ∈ (es.toList.map (rg Tryz.prog 3 (elemAt (fun _ => ()) Tryz.prog W 0 (fun _ => true) false n 9))).foldr DataW.insert [] := by
   rw [← hx]
   unfold EN at hm
   simp only [List.mem_cons, List.not_mem_nil, or_false, Prod.mk.injEq] at hm
   rcases hm with ⟨rfl, rfl⟩ | ⟨rfl, rfl⟩ | ⟨rfl, rfl⟩ | ⟨rfl, rfl⟩ | ⟨rfl, rfl⟩ | ⟨rfl, rfl⟩ <;> simp
  obtain ⟨x, hxm, e3⟩ := List.mem_map.1 (mem_sorted.1 hm2)
  obtain ⟨k', s', f1, f2, f3⟩ := rep x hxm
  rw [f3] at e3
  simp only [Prod.mk.injEq, Lit.int.injEq, true_and] at e3
  exact ⟨x, hxm, by rw [f1, e3.1]⟩
theorem tabK {W : World} (h : laidMetH Tryz.prog afr W) (hs : W.ShapedOpen Tryz.prog) : TabK (IR W) := by
 rw [Go.MakeChecks.laidMetH_plain Tryz.prog afr W (by kernel_rfl)] at h
 have h2 := h
 obtain ⟨ps, hv, _, _⟩ := h2
 exact ⟨TabOf.start (table h) gTab fun _ => rfl, aml hs,
  aje hv (n := "strconv.ErrSyntax") (.tail _ (.tail _ (.tail _ (.tail _ (.tail _ (.head _)))))) gErrS tErrS,
  aje hv (n := "strconv.ErrRange") (.tail _ (.tail _ (.tail _ (.tail _ (.head _))))) gErrR tErrR, ake hv⟩
def ajw : List (DataW Unit) → List Value
 | .lit (.int k n) :: r => .int k n :: ajw r
 | _ => []
def alS : DataW Unit → Array Value
 | .agg l => (ajw l).toArray
 | _ => #[]
def anq (cs : Array Value) : Obj → Obj
 | .cells _ t frozen => .cells cs t frozen
 | o => o
noncomputable def laidWorld (os : Os) : World :=
 {World.doorLaid Tryz.prog 400 os with heap := (World.doorLaid Tryz.prog 400 os).heap.modify 5 (anq (alS Rows.laid_unicode_utf8_first)) }
end Go.Hx
