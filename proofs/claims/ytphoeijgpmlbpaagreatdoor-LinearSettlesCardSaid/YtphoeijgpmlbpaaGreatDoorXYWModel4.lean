
import Derived.Test.YtphoeijgpmlbpaaGreatDoorXYM
import Derived.Test.YtphoeijgpmlbpaaGreatDoorXYWDraw
set_option linter.unusedVariables false
set_option linter.unusedSimpArgs false
namespace Go.Hx
open Go Go.Proofs
set_option maxRecDepth 10000
set_option maxHeartbeats 1000000
theorem ma (p0 : Result) (f : Nat) (p1 : ad1) (a : SV) (g : Nat) (p2 : Op) (b c : SV) (h : Nat) (p3 : ad7) (d : SV) (e : ad7) (H : mq p0 p1 p2 p3 = some e) (K : Kp) (G : List Ent) (u : Slr fH K (sv a) p1) (w : Slr fW K (sv b) p2.cases) (x : Slr Ty.i64 K (sv c) p2.draws) (n : Slr fP K (sv d) p3) :
  Fc Tryz.prog 105 #[(.agg (ff p0).toArray), (Vp f), (Vp g), (Vp h)] K ((.blk f 57 [(sv a)]) :: (.blk g 51 (fj p2 b c)) :: (.blk h 62 [(sv d)]) :: (.tok 38 5 [(sv d)]) :: G) (fun v r p => ∃ (j : SV), v = (.tuple #[]) ∧ (.blk f 57 [(sv a)]) :: (.blk g 51 (fj p2 b c)) :: (.blk h 62 [(sv j)]) :: (.tok 38 5 [(sv j)]) :: G = p ∧ Slr fP r (sv j) e) := by
 refine fN Tryz.func105 Z Tryz.ntmps105 Tryz.results105 Z ?_
 unfold mq at H
 refine fc<|fa<|?_
 refine fe Z (fU (cs := (ff p0)) Z Z Z (fun I => ?_))
 refine fb<|fc<|fa<|El (sv a) Z (Rb1 Z)<|EL 7 (fj p2 b c) Z (Rb2 Z)<|EL 5 (ff p0) Z (Rb0 Z)<|?_
 obtain ⟨D, E, B, H⟩ := iw H
 refine fe Z (Ek Tryz.call61 Z (xK p1 a p2 b c p0 D E B _ _ u w x) ?_)
 rintro _ s _ k ⟨M, rfl, rfl, L⟩
 refine Em Z<|Ex Z<|Ex Z<|Ea Z<|Ea Z<|fb<|fc<|fa<|Em Z<|fb<|?_
 refine fm Z ?_ ?_
 ·intro i
  have H := ift i H
  refine fa<|El (sv d) Z (Rb3 Z)<|EL 5 (ff p0) Z (Rb0 Z)<|?_
  have m : RowR fP s [(ff p0)] [p0] := RowR.cons Z (RowR.nil)
  refine fe Z (gh (T := fP) (rows := [(ff p0)]) (l := [p0]) Z Z Z m Z Z Z Z Z Z Z Z (fun N => ?_))
  obtain ⟨O, C, H⟩ := bnd H
  have z := n.mono k
  refine fe Z (f8 (T := fP) (bytes := 40) (q := 0) Z Z Z z Mb5 Z (SrcT.row Mb0 m Z) C Z Z Z Z Z Z Z Z (fun o F J y => ⟨_, (.there (.there (.there (.there (.there .here))))), ?_⟩))
  refine Ow.shift (Re0 (Sd ?_))
  refine fe Z (Sa [(sv o)] Z (.there (.there (.there .here))) Z ?_)
  refine fb ?_
  obtain t := gq H
  subst e
  refine ⟨(by first|exact .inl rfl|exact .inr Z), [], Z, ?_⟩
  exact Pu4<|Pu4<|Pu4<|Pu4<|Re4<|Sd<|⟨o, Z, Z, y⟩
 ·intro i
  have H := f0 (btf i) H
  refine ft ?_
  obtain t := gq H
  subst e
  refine ⟨(by first|exact .inl rfl|exact .inr Z), [], Z, ?_⟩
  refine Pu4<|Pu4<|Pu4<|Pu4<|Re4<|?_
  have A := n.mono k
  exact Sd ⟨d, Z, Z, A⟩
theorem yG (p0 : ad1) (d : SV) (p1 : Op) (e f : SV) (n : ad7) (H : nZ p0 p1 = some n) (K : Kp) (G : List Ent) (L : Slr fH K (sv d) p0) (A : Slr fW K (sv e) p1.cases) (B : Slr Ty.i64 K (sv f) p1.draws) :
  Fc Tryz.prog 67 #[(sv d), (.agg (fj p1 e f).toArray)] K (G) (fun v j i => ∃ (U : SV), v = (sv U) ∧ (.tok 38 5 [(sv U)]) :: G = i ∧ Slr fP j (sv U) n) := by
 refine fN Tryz.func67 Z Tryz.ntmps67 Tryz.results67 Z ?_
 unfold nZ at H
 refine fc<|fa<|?_
 refine fe Z (fU (cs := [(sv d)]) Z Z Z (fun b => ?_))
 refine fe Z (fU (cs := (fj p1 e f)) Z Z Z (fun c => ?_))
 refine Ea Z<|fb<|fc<|fa<|?_
 refine fe Z (fD (cs := [(sv fB)]) Z Z Z Z (fun a => ?_))
 refine fb<|fc<|fa<|Eq Z (lF Z Z)<|Ea Z<|fb<|fc<|fc<|fa<|EF 0 Z<|El (Vi p1.kind) Z (Rb1 Z)<|Ec Z<|fb<|?_
 refine fm Z ?_ ?_
 ·intro u
  obtain ⟨u, H⟩ := It u H
  refine fc<|fa<|Em Z<|Eq Z (fG (cs := (ff (Result.mk 6 (-1) 0 false 0))) Z Z Z Z Z Z)<|?_
  obtain ⟨am, aN, H⟩ := bnd H
  refine Ow.shift (Shift.nilTok1 38 5 (Sd ?_))
  refine Ow.shift (Pu1 (Sd ?_))
  refine Ow.shift (Pu2 (Sd ?_))
  refine Ow.shift (Pu3 (Sd ?_))
  refine fe Z (Ek Tryz.call105 Z (ma (Result.mk 6 (-1) 0 false 0) b p0 d c p1 e f a ([] : ad7) fB am aN _ _ L A B (Slr.nil fP _)) ?_)
  rintro _ a1 _ E ⟨aV, rfl, rfl, ay⟩
  refine fb<|fc<|fa<|Em Z<|Eq Z (fG (cs := (ff (Result.mk 5 (-1) 0 false 0))) Z Z Z Z Z Z)<|?_
  obtain ⟨aZ, aO, H⟩ := bnd H
  refine Ow.shift (Pu3 (Sd ?_))
  refine Ow.shift (Pu3 (Sd ?_))
  refine Ow.shift (Pu3 (Sd ?_))
  refine Ow.shift (Pu3 (Sd ?_))
  have az := L.mono E
  have aA := A.mono E
  have aB := B.mono E
  refine fe Z (Ek Tryz.call105 Z (ma (Result.mk 5 (-1) 0 false 0) b p0 d c p1 e f a am aV aZ aO _ _ az aA aB ay) ?_)
  rintro _ a2 _ bb ⟨D, rfl, rfl, aC⟩
  refine fb<|fc<|fa<|El (sv D) Z (Rb2 Z)<|Ea Z<|fb<|fx<|?_
  obtain au := gq H
  subst n
  refine ⟨(.inl Z), [(sv D)], ⟨(sv D), _, Z, Z, Z⟩, ?_⟩
  exact Pu3<|Re1<|Re1<|Re1<|Sd<|⟨D, Z, Z, aC⟩
 ·intro u
  obtain ⟨u, H⟩ := If u H
  refine ft ?_
  refine fz (fun o j i => ∃ (l : SV) (Q : ad7), [(5, (Vp a))] = o ∧ (.blk a 62 [(sv l)]) :: (.tok 38 5 [(sv l)]) :: G = i ∧ vC Q = some n ∧ Slr fP j (sv l) Q) ?_ ?_
  ·refine fc<|fa<|EL 7 (fj p1 e f) Z (Rb1 Z)<|?_
   obtain ⟨q, aP, H⟩ := bnd H
   refine fe Z (Ek Tryz.call97 Z (qy p1 e f q aP _ _ A B) ?_)
   rintro _ a3 _ F ⟨R, rfl, rfl, Y⟩
   refine Eq Z (ge (T := fW) Y Z Z)<|Em Z<|fb<|fA<|?_
   refine fY (fun ak o j i => ∃ (h : Int) (m : SV) (s : ad7), [(2, (Vp b)), (3, (Vp c)), (5, (Vp a)), (6, (.func (.func 105) #[] #[(Vp b), (Vp c), (Vp a)])), (23, (sv R)), (24, (Vi (q.length : Int))), (25, (Vi h))] = o ∧ (.blk a 62 [(sv m)]) :: (.blk c 51 (fj p1 e f)) :: (.blk b 57 [(sv d)]) :: (.tok 38 5 [(sv m)]) :: G = i ∧ lp2 (ra q p1 p0) ak h s = some n ∧ Slr fP j (sv m) s) BIG ?_ ?_
   ·exact Shift.nilTok1 38 5<|Pu3<|Pu3<|Pu3<|Sd<|⟨_, by exact R7, 0, fB, ([] : ad7), Z, Z, H, (Slr.nil fP _)⟩
   rintro ak _ ar _ z ⟨h, m, s, rfl, rfl, H, aa⟩
   obtain ⟨bf, aj, rfl, ax, H⟩ := jC H
   unfold ra at H
   refine fc<|fa<|Ec Z<|fb<|fc<|?_
   refine fm Z ?_ ?_
   ·intro w
    obtain ⟨w, H⟩ := It w H
    refine ft<|fc<|fA<|fc<|fa<|Em Z<|?_
    obtain ⟨t, ah, H⟩ := bnd H
    have ab := Y.mono z
    obtain ⟨_, rfl, av⟩ := Slr.at ab ah
    refine Eq Z (Qi (T := fW) ab ah Z)<|EL 3 (fl t) Z (Rdc.k av Z)<|?_
    refine fe Z (fD (cs := (fl (Case.mk false 0 0))) Z Z Z Z (fun X => ?_))
    refine Ea Z ?_
    refine fe Z (Sa (fl t) Z .here Z ?_)
    refine fb ?_
    refine fz (fun o j i => ∃ (g : Int), [(2, (Vp b)), (3, (Vp c)), (5, (Vp a)), (6, (.func (.func 105) #[] #[(Vp b), (Vp c), (Vp a)])), (7, (Vi g)), (8, (Vp X)), (23, (sv R)), (24, (Vi (q.length : Int))), (25, (Vi h))] = o ∧ ar = j ∧ (.blk X 108 (fl t)) :: (.blk a 62 [(sv m)]) :: (.blk c 51 (fj p1 e f)) :: (.blk b 57 [(sv d)]) :: (.tok 38 5 [(sv m)]) :: G = i ∧ nY q h t s p1 p0 aj g = some n) ?_ ?_
    ·refine fc<|fa<|EF 0 Z<|El (Vi p1.kind) Z (Rb2 Z)<|Ec Z<|fb<|?_
     refine fm Z ?_ ?_
     ·intro p
      have p := kT (iv (p))
      have H := f0 p H
      exact fa<|Ea Z<|fb<|Pu4<|Pu4<|Pu4<|Pu4<|Pu4<|Sd<|⟨_, by exact R9, (-1), Z, Z, Z, H⟩
     ·intro p
      have p := kU (ir (p))
      have H := ift p H
      exact ft<|Pu4<|Pu4<|Pu4<|Pu4<|Pu4<|Sd<|⟨_, by exact R9, h, Z, Z, Z, H⟩
    rintro _ _ _ - ⟨g, rfl, rfl, rfl, H⟩
    unfold nY at H
    refine fc<|fa<|Em Z<|Em Z<|Eq Z (fG (cs := (ff (Result.mk 5 g 0 false 0))) Z Z Z Z Z Z)<|?_
    obtain ⟨an, aQ, H⟩ := bnd H
    refine Ow.shift (Pu4 (Sd ?_))
    refine Ow.shift (Pu2 (Sd ?_))
    refine Ow.shift (Pu3 (Sd ?_))
    refine Ow.shift (Pu4 (Sd ?_))
    have ac := (L.mono F).mono z
    have ad := (A.mono F).mono z
    have ae := (B.mono F).mono z
    refine fe Z (Ek Tryz.call105 Z (ma (Result.mk 5 g 0 false 0) b p0 d c p1 e f a s m an aQ _ _ ac ad ae aa) ?_)
    rintro _ a4 _ I ⟨aW, rfl, rfl, aE⟩
    refine fb<|fc<|fa<|Em Z<|Em Z<|Eq Z (fG (cs := (ff (Result.mk 1 g 0 false 0))) Z Z Z Z Z Z)<|?_
    obtain ⟨V, aR, H⟩ := bnd H
    refine Ow.shift (Pu3 (Sd ?_))
    refine Ow.shift (Pu3 (Sd ?_))
    refine Ow.shift (Pu3 (Sd ?_))
    refine Ow.shift (Pu3 (Sd ?_))
    have M := ac.mono I
    have N := ad.mono I
    have O := ae.mono I
    refine fe Z (Ek Tryz.call105 Z (ma (Result.mk 1 g 0 false 0) b p0 d c p1 e f a an aW V aR _ _ M N O aE) ?_)
    rintro _ a5 _ r ⟨al, rfl, rfl, af⟩
    refine fb ?_
    refine fz (fun o j i => ∃ (y : SV) (C : ad7), [(2, (Vp b)), (3, (Vp c)), (5, (Vp a)), (6, (.func (.func 105) #[] #[(Vp b), (Vp c), (Vp a)])), (7, (Vi g)), (23, (sv R)), (24, (Vi (q.length : Int))), (25, (Vi h))] = o ∧ (.blk a 62 [(sv y)]) :: (.blk c 51 (fj p1 e f)) :: (.blk b 57 [(sv d)]) :: (.tok 38 5 [(sv y)]) :: G = i ∧ q9 g q h p1 p0 aj C = some n ∧ Slr fP j (sv y) C) ?_ ?_
    ·refine fc<|fa<|El (sv d) Z (Rb0 Z)<|EF 1 Z<|El (Vi t.channel) Z (Rb4 Z)<|?_
     obtain ⟨ao, a0, aS, H⟩ := iw H
     have ag := M.mono r
     refine fe Z (Ek Tryz.call92 Z (l9 p0 d t.channel ao a0 aS _ _ ag) ?_)
     rintro _ _ _ - ⟨S, rfl, rfl, rfl, P⟩
     refine Em Z<|Ex Z<|Ex Z<|?_
     refine fe Z (fD (cs := (fy (fL.mk 0 [] false) fB)) Z Z Z Z (fun ba => ?_))
     refine fe Z (Sa (fy ao S) Z .here Z ?_)
     refine Ea Z<|fb<|fc<|fa<|EF 1 Z<|El (sv S) Z (Rb0 Z)<|Eq Z (ge (T := Ty.u64) P Z Z)<|Ec Z<|fb<|?_
     refine fm Z ?_ ?_
     ·intro x
      obtain ⟨x, H⟩ := It x H
      refine fa<|Em Z<|Em Z<|EF 1 Z<|El (sv S) Z (Rb0 Z)<|?_
      obtain ⟨W, ai, H⟩ := bnd H
      obtain ⟨_, rfl, aw⟩ := Slr.at P ai
      refine Eq Z (Qi (T := Ty.u64) P ai Z)<|El (.int .u64 W) Z (Rdc.k aw Z)<|Eq Z (fG (cs := (ff (Result.mk 2 g W true 0))) Z Z Z Z Z Z)<|?_
      obtain ⟨ap, aT, H⟩ := bnd H
      refine Ow.shift (Pu4 (Sd ?_))
      refine Ow.shift (Pu4 (Sd ?_))
      refine Ow.shift (Pu4 (Sd ?_))
      refine Ow.shift (Pu4 (Sd ?_))
      have aG := N.mono r
      have aH := O.mono r
      refine fe Z (Ek Tryz.call105 Z (ma (Result.mk 2 g W true 0) b p0 d c p1 e f a V al ap aT _ _ ag aG aH af) ?_)
      rintro _ a6 _ bc ⟨aX, rfl, rfl, aI⟩
      exact fb<|Pu3<|Pu1<|Pu2<|Pu3<|Re4<|Re4<|Sd<|⟨_, by exact R8, aX, ap, Z, Z, H, aI⟩
     ·intro x
      obtain ⟨x, H⟩ := If x H
      exact ft<|Pu4<|Pu2<|Pu3<|Pu4<|Re4<|Re4<|Sd<|⟨_, by exact R8, al, V, Z, Z, H, af⟩
    rintro _ a7 _ J ⟨y, C, rfl, rfl, H, aF⟩
    unfold q9 at H
    refine fa<|Em Z<|Em Z<|Eq Z (fG (cs := (ff (Result.mk 2 g 0 false 0))) Z Z Z Z Z Z)<|?_
    obtain ⟨aq, aU, H⟩ := bnd H
    refine Ow.shift (Pu3 (Sd ?_))
    refine Ow.shift (Pu1 (Sd ?_))
    refine Ow.shift (Pu2 (Sd ?_))
    refine Ow.shift (Pu3 (Sd ?_))
    have aJ := (M.mono r).mono J
    have aK := (N.mono r).mono J
    have aL := (O.mono r).mono J
    refine fe Z (Ek Tryz.call105 Z (ma (Result.mk 2 g 0 false 0) b p0 d c p1 e f a C y aq aU _ _ aJ aK aL aF) ?_)
    rintro _ a8 _ bd ⟨aY, rfl, rfl, aM⟩
    exact fb<|fa<|Er (wI (h + 1)) Z<|Em Z<|fb<|Pu3<|Pu1<|Pu2<|Pu3<|Sd<|⟨_, by exact R7, _, Nat.lt_succ_self _, (wI (h + 1)), aY, aq, Z, Z, (ax ▸ H), aM⟩
   ·intro w
    obtain ⟨w, H⟩ := If w H
    exact f5<|Pu3<|Pu1<|Re2<|Re2<|Sd<|⟨_, by exact R1, m, s, Z, Z, H, aa⟩
  rintro _ a9 _ be ⟨l, Q, rfl, rfl, H, aD⟩
  unfold vC at H
  refine fc<|fa<|El (sv l) Z (Rb0 Z)<|Ea Z<|fb<|fx<|?_
  obtain au := gq H
  subst n
  refine ⟨(.inl Z), [(sv l)], ⟨(sv l), _, Z, Z, Z⟩, ?_⟩
  exact Pu1<|Re1<|Sd<|⟨l, Z, Z, aD⟩
theorem yK (p0 : ad1) (u : SV) (p1 : Op) (h i : SV) (p2 : Result) (p3 : Op) (j k : SV) (p4 : Result) (n : Bool) (H : od p0 p1 p2 p3 p4 = some n) (K : Kp) (G : List Ent) (y : Slr fH K (sv u) p0) (z : Slr fW K (sv h) p1.cases) (A : Slr Ty.i64 K (sv i) p1.draws) (B : Slr fW K (sv j) p3.cases) (C : Slr Ty.i64 K (sv k) p3.draws) :
  Fc Tryz.prog 120 #[(sv u), (.agg (fj p1 h i).toArray), (.agg (ff p2).toArray), (.agg (fj p3 j k).toArray), (.agg (ff p4).toArray)] K (G) (fun v p o => v = (.bool n) ∧ K = p ∧ G = o) := by
 refine fN Tryz.func120 Z Tryz.ntmps120 Tryz.results120 Z ?_
 unfold od at H
 refine fc<|fa<|?_
 refine fe Z (fU (cs := (fj p1 h i)) Z Z Z (fun N => ?_))
 refine fe Z (fU (cs := (ff p2)) Z Z Z (fun O => ?_))
 refine fe Z (fU (cs := (fj p3 j k)) Z Z Z (fun P => ?_))
 refine fe Z (fU (cs := (ff p4)) Z Z Z (fun Q => ?_))
 refine Ea Z<|fb<|fc<|fa<|EL 7 (fj p1 h i) Z (Rb3 Z)<|EF 1 Z<|El (Vi p2.case_) Z (Rb2 Z)<|?_
 obtain ⟨a, J, D, H⟩ := iw H
 refine fe Z (Ek Tryz.call91 Z (xJ p1 h i p2.case_ a J D _ _ z A) ?_)
 rintro _ _ _ - ⟨rfl, rfl, rfl⟩
 refine Em Z<|Ex Z<|Ex Z<|?_
 refine fe Z (fD (cs := (fl (Case.mk false 0 0))) Z Z Z Z (fun R => ?_))
 refine fe Z (Sa (fl a) Z .here Z ?_)
 refine Ea Z<|fb<|fc<|fa<|EL 7 (fj p3 j k) Z (Rb2 Z)<|EF 1 Z<|El (Vi p4.case_) Z (Rb1 Z)<|?_
 obtain ⟨l, L, E, H⟩ := iw H
 refine fe Z (Ek Tryz.call91 Z (xJ p3 j k p4.case_ l L E _ _ B C) ?_)
 rintro _ _ _ - ⟨rfl, rfl, rfl⟩
 refine Em Z<|Ex Z<|Ex Z<|?_
 refine fe Z (fD (cs := (fl (Case.mk false 0 0))) Z Z Z Z (fun S => ?_))
 refine fe Z (Sa (fl l) Z .here Z ?_)
 refine Ea Z<|fb<|fc<|fa<|Em Z<|EF 1 Z<|El (Vi a.channel) Z (Rb1 Z)<|?_
 obtain ⟨m, M, F, H⟩ := iw H
 refine fe Z (Ek Tryz.call92 Z (l9 p0 u a.channel m M F _ _ y) ?_)
 rintro _ _ _ - ⟨I, rfl, rfl, rfl, V⟩
 refine Em Z<|Ex Z<|Ex Z<|?_
 refine fe Z (fD (cs := (fy (fL.mk 0 [] false) fB)) Z Z Z Z (fun T => ?_))
 refine fe Z (Sa (fy m I) Z .here Z ?_)
 refine Ea Z<|fb<|?_
 refine fz (fun x p o => ∃ (g : Bool), [(10, (.bool g))] = x ∧ K = p ∧ G = o ∧ pg g = some n) ?_ ?_
 ·refine fa<|Em Z<|Em Z<|?_
  refine Ee Z ?_ ?_
  ·intro q
   have H := ift q H
   refine Vm Z<|Et Z<|Em Z<|?_
   refine Ee Z ?_ ?_
   ·intro r
    have H := ift r H
    refine VF 0 Z<|Vl (.bool a.send) Z (Rb2 Z)<|Et Z<|Em Z<|?_
    refine Ee Z ?_ ?_
    ·intro s
     have H := ift s H
     refine VF 0 Z<|Vl (.bool l.send) Z (Rb1 Z)<|Vq Z (gf Z)<|Et Z<|Em Z<|?_
     refine Ee Z ?_ ?_
     ·intro b
      have b := iv b
      have H := f0 (btf b) H
      refine VF 1 Z<|Vl (Vi a.channel) Z (Rb2 Z)<|VF 1 Z<|Vl (Vi l.channel) Z (Rb1 Z)<|Vc Z<|Et Z<|Em Z<|?_
      refine Ee Z ?_ ?_
      ·intro d
       obtain ⟨d, H⟩ := It d H
       refine Vm Z<|Et Z<|Em Z<|?_
       refine Ee Z ?_ ?_
       ·intro t
        have H := ift t H
        refine VF 2 Z<|Vl (.bool m.closed) Z (Rb0 Z)<|Vq Z (gf Z)<|Et Z<|Em Z<|?_
        refine Ee Z ?_ ?_
        ·intro c
         have c := iv c
         have H := f0 (btf c) H
         refine VF 0 Z<|Vl (Vi m.capacity) Z (Rb0 Z)<|Vc Z<|Et Z<|Em Z<|?_
         refine Ee Z ?_ ?_
         ·intro e
          obtain ⟨e, H⟩ := It e H
          refine VL 5 (ff p2) Z (Rb5 Z)<|VF 1 Z<|Vl (Vi p2.case_) Z (Rb5 Z)<|Vq Z (fG (cs := (ff (Result.mk 1 p2.case_ 0 false 0))) Z Z Z Z Z Z)<|Vq Z (jx Z Z (fun w => Result.eqrun p2 (Result.mk 1 p2.case_ 0 false 0) w) (by kernel_rfl))<|Et Z<|Em Z<|?_
          refine Ee Z ?_ ?_
          ·intro f
           obtain ⟨f, H⟩ := It f H
           exact VL 5 (ff p4) Z (Rb3 Z)<|VF 1 Z<|Vl (Vi p4.case_) Z (Rb3 Z)<|VF 2 Z<|Vl (.int .u64 a.value) Z (Rb2 Z)<|Vq Z (fG (cs := (ff (Result.mk 2 p4.case_ a.value true 0))) Z Z Z Z Z Z)<|Vq Z (jx Z Z (fun w => Result.eqrun p4 (Result.mk 2 p4.case_ a.value true 0) w) (by kernel_rfl))<|Et Z<|Ea Z<|fb<|Re0<|Re0<|Re0<|Re0<|Re0<|Re0<|Re0<|Sd<|⟨_, by exact R1, (dcd (p4 = (Result.mk 2 p4.case_ a.value true 0))), Z, Z, Z, H⟩
          ·intro f
           obtain ⟨f, H⟩ := If f H
           exact Ez Z<|Ez Z<|Ez Z<|Ez Z<|Ez Z<|Ez Z<|Ez Z<|Ef Z<|Ea Z<|fb<|Re0<|Re0<|Re0<|Re0<|Re0<|Re0<|Re0<|Sd<|⟨_, by exact R1, false, Z, Z, Z, H⟩
         ·intro e
          obtain ⟨e, H⟩ := If e H
          refine Ez Z<|Ez Z<|Ez Z<|Ez Z<|Ez Z<|Ef Z<|Em Z<|Ez Z<|Ez Z<|Ez Z<|Ez Z<|Ez Z<|Ez Z<|Ez Z<|Ef Z<|Ea Z<|fb<|Re0<|Re0<|Re0<|Re0<|Re0<|?_
          exact Re0<|Re0<|Sd<|⟨_, by exact R1, false, Z, Z, Z, H⟩
        ·intro c
         have c := ir c
         have H := ift c H
         refine Ez Z<|Ez Z<|Ez Z<|Ef Z<|Em Z<|Ez Z<|Ez Z<|Ez Z<|Ez Z<|Ez Z<|Ef Z<|Em Z<|Ez Z<|Ez Z<|Ez Z<|Ez Z<|Ez Z<|Ez Z<|Ez Z<|Ef Z<|Ea Z<|fb<|?_
         exact Re0<|Re0<|Re0<|Re0<|Re0<|Re0<|Re0<|Sd<|⟨_, by exact R1, false, Z, Z, Z, H⟩
       ·intro t
        have H := f0 (btf t) H
        refine Ez Z<|Ez Z<|Ez Z<|Ef Z<|Em Z<|Ez Z<|Ez Z<|Ez Z<|Ef Z<|Em Z<|Ez Z<|Ez Z<|Ez Z<|Ez Z<|Ez Z<|Ef Z<|Em Z<|Ez Z<|Ez Z<|Ez Z<|Ez Z<|Ez Z<|?_
        exact Ez Z<|Ez Z<|Ef Z<|Ea Z<|fb<|Re0<|Re0<|Re0<|Re0<|Re0<|Re0<|Re0<|Sd<|⟨_, by exact R1, false, Z, Z, Z, H⟩
      ·intro d
       obtain ⟨d, H⟩ := If d H
       refine Ez Z<|Ef Z<|Em Z<|Ez Z<|Ez Z<|Ez Z<|Ef Z<|Em Z<|Ez Z<|Ez Z<|Ez Z<|Ef Z<|Em Z<|Ez Z<|Ez Z<|Ez Z<|Ez Z<|Ez Z<|Ef Z<|Em Z<|Ez Z<|Ez Z<|?_
       exact Ez Z<|Ez Z<|Ez Z<|Ez Z<|Ez Z<|Ef Z<|Ea Z<|fb<|Re0<|Re0<|Re0<|Re0<|Re0<|Re0<|Re0<|Sd<|⟨_, by exact R1, false, Z, Z, Z, H⟩
     ·intro b
      have b := ir b
      have H := ift b H
      refine Ez Z<|Ez Z<|Ez Z<|Ez Z<|Ez Z<|Ef Z<|Em Z<|Ez Z<|Ef Z<|Em Z<|Ez Z<|Ez Z<|Ez Z<|Ef Z<|Em Z<|Ez Z<|Ez Z<|Ez Z<|Ef Z<|Em Z<|Ez Z<|Ez Z<|?_
      exact Ez Z<|Ez Z<|Ez Z<|Ef Z<|Em Z<|Ez Z<|Ez Z<|Ez Z<|Ez Z<|Ez Z<|Ez Z<|Ez Z<|Ef Z<|Ea Z<|fb<|Re0<|Re0<|Re0<|Re0<|Re0<|Re0<|Re0<|Sd ⟨_, by exact R1, false, Z, Z, Z, H⟩
    ·intro s
     have H := f0 (btf s) H
     refine Ez Z<|Ez Z<|Ez Z<|Ef Z<|Em Z<|Ez Z<|Ez Z<|Ez Z<|Ez Z<|Ez Z<|Ef Z<|Em Z<|Ez Z<|Ef Z<|Em Z<|Ez Z<|Ez Z<|Ez Z<|Ef Z<|Em Z<|Ez Z<|Ez Z<|?_
     refine Ez Z<|Ef Z<|Em Z<|Ez Z<|Ez Z<|Ez Z<|Ez Z<|Ez Z<|Ef Z<|Em Z<|Ez Z<|Ez Z<|Ez Z<|Ez Z<|Ez Z<|Ez Z<|Ez Z<|Ef Z<|Ea Z<|fb<|Re0<|Re0<|?_
     exact Re0<|Re0<|Re0<|Re0<|Re0<|Sd<|⟨_, by exact R1, false, Z, Z, Z, H⟩
   ·intro r
    have H := f0 (btf r) H
    refine Ez Z<|Ez Z<|Ef Z<|Em Z<|Ez Z<|Ez Z<|Ez Z<|Ef Z<|Em Z<|Ez Z<|Ez Z<|Ez Z<|Ez Z<|Ez Z<|Ef Z<|Em Z<|Ez Z<|Ef Z<|Em Z<|Ez Z<|Ez Z<|Ez Z<|?_
    refine Ef Z<|Em Z<|Ez Z<|Ez Z<|Ez Z<|Ef Z<|Em Z<|Ez Z<|Ez Z<|Ez Z<|Ez Z<|Ez Z<|Ef Z<|Em Z<|Ez Z<|Ez Z<|Ez Z<|Ez Z<|Ez Z<|Ez Z<|Ez Z<|Ef Z<|?_
    exact Ea Z<|fb<|Re0<|Re0<|Re0<|Re0<|Re0<|Re0<|Re0<|Sd<|⟨_, by exact R1, false, Z, Z, Z, H⟩
  ·intro q
   have H := f0 (btf q) H
   refine Ez Z<|Ef Z<|Em Z<|Ez Z<|Ez Z<|Ef Z<|Em Z<|Ez Z<|Ez Z<|Ez Z<|Ef Z<|Em Z<|Ez Z<|Ez Z<|Ez Z<|Ez Z<|Ez Z<|Ef Z<|Em Z<|Ez Z<|Ef Z<|Em Z<|?_
   refine Ez Z<|Ez Z<|Ez Z<|Ef Z<|Em Z<|Ez Z<|Ez Z<|Ez Z<|Ef Z<|Em Z<|Ez Z<|Ez Z<|Ez Z<|Ez Z<|Ez Z<|Ef Z<|Em Z<|Ez Z<|Ez Z<|Ez Z<|Ez Z<|Ez Z<|?_
   exact Ez Z<|Ez Z<|Ef Z<|Ea Z<|fb<|Re0<|Re0<|Re0<|Re0<|Re0<|Re0<|Re0<|Sd<|⟨_, by exact R1, false, Z, Z, Z, H⟩
 rintro _ _ _ - ⟨g, rfl, rfl, rfl, H⟩
 unfold pg at H
 refine fx ?_
 obtain U := gq H
 subst n
 refine ⟨(.inl Z), [(.bool g)], ⟨(.bool g), _, Z, Z, Z⟩, ?_⟩
 exact Sd ⟨Z, Z, Z⟩
theorem DJ (p0 : ad1) (e : SV) (p1 : Op) (a b : SV) (p2 : Result) (p3 : Op) (c d : SV) (p4 : Result) (f : Bool) (H : rf p0 p1 p2 p3 p4 = some f) (K : Kp) (G : List Ent) (i : Slr fH K (sv e) p0) (j : Slr fW K (sv a) p1.cases) (k : Slr Ty.i64 K (sv b) p1.draws) (l : Slr fW K (sv c) p3.cases) (m : Slr Ty.i64 K (sv d) p3.draws) :
  Fc Tryz.prog 103 #[(sv e), (.agg (fj p1 a b).toArray), (.agg (ff p2).toArray), (.agg (fj p3 c d).toArray), (.agg (ff p4).toArray)] K (G) (fun v o n => v = (.bool f) ∧ K = o ∧ G = n) := by
 refine fN Tryz.func103 Z Tryz.ntmps103 Tryz.results103 Z ?_
 unfold rf at H
 refine fc<|fa<|?_
 refine fe Z (fU (cs := (fj p1 a b)) Z Z Z (fun s => ?_))
 refine fe Z (fU (cs := (ff p2)) Z Z Z (fun t => ?_))
 refine fe Z (fU (cs := (fj p3 c d)) Z Z Z (fun u => ?_))
 refine fe Z (fU (cs := (ff p4)) Z Z Z (fun w => ?_))
 refine Ea Z<|fb<|fc<|fa<|Em Z<|EL 7 (fj p1 a b) Z (Rb3 Z)<|EL 5 (ff p2) Z (Rb2 Z)<|EL 7 (fj p3 c d) Z (Rb1 Z)<|EL 5 (ff p4) Z (Rb0 Z)<|?_
 obtain ⟨x19, q, H⟩ := bnd H
 refine fe Z (Ek Tryz.call120 Z (yK p0 e p1 a b p2 p3 c d p4 x19 q _ _ i j k l m) ?_)
 rintro _ _ _ - ⟨rfl, rfl, rfl⟩
 refine Em Z ?_
 refine Ee Z ?_ ?_
 ·intro g
  have H := ift g H
  refine Ez Z<|Ez Z<|Ez Z<|Ez Z<|Ez Z<|Ez Z<|Et Z<|Ea Z<|fb<|fx<|?_
  obtain p := gq H
  subst f
  refine ⟨(.inl Z), [(.bool true)], ⟨(.bool true), _, Z, Z, Z⟩, ?_⟩
  exact Re0<|Re0<|Re0<|Re0<|Sd<|⟨Z, Z, Z⟩
 ·intro g
  have H := f0 (btf g) H
  refine Vm Z<|VL 7 (fj p3 c d) Z (Rb1 Z)<|VL 5 (ff p4) Z (Rb0 Z)<|VL 7 (fj p1 a b) Z (Rb3 Z)<|VL 5 (ff p2) Z (Rb2 Z)<|?_
  obtain ⟨h, r, H⟩ := bnd H
  refine hQ Z Z Z Z (Ek Tryz.call120 Z (yK p0 e p3 c d p4 p1 a b p2 h r _ _ i l m j k) ?_)
  rintro _ _ _ - ⟨rfl, rfl, rfl⟩
  refine Ef Z<|Ea Z<|fb<|fx<|?_
  obtain p := gq H
  subst f
  refine ⟨(.inl Z), [(.bool h)], ⟨(.bool h), _, Z, Z, Z⟩, ?_⟩
  exact Re0<|Re0<|Re0<|Re0<|Sd<|⟨Z, Z, Z⟩
theorem DW (p0 : ad1) (o : SV) (p1 : Op) (s t : SV) (p2 : Op) (e f : SV) (h : Bool) (H : rR p0 p1 p2 = some h) (K : Kp) (G : List Ent) (aa : Slr fH K (sv o) p0) (ab : Slr fW K (sv s) p1.cases) (ac : Slr Ty.i64 K (sv t) p1.draws) (ad : Slr fW K (sv e) p2.cases) (ae : Slr Ty.i64 K (sv f) p2.draws) :
  Fc Tryz.prog 68 #[(sv o), (.agg (fj p1 s t).toArray), (.agg (fj p2 e f).toArray)] K (G) (fun v j a => v = (.bool h) ∧ G = a) := by
 refine fN Tryz.func68 Z Tryz.ntmps68 Tryz.results68 Z ?_
 unfold rR at H
 refine fc<|fa<|?_
 refine fe Z (fU (cs := (fj p1 s t)) Z Z Z (fun au => ?_))
 refine fe Z (fU (cs := (fj p2 e f)) Z Z Z (fun i => ?_))
 refine Ea Z<|fb<|?_
 refine fz (fun d j a => [] = d ∧ G = a ∧ wa = some h) ?_ ?_
 ·refine fc<|fa<|EL 7 (fj p1 s t) Z (Rb1 Z)<|?_
  obtain ⟨g, ai, H⟩ := bnd H
  refine fe Z (Ek Tryz.call97 Z (qy p1 s t g ai _ _ ab ac) ?_)
  rintro _ ao _ D ⟨z, rfl, rfl, L⟩
  refine Eq Z (ge (T := fW) L Z Z)<|Em Z<|fb<|fA<|?_
  refine fY (fun P d j a => ∃ (b : Int), [(0, (sv o)), (5, (Vp i)), (14, (sv z)), (15, (Vi (g.length : Int))), (16, (Vi b))] = d ∧ (.blk i 51 (fj p2 e f)) :: G = a ∧ lp1 (wd p0 g p2) P b = some h) BIG ?_ ?_
  ·exact Re1<|Sd<|⟨_, by exact R5, 0, Z, Z, H⟩
  rintro P _ ap _ y ⟨b, rfl, rfl, H⟩
  obtain ⟨aA, F, rfl, X, H⟩ := lr H
  unfold wd at H
  refine fc<|fa<|Ec Z<|fb<|fc<|?_
  refine fm Z ?_ ?_
  ·intro p
   obtain ⟨p, H⟩ := It p H
   refine ft ?_
   refine fz (fun d j a => [(0, (sv o)), (5, (Vp i)), (14, (sv z)), (15, (Vi (g.length : Int))), (16, (Vi b))] = d ∧ (.blk i 51 (fj p2 e f)) :: G = a ∧ wb p0 g b p2 F = some h) ?_ ?_
   ·refine fA<|fc<|fa<|?_
    obtain ⟨c, N, H⟩ := bnd H
    have M := L.mono y
    obtain ⟨_, rfl, V⟩ := Slr.at M N
    refine Eq Z (Qi (T := fW) M N Z)<|EL 3 (fl c) Z (Rdc.k V Z)<|?_
    refine fe Z (fD (cs := (fl (Case.mk false 0 0))) Z Z Z Z (fun x => ?_))
    refine fe Z (Sa (fl c) Z .here Z ?_)
    refine fb<|fc<|fa<|EL 7 (fj p2 e f) Z (Rb1 Z)<|?_
    obtain ⟨u, aj, H⟩ := bnd H
    have af := (ad.mono D).mono y
    have ag := (ae.mono D).mono y
    refine fe Z (Ek Tryz.call97 Z (qy p2 e f u aj _ _ af ag) ?_)
    rintro _ J _ U ⟨R, rfl, rfl, E⟩
    refine Eq Z (ge (T := fW) E Z Z)<|Em Z<|fb<|fA<|?_
    refine fY (fun Q d j a => ∃ (n : Int), [(0, (sv o)), (5, (Vp i)), (8, (Vp x)), (14, (sv z)), (15, (Vi (g.length : Int))), (16, (Vi b)), (21, (sv R)), (22, (Vi (u.length : Int))), (23, (Vi n))] = d ∧ J = j ∧ (.blk x 108 (fl c)) :: (.blk i 51 (fj p2 e f)) :: G = a ∧ lp1 (wc p0 g b u c p2 F) Q n = some h) BIG ?_ ?_
    ·exact Pu1<|Pu1<|Sd<|⟨_, by exact R9, 0, Z, Z, Z, H⟩
    rintro Q _ _ _ - ⟨n, rfl, rfl, rfl, H⟩
    obtain ⟨aB, al, rfl, Y, H⟩ := lr H
    unfold wc at H
    refine fc<|fa<|Ec Z<|fb<|fc<|?_
    refine fm Z ?_ ?_
    ·intro q
     obtain ⟨q, H⟩ := It q H
     refine ft<|fc<|fA<|fc<|fa<|?_
     obtain ⟨A, O, H⟩ := bnd H
     obtain ⟨_, rfl, W⟩ := Slr.at E O
     refine Eq Z (Qi (T := fW) E O Z)<|EL 3 (fl A) Z (Rdc.k W Z)<|?_
     refine fe Z (fD (cs := (fl (Case.mk false 0 0))) Z Z Z Z (fun av => ?_))
     refine fe Z (Sa (fl A) Z .here Z ?_)
     refine fb<|fc<|fa<|Em Z<|EF 1 Z<|El (Vi c.channel) Z (Rb1 Z)<|?_
     obtain ⟨w, an, ak, H⟩ := iw H
     have ah := ((aa.mono D).mono y).mono U
     refine fe Z (Ek Tryz.call92 Z (l9 p0 o c.channel w an ak _ _ ah) ?_)
     rintro _ _ _ - ⟨am, rfl, rfl, rfl, az⟩
     refine Em Z<|Ex Z<|Ex Z<|?_
     refine fe Z (fD (cs := (fy (fL.mk 0 [] false) fB)) Z Z Z Z (fun aw => ?_))
     refine fe Z (Sa (fy w am) Z .here Z ?_)
     refine Ea Z<|fb<|?_
     refine fz (fun d j a => ∃ (I : Bool), [(0, (sv o)), (5, (Vp i)), (8, (Vp x)), (14, (sv z)), (15, (Vi (g.length : Int))), (16, (Vi b)), (21, (sv R)), (22, (Vi (u.length : Int))), (23, (Vi n)), (58, (.bool I))] = d ∧ J = j ∧ (.blk x 108 (fl c)) :: (.blk i 51 (fj p2 e f)) :: G = a ∧ m7 p0 g b u n c p2 F al I = some h) ?_ ?_
     ·refine fa<|Em Z<|Em Z<|?_
      refine Ee Z ?_ ?_
      ·intro B
       have H := ift B H
       refine VF 1 Z<|Vl (Vi c.channel) Z (Rb2 Z)<|VF 1 Z<|Vl (Vi A.channel) Z (Rb1 Z)<|Vc Z<|Et Z<|Em Z<|?_
       refine Ee Z ?_ ?_
       ·intro r
        obtain ⟨r, H⟩ := It r H
        refine VF 0 Z<|Vl (.bool c.send) Z (Rb2 Z)<|VF 0 Z<|Vl (.bool A.send) Z (Rb1 Z)<|Vq Z (Dn Z Z Z)<|Et Z<|Em Z<|?_
        refine Ee Z ?_ ?_
        ·intro l
         have l := iv l
         have H := f0 (btf l) H
         refine VF 2 Z<|Vl (.bool w.closed) Z (Rb0 Z)<|Vq Z (gf Z)<|Et Z<|Em Z<|?_
         refine Ee Z ?_ ?_
         ·intro m
          have m := iv m
          have H := f0 (btf m) H
          exact VF 0 Z<|Vl (Vi w.capacity) Z (Rb0 Z)<|Vc Z<|Et Z<|fb<|Pu3<|Pu3<|Re2<|Re2<|Sd<|⟨_, by exact R10, (dcd (w.capacity ≤ 0)), Z, Z, Z, H⟩
         ·intro m
          have m := ir m
          have H := ift m H
          exact Ez Z<|Ez Z<|Ez Z<|Ef Z<|fb<|Pu3<|Pu3<|Re2<|Re2<|Sd<|⟨_, by exact R10, false, Z, Z, Z, H⟩
        ·intro l
         have l := ir l
         have H := ift l H
         exact Ez Z<|Ez Z<|Ez Z<|Ef Z<|Em Z<|Ez Z<|Ez Z<|Ez Z<|Ef Z<|fb<|Pu3<|Pu3<|Re2<|Re2<|Sd<|⟨_, by exact R10, false, Z, Z, Z, H⟩
       ·intro r
        obtain ⟨r, H⟩ := If r H
        exact Ez Z<|Ez Z<|Ez Z<|Ez Z<|Ez Z<|Ef Z<|Em Z<|Ez Z<|Ez Z<|Ez Z<|Ef Z<|Em Z<|Ez Z<|Ez Z<|Ez Z<|Ef Z<|fb<|Pu3<|Pu3<|Re2<|Re2<|Sd<|⟨_, by exact R10, false, Z, Z, Z, H⟩
      ·intro B
       have H := f0 (btf B) H
       refine Ez Z<|Ez Z<|Ez Z<|Ez Z<|Ez Z<|Ef Z<|Em Z<|Ez Z<|Ez Z<|Ez Z<|Ez Z<|Ez Z<|Ef Z<|Em Z<|Ez Z<|Ez Z<|Ez Z<|Ef Z<|Em Z<|Ez Z<|Ez Z<|Ez Z<|?_
       exact Ef Z<|fb<|Pu3<|Pu3<|Re2<|Re2<|Sd<|⟨_, by exact R10, false, Z, Z, Z, H⟩
     rintro _ _ _ - ⟨I, rfl, rfl, rfl, H⟩
     unfold m7 at H
     refine fm Z ?_ ?_
     ·intro C
      have H := ift C H
      refine fc<|fa<|Ea Z<|fb<|fx<|?_
      obtain S := gq H
      subst h
      refine ⟨(.inl Z), [(.bool true)], ⟨(.bool true), _, Z, Z, Z⟩, ?_⟩
      exact Re0<|Re0<|Sd<|⟨Z, Z⟩
     ·intro C
      have H := f0 (btf C) H
      exact ft<|fa<|Er (wI (n + 1)) Z<|Em Z<|fb<|Pu1<|Pu1<|Sd<|⟨_, by exact R9, _, Nat.lt_succ_self _, (wI (n + 1)), Z, Z, Z, (Y ▸ H)⟩
    ·intro q
     obtain ⟨q, H⟩ := If q H
     exact f5<|Pu1<|Re1<|Sd<|⟨_, by exact R5, Z, Z, H⟩
   rintro _ aq _ ax ⟨rfl, rfl, H⟩
   unfold wb at H
   exact fa<|Er (wI (b + 1)) Z<|Em Z<|fb<|Sd<|⟨_, by exact R5, _, Nat.lt_succ_self _, (wI (b + 1)), Z, Z, (X ▸ H)⟩
  ·intro p
   obtain ⟨p, H⟩ := If p H
   exact f5<|Re0<|Sd<|⟨[], trivial, Z, Z, H⟩
 rintro _ ar _ ay ⟨rfl, rfl, H⟩
 unfold wa at H
 refine fc<|fa<|Ea Z<|fb<|fx<|?_
 obtain S := gq H
 subst h
 refine ⟨(.inl Z), [(.bool false)], ⟨(.bool false), _, Z, Z, Z⟩, ?_⟩
 exact Sd ⟨Z, Z⟩
theorem DX (p0 : ad1) (i : SV) (p1 : ae0) (b : SV) (e : Bool) (H : rU p0 p1 = some e) (K : Kp) (G : List Ent) (aa : Slr fH K (sv i) p0) (E : Slr fJ K (sv b) p1) :
  Fc Tryz.prog 39 #[(sv i), (sv b)] K (G) (fun v m c => v = (.bool e) ∧ G = c) := by
 refine fN Tryz.func39 Z Tryz.ntmps39 Tryz.results39 Z ?_
 unfold rU at H
 refine fc<|fa<|Ea Z<|fb<|?_
 refine fz (fun f m c => [] = f ∧ G = c ∧ we = some e) ?_ ?_
 ·refine fc<|fa<|Em Z<|Eq Z (ge (T := fJ) E Z Z)<|Em Z<|fb<|fA<|?_
  refine fY (fun R f m c => ∃ (a : Int), [(0, (sv i)), (1, (sv b)), (9, (sv b)), (10, (Vi (p1.length : Int))), (11, (Vi a))] = f ∧ G = c ∧ lp1 (wj p0 p1) R a = some e) BIG ?_ ?_
  ·exact Sd ⟨_, by exact R5, 0, Z, Z, H⟩
  rintro R _ an _ D ⟨a, rfl, rfl, H⟩
  obtain ⟨aB, A, rfl, X, H⟩ := lr H
  unfold wj at H
  refine fc<|fa<|Ec Z<|fb<|fc<|?_
  refine fm Z ?_ ?_
  ·intro n
   obtain ⟨n, H⟩ := It n H
   refine ft ?_
   refine fz (fun f m c => [(0, (sv i)), (1, (sv b)), (9, (sv b)), (10, (Vi (p1.length : Int))), (11, (Vi a))] = f ∧ G = c ∧ wh p0 p1 a A = some e) ?_ ?_
   ·refine fA<|fc<|fa<|Em Z<|?_
    obtain ⟨d, O, H⟩ := bnd H
    have z := E.mono D
    obtain ⟨aD, ab, V⟩ := Slr.at z O
    obtain ⟨g, h, rfl, F, I⟩ := ab
    refine Eq Z (Qi (T := fJ) z O Z)<|EL 8 (f9 d g h) Z (Rdc.k V Z)<|?_
    refine fe Z (fD (cs := (f9 (gd.mk 0 (Op.mk 0 0 0 0 0 [] [])) fB fB)) Z Z Z Z (fun r => ?_))
    refine Ea Z ?_
    refine fe Z (Sa (f9 d g h) Z .here Z ?_)
    refine fb<|fc<|fc<|fa<|Em Z<|EF 1 Z<|EL 7 (fj d.op g h) Z (Rb0 Z)<|?_
    obtain ⟨am, aj, H⟩ := bnd H
    have J := aa.mono D
    refine fe Z (Ek Tryz.call67 Z (yG p0 i d.op g h am aj _ _ J F I) ?_)
    rintro _ ao _ s ⟨aF, rfl, rfl, ad⟩
    refine Eq Z (ge (T := fP) ad Z Z)<|Ec Z<|fb<|?_
    refine fm Z ?_ ?_
    ·intro o
     obtain ⟨o, H⟩ := It o H
     refine fc<|fa<|Ea Z<|fb<|fx<|?_
     obtain C := gq H
     subst e
     refine ⟨(.inl Z), [(.bool true)], ⟨(.bool true), _, Z, Z, Z⟩, ?_⟩
     exact Re0<|Re0<|Sd<|⟨Z, Z⟩
    ·intro o
     obtain ⟨o, H⟩ := If o H
     refine ft<|fc<|fa<|Em Z<|Em Z<|?_
     obtain ⟨x, P, H⟩ := bnd H
     have L := z.mono s
     have M := Slr.cut L P
     refine Eq Z (pi (T := fJ) L P Z Z Z Z)<|Eq Z (ge (T := fJ) M Z Z)<|Em Z<|fb<|fA<|?_
     refine fY (fun S f m c => ∃ (l : Int), [(0, (sv i)), (1, (sv b)), (6, (Vp r)), (9, (sv b)), (10, (Vi (p1.length : Int))), (11, (Vi a)), (24, (sv (iR b 8 0 a.toNat))), (25, (Vi (x.length : Int))), (26, (Vi l))] = f ∧ (.blk r 96 (f9 d g h)) :: G = c ∧ lp1 (wi p0 p1 a x d A) S l = some e) BIG ?_ ?_
     ·exact Pu1<|Re1<|Sd<|⟨_, by exact R9, 0, Z, Z, H⟩
     rintro S _ ap _ t ⟨l, rfl, rfl, H⟩
     obtain ⟨aC, al, rfl, Y, H⟩ := lr H
     unfold wi at H
     refine fc<|fa<|Ec Z<|fb<|fc<|?_
     refine fm Z ?_ ?_
     ·intro p
      obtain ⟨p, H⟩ := It p H
      refine ft<|fc<|fA<|fc<|fa<|?_
      obtain ⟨q, Q, H⟩ := bnd H
      have N := M.mono t
      obtain ⟨aE, ac, W⟩ := Slr.at N Q
      obtain ⟨u, w, rfl, ae, af⟩ := ac
      refine Eq Z (Qi (T := fJ) N Q Z)<|EL 8 (f9 q u w) Z (Rdc.k W Z)<|?_
      refine fe Z (fD (cs := (f9 (gd.mk 0 (Op.mk 0 0 0 0 0 [] [])) fB fB)) Z Z Z Z (fun aw => ?_))
      refine fe Z (Sa (f9 q u w) Z .here Z ?_)
      refine fb ?_
      refine fz (fun f m c => ∃ (B : Bool), [(0, (sv i)), (1, (sv b)), (6, (Vp r)), (9, (sv b)), (10, (Vi (p1.length : Int))), (11, (Vi a)), (24, (sv (iR b 8 0 a.toNat))), (25, (Vi (x.length : Int))), (26, (Vi l)), (42, (.bool B))] = f ∧ (.blk r 96 (f9 d g h)) :: G = c ∧ rT p0 p1 a x l d A al B = some e) ?_ ?_
      ·refine fa<|EF 0 Z<|El (Vi d.thread) Z (Rb1 Z)<|EF 0 Z<|El (Vi q.thread) Z (Rb0 Z)<|Ec Z<|Em Z<|?_
       refine Ee Z ?_ ?_
       ·intro j
        have j := kT (iv (j))
        have H := f0 j H
        refine Vm Z<|VF 1 Z<|VL 7 (fj d.op g h) Z (Rb1 Z)<|VF 1 Z<|VL 7 (fj q.op u w) Z (Rb0 Z)<|?_
        obtain ⟨U, ak, H⟩ := bnd H
        have ag := (J.mono s).mono t
        have ah := (F.mono s).mono t
        have ai := (I.mono s).mono t
        refine hQ Z Z Z Z (Ek Tryz.call68 Z (DW p0 i d.op g h q.op u w U ak _ _ ag ah ai ae af) ?_)
        rintro _ aq _ ax ⟨rfl, rfl⟩
        exact Et Z<|fb<|Pu1<|Re1<|Sd<|⟨_, by exact R10, U, Z, Z, H⟩
       ·intro j
        have j := kU (ir (j))
        have H := ift j H
        exact Ez Z<|Ez Z<|Ez Z<|Ez Z<|Ez Z<|Ez Z<|Ef Z<|fb<|Pu1<|Re1<|Sd<|⟨_, by exact R10, false, Z, Z, H⟩
      rintro _ ar _ ay ⟨B, rfl, rfl, H⟩
      unfold rT at H
      refine fm Z ?_ ?_
      ·intro y
       have H := ift y H
       refine fc<|fa<|Ea Z<|fb<|fx<|?_
       obtain C := gq H
       subst e
       refine ⟨(.inl Z), [(.bool true)], ⟨(.bool true), _, Z, Z, Z⟩, ?_⟩
       exact Re0<|Sd<|⟨Z, Z⟩
      ·intro y
       have H := f0 (btf y) H
       exact ft<|fa<|Er (wI (l + 1)) Z<|Em Z<|fb<|Sd<|⟨_, by exact R9, _, Nat.lt_succ_self _, (wI (l + 1)), Z, Z, (Y ▸ H)⟩
     ·intro p
      obtain ⟨p, H⟩ := If p H
      exact f5<|Re0<|Sd<|⟨_, by exact R5, Z, Z, H⟩
   rintro _ au _ az ⟨rfl, rfl, H⟩
   unfold wh at H
   exact fa<|Er (wI (a + 1)) Z<|Em Z<|fb<|Sd<|⟨_, by exact R5, _, Nat.lt_succ_self _, (wI (a + 1)), Z, Z, (X ▸ H)⟩
  ·intro n
   obtain ⟨n, H⟩ := If n H
   exact f5<|Sd<|⟨[], trivial, Z, Z, H⟩
 rintro _ av _ aA ⟨rfl, rfl, H⟩
 unfold we at H
 refine fc<|fa<|Ea Z<|fb<|fx<|?_
 obtain C := gq H
 subst e
 refine ⟨(.inl Z), [(.bool false)], ⟨(.bool false), _, Z, Z, Z⟩, ?_⟩
 exact Sd ⟨Z, Z⟩
theorem yH (p0 : fp) (b c : SV) (p1 : ad1) (g : SV) (d : ad7) (H : oa p0 p1 = some d) (K : Kp) (G : List Ent) (n : Slr fW K (sv b) p0.op.cases) (o : Slr Ty.i64 K (sv c) p0.op.draws) (p : Slr fH K (sv g) p1) :
  Fc Tryz.prog 60 #[(.agg (fh p0 b c).toArray), (sv g)] K (G) (fun v k j => ∃ (h : SV), v = (sv h) ∧ (.tok 38 5 [(sv h)]) :: G = j ∧ Slr fP k (sv h) d) := by
 refine fN Tryz.func60 Z Tryz.ntmps60 Tryz.results60 Z ?_
 unfold oa at H
 refine fc<|fa<|?_
 refine fe Z (fU (cs := (fh p0 b c)) Z Z Z (fun x => ?_))
 refine Ea Z<|fb<|fc<|fc<|fa<|EF 13 Z<|El (Vi p0.coming) Z (Rb0 Z)<|Ec Z<|fb<|?_
 refine fm Z ?_ ?_
 ·intro a
  obtain ⟨a, H⟩ := It a H
  refine fc<|fa<|EF 7 Z<|EL 5 (ff p0.result) Z (Rb0 Z)<|?_
  have i : RowR fP K [(ff p0.result)] [p0.result] := RowR.cons Z (RowR.nil)
  refine fe Z (gh (T := fP) (rows := [(ff p0.result)]) (l := [p0.result]) Z Z Z i Z Z Z Z Z Z Z Z (fun e => ?_))
  refine Ea Z<|fb<|fx<|?_
  obtain m := gq H
  subst d
  refine ⟨(.inl Z), [(sv e)], ⟨(sv e), _, Z, Z, Z⟩, ?_⟩
  refine Shift.settle (T := fP) .here i Z ?_
  intro u y q
  exact Re1<|Sd<|⟨e, Z, Z, q⟩
 ·intro a
  obtain ⟨a, H⟩ := If a H
  refine ft<|fc<|fa<|Em Z<|EF 0 Z<|EL 7 (fj p0.op b c) Z (Rb0 Z)<|?_
  obtain ⟨t, s, H⟩ := bnd H
  refine fe Z (Ek Tryz.call67 Z (yG p1 g p0.op b c t s _ _ p n o) ?_)
  rintro _ w _ z ⟨f, rfl, rfl, r⟩
  refine Ea Z<|fb<|fx<|?_
  obtain m := gq H
  subst d
  refine ⟨(.inl Z), [(sv f)], ⟨(sv f), _, Z, Z, Z⟩, ?_⟩
  exact Re1<|Sd<|⟨f, Z, Z, r⟩
theorem yI (p0 : Op) (e m : SV) (f : af4) (H : ob p0 = some f) (K : Kp) (G : List Ent) (r : Slr fW K (sv e) p0.cases) (I : Slr Ty.i64 K (sv m) p0.draws) :
  Fc Tryz.prog 101 #[(.agg (fj p0 e m).toArray)] K (G) (fun v h g => ∃ (u : SV), v = (sv u) ∧ (.tok 167 4 [(sv u)]) :: G = g ∧ Slr gz h (sv u) f) := by
 refine fN Tryz.func101 Z Tryz.ntmps101 Tryz.results101 Z ?_
 unfold ob at H
 refine fc<|fa<|?_
 refine fe Z (fU (cs := (fj p0 e m)) Z Z Z (fun X => ?_))
 refine Ea Z<|fb<|fc<|fc<|fa<|EL 7 (fj p0 e m) Z (Rb0 Z)<|?_
 obtain ⟨c, R, O, H⟩ := iw H
 refine fe Z (Ek Tryz.call117 Z (xI p0 e m c R O _ _ r I) ?_)
 rintro _ _ _ - ⟨rfl, rfl, rfl⟩
 refine Em Z<|Ex Z<|Ex Z<|?_
 refine fe Z (fD (cs := (fl (Case.mk false 0 0))) Z Z Z Z (fun Y => ?_))
 refine fe Z (Sa (fl c) Z .here Z ?_)
 refine Ea Z<|fb<|fc<|fa<|Em Z<|fb<|?_
 refine fm Z ?_ ?_
 ·intro p
  have H := ift p H
  refine fc<|fa<|EL 3 (fl c) Z (Rb0 Z)<|Eq Z (fG (cs := (fV (Linear_numbered.mk (-1) c))) Z Z Z Z Z Z)<|?_
  have x : RowR gz K [(fV (Linear_numbered.mk (-1) c))] [(Linear_numbered.mk (-1) c)] := RowR.cons Z (RowR.nil)
  refine fe Z (gh (T := gz) (rows := [(fV (Linear_numbered.mk (-1) c))]) (l := [(Linear_numbered.mk (-1) c)]) Z Z Z x Z Z Z Z Z Z Z Z (fun t => ?_))
  refine Ea Z<|fb<|fx<|?_
  obtain C := gq H
  subst f
  refine ⟨(.inl Z), [(sv t)], ⟨(sv t), _, Z, Z, Z⟩, ?_⟩
  refine Shift.settle (T := gz) .here x Z ?_
  intro V ac M
  exact Re1<|Re1<|Sd<|⟨t, Z, Z, M⟩
 ·intro p
  have H := f0 (btf p) H
  refine ft<|fc<|fa<|Ea Z<|fb<|?_
  refine fz (fun o h g => ∃ (d : SV) (s : af4), [(5, (sv d))] = o ∧ (.tok 167 4 [(sv d)]) :: G = g ∧ vD s = some f ∧ Slr gz h (sv d) s) ?_ ?_
  ·refine fc<|fa<|EF 5 Z<|El (sv e) Z (Rb1 Z)<|Eq Z (ge (T := fW) r Z Z)<|Em Z<|fb<|fA<|?_
   refine fY (fun n167 o h g => ∃ (j : SV) (n : af4) (a : Int), [(5, (sv j)), (18, (sv e)), (19, (Vi (p0.cases.length : Int))), (20, (Vi a))] = o ∧ (.tok 167 4 [(sv j)]) :: G = g ∧ lp2 (vE p0) n167 n a = some f ∧ Slr gz h (sv j) n) BIG ?_ ?_
   ·exact Shift.nilTok1 167 4<|Re1<|Re1<|Sd<|⟨_, by exact R4, fB, ([] : af4), 0, Z, Z, H, (Slr.nil gz _)⟩
   rintro n167 _ B _ D ⟨j, n, a, rfl, rfl, H, y⟩
   obtain ⟨ae, ad, rfl, F, H⟩ := jC H
   unfold vE at H
   refine fc<|fa<|Ec Z<|fb<|fc<|?_
   refine fm Z ?_ ?_
   ·intro i
    obtain ⟨i, H⟩ := It i H
    refine ft<|fc<|fA<|fc<|fa<|Em Z<|?_
    obtain ⟨b, A, H⟩ := bnd H
    have z := r.mono D
    obtain ⟨_, rfl, E⟩ := Slr.at z A
    refine Eq Z (Qi (T := fW) z A Z)<|EL 3 (fl b) Z (Rdc.k E Z)<|?_
    refine fe Z (fD (cs := (fl (Case.mk false 0 0))) Z Z Z Z (fun W => ?_))
    refine Ea Z ?_
    refine fe Z (Sa (fl b) Z .here Z ?_)
    refine fb<|fa<|Em Z<|Em Z<|EL 3 (fl b) Z (Rb0 Z)<|Eq Z (fG (cs := (fV (Linear_numbered.mk a b))) Z Z Z Z Z Z)<|?_
    have w : RowR gz B [(fV (Linear_numbered.mk a b))] [(Linear_numbered.mk a b)] := RowR.cons Z (RowR.nil)
    refine fe Z (gh (T := gz) (rows := [(fV (Linear_numbered.mk a b))]) (l := [(Linear_numbered.mk a b)]) Z Z Z w Z Z Z Z Z Z Z Z (fun af => ?_))
    obtain ⟨Q, N, H⟩ := bnd H
    refine fe Z (f8 (T := gz) (bytes := 32) (q := 0) Z Z Z y Mb2 Z (SrcT.row Mb0 w Z) N Z Z Z Z Z Z Z Z (fun P S aa L => ⟨_, (.there (.there .here)), ?_⟩))
    refine Ow.shift (Re0 (Sd ?_))
    exact Ea Z<|fb<|fa<|Er (wI (a + 1)) Z<|Em Z<|fb<|Pu1<|Re1<|Sd<|⟨_, by exact R4, _, Nat.lt_succ_self _, P, Q, (wI (a + 1)), Z, Z, (F ▸ H), L⟩
   ·intro i
    obtain ⟨i, H⟩ := If i H
    exact f5<|Sd<|⟨_, by exact R1, j, n, Z, Z, H, y⟩
  rintro _ U _ ab ⟨d, s, rfl, rfl, H, J⟩
  unfold vD at H
  refine fc<|fa<|Em Z<|Ea Z<|fb<|fx<|?_
  obtain C := gq H
  subst f
  refine ⟨(.inl Z), [(sv d)], ⟨(sv d), _, Z, Z, Z⟩, ?_⟩
  exact Sd ⟨d, Z, Z, J⟩
theorem yJ (p0 : fp) (c d : SV) (p1 : Result) (b : Bool) (H : oc p0 p1 = some b) (K : Kp) (G : List Ent) (h : Slr fW K (sv c) p0.op.cases) (i : Slr Ty.i64 K (sv d) p0.op.draws) :
  Fc Tryz.prog 102 #[(.agg (fh p0 c d).toArray), (.agg (ff p1).toArray)] K (G) (fun v f e => v = (.bool b) ∧ K = f ∧ G = e) := by
 refine fN Tryz.func102 Z Tryz.ntmps102 Tryz.results102 Z ?_
 unfold oc at H
 refine fc<|fa<|?_
 refine fe Z (fU (cs := (fh p0 c d)) Z Z Z (fun b4 => ?_))
 refine fe Z (fU (cs := (ff p1)) Z Z Z (fun b5 => ?_))
 refine Ea Z<|fb<|fc<|fa<|EF 13 Z<|El (Vi p0.coming) Z (Rb1 Z)<|Ec Z<|Em Z<|?_
 refine Ee Z ?_ ?_
 ·intro a
  obtain ⟨a, H⟩ := It a H
  refine Ez Z<|Ez Z<|Ez Z<|Ez Z<|Et Z<|Ea Z<|fb<|fx<|?_
  obtain g := gq H
  subst b
  refine ⟨(.inl Z), [(.bool true)], ⟨(.bool true), _, Z, Z, Z⟩, ?_⟩
  exact Re0<|Re0<|Sd<|⟨Z, Z, Z⟩
 ·intro a
  obtain ⟨a, H⟩ := If a H
  refine VF 7 Z<|VL 5 (ff p0.result) Z (Rb1 Z)<|VL 5 (ff p1) Z (Rb0 Z)<|Vq Z (jx Z Z (fun w => Result.eqrun p0.result p1 w) (by kernel_rfl))<|Ef Z<|Ea Z<|fb<|fx<|?_
  obtain g := gq H
  subst b
  refine ⟨(.inl Z), [(.bool (dcd (p0.result = p1)))], ⟨(.bool (dcd (p0.result = p1))), _, Z, Z, Z⟩, ?_⟩
  exact Re0<|Re0<|Sd<|⟨Z, Z, Z⟩
theorem yL (p0 : ad1) (y : SV) (p1 : fp) (f g : SV) (p2 : fp) (h i : SV) (u : af1) (H : oe p0 p1 p2 = some u) (K : Kp) (G : List Ent) (aM : Slr fH K (sv y) p0) (ak : Slr fW K (sv f) p1.op.cases) (al : Slr Ty.i64 K (sv g) p1.op.draws) (aN : Slr fW K (sv h) p2.op.cases) (aO : Slr Ty.i64 K (sv i) p2.op.draws) :
  Fc Tryz.prog 63 #[(sv y), (.agg (fh p1 f g).toArray), (.agg (fh p2 h i).toArray)] K (G) (fun v d c => ∃ (ah : SV), v = (sv ah) ∧ (.tok 131 10 [(sv ah)]) :: G = c ∧ Slr gu d (sv ah) u) := by
 refine fN Tryz.func63 Z Tryz.ntmps63 Tryz.results63 Z ?_
 unfold oe at H
 refine fc<|fa<|?_
 refine fe Z (fU (cs := (fh p1 f g)) Z Z Z (fun n => ?_))
 refine fe Z (fU (cs := (fh p2 h i)) Z Z Z (fun o => ?_))
 refine Ea Z<|fb<|fc<|fa<|Ea Z<|fb<|?_
 refine fz (fun j d c => ∃ (B : SV) (ae : af1), [(7, (sv B))] = j ∧ (.tok 131 10 [(sv B)]) :: G = c ∧ vF ae = some u ∧ Slr gu d (sv B) ae) ?_ ?_
 ·refine fc<|fa<|EF 0 Z<|EL 7 (fj p1.op f g) Z (Rb1 Z)<|?_
  obtain ⟨m, a0, H⟩ := bnd H
  refine fe Z (Ek Tryz.call101 Z (yI p1.op f g m a0 _ _ ak al) ?_)
  rintro _ bb _ O ⟨p, rfl, rfl, ay⟩
  refine Eq Z (ge (T := gz) ay Z Z)<|Em Z<|fb<|fA<|?_
  refine fY (fun aB j d c => ∃ (I : SV) (P : af1) (e : Int), [(0, (sv y)), (4, (Vp n)), (5, (Vp o)), (7, (sv I)), (16, (sv p)), (17, (Vi (m.length : Int))), (18, (Vi e))] = j ∧ (.blk o 120 (fh p2 h i)) :: (.blk n 120 (fh p1 f g)) :: (.tok 131 10 [(sv I)]) :: (.tok 167 4 [(sv p)]) :: G = c ∧ lp2 (vJ p0 m p2 p1) aB P e = some u ∧ Slr gu d (sv I) P) BIG ?_ ?_
  ·exact Shift.nilTok1 131 10<|Pu1<|Pu1<|Pu3<|Pu3<|Sd<|⟨_, by exact R7, fB, ([] : af1), 0, Z, Z, H, (Slr.nil gu _)⟩
  rintro aB _ a5 _ C ⟨I, P, e, rfl, rfl, H, am⟩
  obtain ⟨bh, F, rfl, aK, H⟩ := jC H
  unfold vJ at H
  refine fc<|fa<|Ec Z<|fb<|fc<|?_
  refine fm Z ?_ ?_
  ·intro M
   obtain ⟨M, H⟩ := It M H
   refine ft ?_
   refine fz (fun j d c => ∃ (Q : SV) (W : af1), [(0, (sv y)), (4, (Vp n)), (5, (Vp o)), (7, (sv Q)), (16, (sv p)), (17, (Vi (m.length : Int))), (18, (Vi e))] = j ∧ (.blk o 120 (fh p2 h i)) :: (.blk n 120 (fh p1 f g)) :: (.tok 131 10 [(sv Q)]) :: (.tok 167 4 [(sv p)]) :: G = c ∧ vG p0 m e p2 p1 F W = some u ∧ Slr gu d (sv Q) W) ?_ ?_
   ·refine fA<|fc<|fa<|?_
    obtain ⟨a, az, H⟩ := bnd H
    have an := ay.mono C
    obtain ⟨_, rfl, aI⟩ := Slr.at an az
    refine Eq Z (Qi (T := gz) an az Z)<|EL 4 (fV a) Z (Rdc.k aI Z)<|?_
    refine fe Z (fD (cs := (fV (Linear_numbered.mk 0 (Case.mk false 0 0)))) Z Z Z Z (fun w => ?_))
    refine fe Z (Sa (fV a) Z .here Z ?_)
    refine fb<|fc<|fa<|EF 0 Z<|EL 7 (fj p2.op h i) Z (Rb1 Z)<|?_
    obtain ⟨t, aV, H⟩ := bnd H
    have ao := (aN.mono O).mono C
    have ap := (aO.mono O).mono C
    refine fe Z (Ek Tryz.call101 Z (yI p2.op h i t aV _ _ ao ap) ?_)
    rintro _ a6 _ D ⟨x, rfl, rfl, aq⟩
    refine Eq Z (ge (T := gz) aq Z Z)<|Em Z<|fb<|fA<|?_
    refine fY (fun aC j d c => ∃ (s : SV) (z : af1) (r : Int), [(0, (sv y)), (4, (Vp n)), (5, (Vp o)), (7, (sv s)), (9, (Vp w)), (16, (sv p)), (17, (Vi (m.length : Int))), (18, (Vi e)), (24, (sv x)), (25, (Vi (t.length : Int))), (26, (Vi r))] = j ∧ (.blk w 167 (fV a)) :: (.blk o 120 (fh p2 h i)) :: (.blk n 120 (fh p1 f g)) :: (.tok 131 10 [(sv s)]) :: (.tok 167 4 [(sv x)]) :: (.tok 167 4 [(sv p)]) :: G = c ∧ lp2 (vI p0 m e t a p2 p1 F) aC z r = some u ∧ Slr gu d (sv s) z) BIG ?_ ?_
    ·refine Pu5<|Pu1<|Pu5<|Pu5<|Pu5<|Pu5<|?_
     have aQ := am.mono D
     exact Sd ⟨_, by exact R11, I, P, 0, Z, Z, H, aQ⟩
    rintro aC _ S _ E ⟨s, z, r, rfl, rfl, H, U⟩
    obtain ⟨bi, V, rfl, aL, H⟩ := jC H
    unfold vI at H
    refine fc<|fa<|Ec Z<|fb<|fc<|?_
    refine fm Z ?_ ?_
    ·intro N
     obtain ⟨N, H⟩ := It N H
     refine ft ?_
     refine fz (fun j d c => ∃ (R : SV) (X : af1), [(0, (sv y)), (4, (Vp n)), (5, (Vp o)), (7, (sv R)), (9, (Vp w)), (16, (sv p)), (17, (Vi (m.length : Int))), (18, (Vi e)), (24, (sv x)), (25, (Vi (t.length : Int))), (26, (Vi r))] = j ∧ (.blk w 167 (fV a)) :: (.blk o 120 (fh p2 h i)) :: (.blk n 120 (fh p1 f g)) :: (.tok 131 10 [(sv R)]) :: (.tok 167 4 [(sv x)]) :: (.tok 167 4 [(sv p)]) :: G = c ∧ pF p0 m e t r a p2 p1 F V X = some u ∧ Slr gu d (sv R) X) ?_ ?_
     ·refine fA<|fc<|fa<|?_
      obtain ⟨b, aA, H⟩ := bnd H
      have ar := aq.mono E
      obtain ⟨_, rfl, aJ⟩ := Slr.at ar aA
      refine Eq Z (Qi (T := gz) ar aA Z)<|EL 4 (fV b) Z (Rdc.k aJ Z)<|?_
      refine fe Z (fD (cs := (fV (Linear_numbered.mk 0 (Case.mk false 0 0)))) Z Z Z Z (fun ai => ?_))
      refine fe Z (Sa (fV b) Z .here Z ?_)
      refine fb<|fc<|?_
      refine fz (fun j d c => ∃ (af : Bool), [(0, (sv y)), (4, (Vp n)), (5, (Vp o)), (7, (sv s)), (9, (Vp w)), (11, (Vp ai)), (16, (sv p)), (17, (Vi (m.length : Int))), (18, (Vi e)), (24, (sv x)), (25, (Vi (t.length : Int))), (26, (Vi r)), (47, (.bool af))] = j ∧ S = d ∧ (.blk ai 167 (fV b)) :: (.blk w 167 (fV a)) :: (.blk o 120 (fh p2 h i)) :: (.blk n 120 (fh p1 f g)) :: (.tok 131 10 [(sv s)]) :: (.tok 167 4 [(sv x)]) :: (.tok 167 4 [(sv p)]) :: G = c ∧ sR p0 z m e t r b a p2 p1 F V af = some u) ?_ ?_
      ·refine fa<|EF 1 Z<|EF 1 Z<|El (.bool a.case_.send) Z (Rb1 Z)<|Eq Z (gf Z)<|Em Z<|?_
       refine Ee Z ?_ ?_
       ·intro A
        have A := iv A
        have H := f0 (btf A) H
        exact Ez Z<|Ez Z<|Ez Z<|Et Z<|Em Z<|Ez Z<|Ez Z<|Ez Z<|Ez Z<|Ez Z<|Ez Z<|Ez Z<|Et Z<|fb<|Pu6<|Pu6<|Pu6<|Pu6<|Pu6<|Pu6<|Pu6<|Sd<|⟨_, by exact R13, true, Z, Z, Z, H⟩
       ·intro A
        have A := ir A
        have H := ift A H
        refine VF 1 Z<|VF 1 Z<|Vl (.bool b.case_.send) Z (Rb0 Z)<|Ef Z<|Em Z<|?_
        refine Ee Z ?_ ?_
        ·intro Y
         have H := ift Y H
         exact Ez Z<|Ez Z<|Ez Z<|Ez Z<|Ez Z<|Ez Z<|Ez Z<|Et Z<|fb<|Pu6<|Pu6<|Pu6<|Pu6<|Pu6<|Pu6<|Pu6<|Sd<|⟨_, by exact R13, true, Z, Z, Z, H⟩
        ·intro Y
         have H := f0 (btf Y) H
         exact VF 1 Z<|VF 2 Z<|Vl (Vi a.case_.channel) Z (Rb1 Z)<|VF 1 Z<|VF 2 Z<|Vl (Vi b.case_.channel) Z (Rb0 Z)<|Vc Z<|Ef Z<|fb<|Pu6<|Pu6<|Pu6<|Pu6<|Pu6<|Pu6<|Pu6<|Sd<|⟨_, by exact R13, (!(dcd (a.case_.channel = b.case_.channel))), Z, Z, Z, H⟩
      rintro _ _ _ - ⟨af, rfl, rfl, rfl, H⟩
      unfold sR at H
      refine fm Z ?_ ?_
      ·intro aa
       have H := ift aa H
       exact f5<|Pu6<|Pu6<|Pu6<|Pu6<|Pu6<|Pu6<|Re6<|Sd<|⟨_, by exact R11, s, z, Z, Z, H, U⟩
      ·intro aa
       have H := f0 (btf aa) H
       refine ft ?_
       refine fz (fun j d c => ∃ (J L : Nat), [(0, (sv y)), (4, (Vp n)), (5, (Vp o)), (7, (sv s)), (9, (Vp w)), (12, (Vp J)), (13, (Vp L)), (16, (sv p)), (17, (Vi (m.length : Int))), (18, (Vi e)), (24, (sv x)), (25, (Vi (t.length : Int))), (26, (Vi r))] = j ∧ S = d ∧ (.blk L 38 (ff (Result.mk 2 b.index a.case_.value true 0))) :: (.blk J 38 (ff (Result.mk 1 a.index 0 false 0))) :: (.blk w 167 (fV a)) :: (.blk o 120 (fh p2 h i)) :: (.blk n 120 (fh p1 f g)) :: (.tok 131 10 [(sv s)]) :: (.tok 167 4 [(sv x)]) :: (.tok 167 4 [(sv p)]) :: G = c ∧ vH p0 z m e t r b a p2 p1 F V = some u) ?_ ?_
       ·refine fw _ Z (Ic Mb0 (Ic Mb1 (Ic Mb2 (Ic Mb3 (Ic Mb4 (Ic Mb5 (Ic Mb6 In0)))))))<|JF 0 0 Z<|Jl 1 (Vi a.index) Z (Rb1 Z)<|Jq 2 Z (fG (cs := (ff (Result.mk 1 a.index 0 false 0))) Z Z Z Z Z Z)<|JF 3 0 Z<|Jl 4 (Vi b.index) Z (Rb0 Z)<|JF 5 1 Z<|JF 6 3 Z<|Jl 7 (.int .u64 a.case_.value) Z (Rb1 Z)<|Jq 8 Z (fG (cs := (ff (Result.mk 2 b.index a.case_.value true 0))) Z Z Z Z Z Z)<|?_
        refine gW 9 10 (by kernel_rfl) ?_ ?_
        ·refine id (Jy Z ?_)
         refine fD (cs := (ff (Result.mk 0 0 0 false 0))) Z Z Z Z (fun aE => ⟨(Ic Mb1 (Ic Mb2 (Ic Mb3 (Ic Mb4 (Ic Mb5 (Ic Mb6 (Ic Mb7 In0))))))), ?_⟩)
         refine Ao 10 Z ?_
         refine fD (cs := (ff (Result.mk 0 0 0 false 0))) Z Z Z Z (fun aF => ⟨(Ic Mb2 (Ic Mb3 (Ic Mb4 (Ic Mb5 (Ic Mb6 (Ic Mb7 (Ic Mb8 In0))))))), ?_⟩)
         refine Ao 11 Z ?_
         refine Sa (ff (Result.mk 1 a.index 0 false 0)) Z (.there .here) Z ⟨(Ic Mb2 (Ic Mb3 (Ic Mb4 (Ic Mb5 (Ic Mb6 (Ic Mb7 (Ic Mb8 In0))))))), ?_⟩
         refine Ao 12 Z ?_
         refine Sa (ff (Result.mk 2 b.index a.case_.value true 0)) Z .here Z ⟨(Ic Mb2 (Ic Mb3 (Ic Mb4 (Ic Mb5 (Ic Mb6 (Ic Mb7 (Ic Mb8 In0))))))), ?_⟩
         exact Ad<|Pu8<|Pu8<|Pu8<|Pu8<|Pu8<|Pu8<|Pu7<|Pu7<|Re8<|Sd<|⟨_, by exact R13, aE, aF, Z, Z, Z, H⟩
        ·refine id (Jy Z ?_)
         refine fD (cs := (ff (Result.mk 0 0 0 false 0))) Z Z Z Z (fun aG => ⟨(Ic Mb1 (Ic Mb2 (Ic Mb3 (Ic Mb4 (Ic Mb5 (Ic Mb6 (Ic Mb7 In0))))))), ?_⟩)
         refine Ao 9 Z ?_
         refine fD (cs := (ff (Result.mk 0 0 0 false 0))) Z Z Z Z (fun aH => ⟨(Ic Mb2 (Ic Mb3 (Ic Mb4 (Ic Mb5 (Ic Mb6 (Ic Mb7 (Ic Mb8 In0))))))), ?_⟩)
         refine Ao 11 Z ?_
         refine Sa (ff (Result.mk 1 a.index 0 false 0)) Z .here Z ⟨(Ic Mb2 (Ic Mb3 (Ic Mb4 (Ic Mb5 (Ic Mb6 (Ic Mb7 (Ic Mb8 In0))))))), ?_⟩
         refine Ao 12 Z ?_
         refine Sa (ff (Result.mk 2 b.index a.case_.value true 0)) Z (.there .here) Z ⟨(Ic Mb2 (Ic Mb3 (Ic Mb4 (Ic Mb5 (Ic Mb6 (Ic Mb7 (Ic Mb8 In0))))))), ?_⟩
         exact Ad<|Pu8<|Pu8<|Pu8<|Pu8<|Pu8<|Pu8<|Pu6<|Pu7<|Re8<|Sd<|⟨_, by exact R13, aH, aG, Z, Z, Z, H⟩
       rintro _ _ _ - ⟨J, L, rfl, rfl, rfl, H⟩
       unfold vH at H
       refine fz (fun j d c => ∃ (ag : Bool), [(0, (sv y)), (4, (Vp n)), (5, (Vp o)), (7, (sv s)), (9, (Vp w)), (12, (Vp J)), (13, (Vp L)), (16, (sv p)), (17, (Vi (m.length : Int))), (18, (Vi e)), (24, (sv x)), (25, (Vi (t.length : Int))), (26, (Vi r)), (74, (.bool ag))] = j ∧ S = d ∧ (.blk L 38 (ff (Result.mk 2 b.index a.case_.value true 0))) :: (.blk J 38 (ff (Result.mk 1 a.index 0 false 0))) :: (.blk w 167 (fV a)) :: (.blk o 120 (fh p2 h i)) :: (.blk n 120 (fh p1 f g)) :: (.tok 131 10 [(sv s)]) :: (.tok 167 4 [(sv x)]) :: (.tok 167 4 [(sv p)]) :: G = c ∧ sQ p0 z m e t r b a p2 p1 F V ag = some u) ?_ ?_
       ·refine fa<|EL 14 (fh p1 f g) Z (Rb4 Z)<|EL 5 (ff (Result.mk 1 a.index 0 false 0)) Z (Rb1 Z)<|?_
        obtain ⟨a2, aW, H⟩ := bnd H
        have au := (((ak.mono O).mono C).mono D).mono E
        have av := (((al.mono O).mono C).mono D).mono E
        refine fe Z (Ek Tryz.call102 Z (yJ p1 f g (Result.mk 1 a.index 0 false 0) a2 aW _ _ au av) ?_)
        rintro _ _ _ - ⟨rfl, rfl, rfl⟩
        refine Em Z ?_
        refine Ee Z ?_ ?_
        ·intro ab
         have H := ift ab H
         refine VL 14 (fh p2 h i) Z (Rb3 Z)<|VL 5 (ff (Result.mk 2 b.index a.case_.value true 0)) Z (Rb0 Z)<|?_
         obtain ⟨a3, aX, H⟩ := bnd H
         have aw := (ao.mono D).mono E
         have ax := (ap.mono D).mono E
         refine hQ Z Z Z Z (Ek Tryz.call102 Z (yJ p2 h i (Result.mk 2 b.index a.case_.value true 0) a3 aX _ _ aw ax) ?_)
         rintro _ _ _ - ⟨rfl, rfl, rfl⟩
         refine Et Z<|Em Z<|?_
         refine Ee Z ?_ ?_
         ·intro ac
          have H := ift ac H
          refine Vm Z<|VF 0 Z<|VL 7 (fj p1.op f g) Z (Rb4 Z)<|VL 5 (ff (Result.mk 1 a.index 0 false 0)) Z (Rb1 Z)<|VF 0 Z<|VL 7 (fj p2.op h i) Z (Rb3 Z)<|VL 5 (ff (Result.mk 2 b.index a.case_.value true 0)) Z (Rb0 Z)<|?_
          obtain ⟨aD, aY, H⟩ := bnd H
          have aS := (((aM.mono O).mono C).mono D).mono E
          refine hQ Z Z Z Z (Ek Tryz.call103 Z (DJ p0 y p1.op f g (Result.mk 1 a.index 0 false 0) p2.op h i (Result.mk 2 b.index a.case_.value true 0) aD aY _ _ aS au av aw ax) ?_)
          rintro _ _ _ - ⟨rfl, rfl, rfl⟩
          exact Et Z<|fb<|Pu7<|Pu7<|Pu7<|Pu7<|Pu7<|Pu7<|Pu7<|Pu7<|Sd<|⟨_, by exact R14, aD, Z, Z, Z, H⟩
         ·intro ac
          have H := f0 (btf ac) H
          exact Ez Z<|Ez Z<|Ez Z<|Ez Z<|Ez Z<|Ez Z<|Ez Z<|Ez Z<|Ef Z<|fb<|Pu7<|Pu7<|Pu7<|Pu7<|Pu7<|Pu7<|Pu7<|Pu7<|Sd<|⟨_, by exact R14, false, Z, Z, Z, H⟩
        ·intro ab
         have H := f0 (btf ab) H
         refine Ez Z<|Ez Z<|Ez Z<|Ef Z<|Em Z<|Ez Z<|Ez Z<|Ez Z<|Ez Z<|Ez Z<|Ez Z<|Ez Z<|Ez Z<|Ef Z<|fb<|Pu7<|Pu7<|Pu7<|Pu7<|Pu7<|Pu7<|Pu7<|?_
         exact Pu7<|Sd<|⟨_, by exact R14, false, Z, Z, Z, H⟩
       rintro _ _ _ - ⟨ag, rfl, rfl, rfl, H⟩
       unfold sQ at H
       refine fm Z ?_ ?_
       ·intro ad
        have H := ift ad H
        refine fa<|Em Z<|EL 5 (ff (Result.mk 1 a.index 0 false 0)) Z (Rb1 Z)<|EL 5 (ff (Result.mk 2 b.index a.case_.value true 0)) Z (Rb0 Z)<|Eq Z (kC (cs := (gV (gp.mk (Result.mk 1 a.index 0 false 0) (Result.mk 2 b.index a.case_.value true 0)))) Z Z Z Z Z Z)<|?_
        have aj : RowR gu S [(gV (gp.mk (Result.mk 1 a.index 0 false 0) (Result.mk 2 b.index a.case_.value true 0)))] [(gp.mk (Result.mk 1 a.index 0 false 0) (Result.mk 2 b.index a.case_.value true 0))] := RowR.cons Z (RowR.nil)
        refine fe Z (gh (T := gu) (rows := [(gV (gp.mk (Result.mk 1 a.index 0 false 0) (Result.mk 2 b.index a.case_.value true 0)))]) (l := [(gp.mk (Result.mk 1 a.index 0 false 0) (Result.mk 2 b.index a.case_.value true 0))]) Z Z Z aj Z Z Z Z Z Z Z Z (fun bj => ?_))
        obtain ⟨a4, aZ, H⟩ := bnd H
        refine fe Z (f8 (T := gu) (bytes := 80) (q := 0) Z Z Z U Mb6 Z (SrcT.row Mb0 aj Z) aZ Z Z Z Z Z Z Z Z (fun a1 a7 bd aT => ⟨_, (.there (.there (.there (.there (.there (.there .here)))))), ?_⟩))
        refine Ow.shift (Re0 (Sd ?_))
        exact Ea Z<|fb<|Pu7<|Pu7<|Pu7<|Pu7<|Pu7<|Pu7<|Re6<|Re6<|Sd<|⟨_, by exact R11, a1, a4, Z, Z, H, aT⟩
       ·intro ad
        have H := f0 (btf ad) H
        exact ft<|Pu7<|Pu7<|Pu7<|Pu7<|Pu7<|Pu7<|Re6<|Re6<|Sd<|⟨_, by exact R11, s, z, Z, Z, H, U⟩
     rintro _ a8 _ be ⟨R, X, rfl, rfl, H, aR⟩
     unfold pF at H
     exact fa<|Er (wI (r + 1)) Z<|Em Z<|fb<|Pu5<|Pu5<|Pu5<|Pu5<|Pu5<|Pu5<|Sd<|⟨_, by exact R11, _, Nat.lt_succ_self _, R, X, (wI (r + 1)), Z, Z, (aL ▸ H), aR⟩
    ·intro N
     obtain ⟨N, H⟩ := If N H
     exact f5<|Pu5<|Pu4<|Pu4<|Pu4<|Re4<|Re4<|Sd<|⟨_, by exact R7, s, z, Z, Z, H, U⟩
   rintro _ a9 _ bf ⟨Q, W, rfl, rfl, H, aP⟩
   unfold vG at H
   exact fa<|Er (wI (e + 1)) Z<|Em Z<|fb<|Pu3<|Pu3<|Pu3<|Pu3<|Sd<|⟨_, by exact R7, _, Nat.lt_succ_self _, Q, W, (wI (e + 1)), Z, Z, (aK ▸ H), aP⟩
  ·intro M
   obtain ⟨M, H⟩ := If M H
   exact f5<|Pu2<|Re1<|Re1<|Re1<|Sd<|⟨_, by exact R1, I, P, Z, Z, H, am⟩
 rintro _ ba _ bg ⟨B, ae, rfl, rfl, H, aU⟩
 unfold vF at H
 refine fc<|fa<|Em Z<|Ea Z<|fb<|fx<|?_
 obtain bc := gq H
 subst u
 refine ⟨(.inl Z), [(sv B)], ⟨(sv B), _, Z, Z, Z⟩, ?_⟩
 exact Sd ⟨B, Z, Z, aU⟩
theorem Bg (rc : ad6) (ih : ∀ (c : Nat) (o : af0) (d : SV) (b : Bool) (n : ad0) (a : Nat) (l : Array MapEntry) (u : Nat) (e : ad9) (f : SV) (s : List (List Value)) (p1 : ad2) (y : SV) (p2 : ad1) (p : SV) (i : Bool) (j : ad9) (h : ad0) (H : rc o b n e p1 p2 = some (i, j, h)) (K : Kp) (G : List Ent) (ac : Slr (Ty.sl fM) K (sv d) o) (aa : MapR Ty.bool Value.string K l n) (ab : RowR fO K s e) (ad : Slr Ty.i64 K (sv y) p1) (ae : Slr fH K (sv p) p2) (hT : li K), Fc Tryz.prog 29 #[(Vp c), (sv y), (sv p)] K ((.blk c 84 [(sv d), (.bool b), .nilFunc, (.map (some a)), (sv f)]) :: (.obj a (.map l u)) :: (.row (sv f) 67 6 s.flatten) :: G) (fun v g r => ∃ (L : SV) (E : List (List Value)) (z : Array MapEntry) (P : Nat), v = (.bool i) ∧ (.blk c 84 [(sv d), (.bool b), .nilFunc, (.map (some a)), (sv L)]) :: (.row (sv L) 67 6 E.flatten) :: (.obj a (.map z P)) :: G = r ∧ RowR fO g E j ∧ MapR Ty.bool Value.string g z h)) (c : Nat) (o : af0) (d : SV) (b : Bool) (n : ad0) (a : Nat) (l : Array MapEntry) (u : Nat) (e : ad9) (f : SV) (s : List (List Value)) (p1 : ad2) (y : SV) (p2 : ad1) (p : SV) (p3 : ad9) (J : SV) (i : Bool) (j : ad9) (h : ad0) (H : sS rc o b n e p1 p2 p3 = some (i, j, h)) (K : Kp) (G : List Ent) (ac : Slr (Ty.sl fM) K (sv d) o) (aa : MapR Ty.bool Value.string K l n) (ab : RowR fO K s e) (ad : Slr Ty.i64 K (sv y) p1) (ae : Slr fH K (sv p) p2) (M : Slr fO K (sv J) p3) (hT : li K) :
  Fc Tryz.prog 62 #[(Vp c), (sv y), (sv p), (sv J)] K ((.blk c 84 [(sv d), (.bool b), .nilFunc, (.map (some a)), (sv f)]) :: (.obj a (.map l u)) :: (.row (sv f) 67 6 s.flatten) :: G) (fun v g r => ∃ (L : SV) (E : List (List Value)) (z : Array MapEntry) (P : Nat), v = (.bool i) ∧ (.blk c 84 [(sv d), (.bool b), .nilFunc, (.map (some a)), (sv L)]) :: (.row (sv L) 67 6 E.flatten) :: (.obj a (.map z P)) :: G = r ∧ RowR fO g E j ∧ MapR Ty.bool Value.string g z h) := by
 refine fN Tryz.func62 Z Tryz.ntmps62 Tryz.results62 Z ?_
 unfold sS at H
 refine fc<|fa<|Ea Z<|fb<|fc<|fa<|Em Z<|?_
 obtain ⟨am, aK, H⟩ := bnd H
 refine fe Z (Ek Tryz.call100 Z (yW p1 y am aK _ _ ad) ?_)
 rintro _ _ _ - ⟨I, aM, rfl, rfl, rfl, aH⟩
 refine Ea Z<|fb<|?_
 refine fz (fun Q g r => ∃ (O : ad2) (V : List (List Value)), [(0, (Vp c)), (2, (sv p)), (3, (sv J)), (9, (sv I))] = Q ∧ (.blk c 84 [(sv d), (.bool b), .nilFunc, (.map (some a)), (sv f)]) :: (.row (sv I) 3 1 V.flatten) :: (.obj a (.map l u)) :: (.row (sv f) 67 6 s.flatten) :: G = r ∧ og p2 p3 o b e n rc O = some (i, j, h) ∧ RowR Ty.i64 g V O) ?_ ?_
 ·refine fc<|fa<|Em Z<|Eq Z (ge (T := fO) M Z Z)<|Em Z<|fb<|fA<|?_
  refine fY (fun n209 Q g r => ∃ (x : ad2) (D : List (List Value)) (C : Int), [(0, (Vp c)), (2, (sv p)), (3, (sv J)), (9, (sv I)), (15, (sv J)), (16, (Vi (p3.length : Int))), (17, (Vi C))] = Q ∧ K = g ∧ (.blk c 84 [(sv d), (.bool b), .nilFunc, (.map (some a)), (sv f)]) :: (.row (sv I) 3 1 D.flatten) :: (.obj a (.map l u)) :: (.row (sv f) 67 6 s.flatten) :: G = r ∧ lp2 (vK p2 p3 o b e n rc) n209 x C = some (i, j, h) ∧ RowR Ty.i64 g D x) BIG ?_ ?_
  ·exact Pu3<|Pu3<|Pu2<|Pu3<|Sd<|⟨_, by exact R7, am, aM, 0, Z, Z, Z, H, aH⟩
  rintro n209 _ _ _ - ⟨x, D, C, rfl, rfl, rfl, H, m⟩
  obtain ⟨aY, aX, rfl, ax, H⟩ := jC H
  unfold vK at H
  refine fc<|fa<|Ec Z<|fb<|fc<|?_
  refine fm Z ?_ ?_
  ·intro A
   obtain ⟨A, H⟩ := It A H
   refine ft<|fc<|fA<|fc<|fa<|?_
   obtain ⟨t, ai, H⟩ := bnd H
   obtain ⟨_, rfl, aw⟩ := Slr.at M ai
   refine Eq Z (Qi (T := fO) M ai Z)<|EL 6 (fF t) Z (Rdc.k aw Z)<|?_
   refine fe Z (fD (cs := (fF (Done.mk 0 (Result.mk 0 0 0 false 0)))) Z Z Z Z (fun aU => ?_))
   refine fe Z (Sa (fF t) Z .here Z ?_)
   refine fb<|fa<|Em Z<|EF 0 Z<|El (Vi t.thread) Z (Rb0 Z)<|?_
   obtain ⟨q, aj, H⟩ := bnd H
   obtain ⟨aZ, af, ay⟩ := RowR.at m aj
   obtain rfl := ay
   refine Eq Z (gP (T := Ty.i64) Mb2 m af (fR aj).1 Z Z Z Z Z)<|El (Vi q) Z (ib (T := Ty.i64) Mb2 m af Z Z)<|Er (wI (q + 1)) Z<|?_
   obtain ⟨a1, ak, H⟩ := bnd H
   obtain ⟨a0, S, az⟩ := RowR.at m ak
   obtain rfl := az
   refine Eq Z (gP (T := Ty.i64) Mb2 m S (fR ak).1 Z Z Z Z Z) ?_
   refine fe Z (gX (T := Ty.i64) (vs := [(Vi (wI (q + 1)))]) (r' := [(Vi (wI (q + 1)))]) (l' := (gb x t.thread (wI (q + 1)))) Z Z Z Z Z (.there (.there .here)) m S Z Z Z (RowR.set t.thread m Z) (fun ar => ?_))
   have aV := iV S (v := [(Vi (wI (q + 1)))])
   exact fb<|fa<|Er (wI (C + 1)) Z<|Em Z<|fb<|Pu4<|Pu4<|Pu4<|Pu4<|Re4<|Sd<|⟨_, by exact R7, _, Nat.lt_succ_self _, (gb x t.thread (wI (q + 1))), (D.set t.thread.toNat [(Vi (wI (q + 1)))]), (wI (C + 1)), Z, Z, Z, (ax ▸ H), ar⟩
  ·intro A
   obtain ⟨A, H⟩ := If A H
   exact f5<|Pu3<|Pu3<|Pu3<|Pu3<|Sd<|⟨_, by exact R4, x, D, Z, Z, H, m⟩
 rintro _ aR _ w ⟨O, V, rfl, rfl, H, aq⟩
 unfold og at H
 refine fc<|fa<|Em Z<|Eq Z (fC Z)<|EF 4 Z<|El (sv f) Z (Rb0 Z)<|?_
 have ag := ab.mono w
 refine Eq Z (lh (T := fO) Mb3 ag Z Z Z)<|Ea Z<|fb<|fc<|fa<|Em Z<|Em Z<|Eq Z (fC Z)<|EF 4 Z<|El (sv f) Z (Rb0 Z)<|Em Z<|?_
 obtain ⟨aN, aI, H⟩ := bnd H
 have aA := M.mono w
 refine fe Z (gZ (T := fO) (bytes := 48) Z Z Z Mb3 ag (SrcT.sl aA) aI Z Z Z Z Z Z Z Z (fun W aL au => ⟨_, (.there (.there (.there .here))), ?_⟩))
 refine Eq Z (fC Z)<|EF 4 Z<|?_
 refine fe Z (So [(sv W)] [(sv d), (.bool b), .nilFunc, (.map (some a)), (sv W)] Z .here Z ?_)
 refine fb<|fc<|fc<|fa<|Em Z<|Em Z<|Em Z<|?_
 refine Ow.shift (Shift.settle (T := Ty.i64) (.there .here) aq Z (fun aS B aB => Sd ?_))
 obtain ⟨aO, aP, aQ, aJ, H⟩ := j7 H
 refine Ow.shift (Pu3 (Sd ?_))
 refine Ow.shift (Pu3 (Sd ?_))
 refine Ow.shift (Pu2 (Sd ?_))
 have aC := (ac.mono w).mono B
 have aD := (aa.mono w).mono B
 have aE := au.mono B
 have aF := (ae.mono w).mono B
 have aG := (hT.mono w).mono B
 refine fe Z (Ek Tryz.call29 Z (ih c o d b n a l u aN W aL O I p2 p aO aP aQ aJ _ _ aC aD aE aB aF aG) ?_)
 rintro _ aT _ aW ⟨F, al, Y, X, rfl, rfl, N, ah⟩
 refine fb ?_
 refine fm Z ?_ ?_
 ·intro R
  have H := ift R H
  refine fc<|fa<|Ea Z<|fb<|fx<|?_
  obtain ⟨ao, ap, an⟩ := jq H
  subst i j h
  refine ⟨(.inl Z), [(.bool true)], ⟨(.bool true), _, Z, Z, Z⟩, ?_⟩
  exact Pu2<|Pu2<|Pu2<|Re3<|Sd<|⟨F, al, Y, X, Z, Z, N, ah⟩
 ·intro R
  have H := f0 (btf R) H
  refine ft<|fc<|fa<|Em Z<|Em Z<|Eq Z (fC Z)<|EF 4 Z<|El (sv F) Z (Rb0 Z)<|Em Z<|?_
  obtain ⟨a2, U, H⟩ := bnd H
  refine Eq Z (AT (T := fO) Mb1 N Z U Z Z Z Z)<|Eq Z (fC Z)<|EF 4 Z<|?_
  refine Ow.shift (Pu1 (Sd ?_))
  have av := RowR.cutH N U
  refine Ow.shift (Shift.cutRow (T := fO) N Z U (Sd ?_))
  refine fe Z (So [(sv (iR F 6 0 (e.length : Int).toNat))] [(sv d), (.bool b), .nilFunc, (.map (some a)), (sv (iR F 6 0 (e.length : Int).toNat))] Z (.there .here) Z ?_)
  refine fb<|fc<|fa<|Ea Z<|fb<|fx<|?_
  obtain ⟨ao, ap, an⟩ := jq H
  subst i j h
  refine ⟨(.inl Z), [(.bool false)], ⟨(.bool false), _, Z, Z, Z⟩, ?_⟩
  exact Pu2<|Pu1<|Pu2<|Re3<|Sd<|⟨(iR F 6 0 (e.length : Int).toNat), (al.take (e.length : Int).toNat), Y, X, Z, Z, av, ah⟩
theorem nn (p0 : fQ) (h o : SV) (i : ad1) (H : nU p0 = some i) (K : Kp) (G : List Ent) (s : Slr Ty.i64 K (sv h) p0.capacities) (P : Slr Ty.u64 K (sv o) p0.starts) :
  Fc Tryz.prog 30 #[(.agg (fq p0 h o).toArray)] K (G) (fun v d c => ∃ (p : SV), v = (sv p) ∧ (.tok 104 3 [(sv p)]) :: G = c ∧ Slr fH d (sv p) i) := by
 refine fN Tryz.func30 Z Tryz.ntmps30 Tryz.results30 Z ?_
 unfold nU at H
 refine fc<|fa<|?_
 refine fe Z (fU (cs := (fq p0 h o)) Z Z Z (fun L => ?_))
 refine Ea Z<|fb<|fc<|fa<|Ea Z<|fb<|?_
 refine fz (fun m d c => ∃ (a : SV) (n : ad1), [(3, (sv a))] = m ∧ (.tok 104 3 [(sv a)]) :: G = c ∧ zK n = some i ∧ Slr fH d (sv a) n) ?_ ?_
 ·refine fc<|fa<|EF 0 Z<|El (sv h) Z (Rb0 Z)<|Eq Z (ge (T := Ty.i64) s Z Z)<|Em Z<|fb<|fA<|?_
  refine fY (fun n137 m d c => ∃ (g : SV) (j : ad1) (f : Int), [(3, (sv g)), (7, (sv h)), (8, (Vi (p0.capacities.length : Int))), (9, (Vi f))] = m ∧ (.tok 104 3 [(sv g)]) :: G = c ∧ lp2 (vl p0) n137 j f = some i ∧ Slr fH d (sv g) j) BIG ?_ ?_
  ·exact Shift.nilTok1 104 3<|Re1<|Sd<|⟨_, by exact R4, fB, ([] : ad1), 0, Z, Z, H, (Slr.nil fH _)⟩
  rintro n137 _ x _ y ⟨g, j, f, rfl, rfl, H, t⟩
  obtain ⟨R, Q, rfl, A, H⟩ := jC H
  unfold vl at H
  refine fc<|fa<|Ec Z<|fb<|fc<|?_
  refine fm Z ?_ ?_
  ·intro e
   obtain ⟨e, H⟩ := It e H
   refine ft<|fc<|fA<|fc<|fa<|?_
   obtain ⟨b, w, H⟩ := bnd H
   have u := s.mono y
   obtain ⟨_, rfl, z⟩ := Slr.at u w
   refine Eq Z (Qi (T := Ty.i64) u w Z)<|El (Vi b) Z (Rdc.k z Z)<|Ea Z<|fb<|fa<|Em Z<|Em Z<|Eq Z (fG (cs := (fy (fL.mk b [] false) fB)) Z Z Z Z Z Z)<|?_
   have r : RowR fH x [(fy (fL.mk b [] false) fB)] [(fL.mk b [] false)] := RowR.cons ⟨fB, Z, (Slr.nil Ty.u64 _)⟩ (RowR.nil)
   refine fe Z (gh (T := fH) (rows := [(fy (fL.mk b [] false) fB)]) (l := [(fL.mk b [] false)]) Z Z Z r Z Z Z Z Z Z Z Z (fun S => ?_))
   obtain ⟨F, D, H⟩ := bnd H
   refine fe Z (f8 (T := fH) (bytes := 40) (q := 0) Z Z Z t Mb1 Z (SrcT.row Mb0 r Z) D Z Z Z Z Z Z Z Z (fun E I N B => ⟨_, (.there .here), ?_⟩))
   refine Ow.shift (Re0 (Sd ?_))
   exact Ea Z<|fb<|fa<|Er (wI (f + 1)) Z<|Em Z<|fb<|Sd<|⟨_, by exact R4, _, Nat.lt_succ_self _, E, F, (wI (f + 1)), Z, Z, (A ▸ H), B⟩
  ·intro e
   obtain ⟨e, H⟩ := If e H
   exact f5<|Sd<|⟨_, by exact R1, g, j, Z, Z, H, t⟩
 rintro _ J _ O ⟨a, n, rfl, rfl, H, C⟩
 unfold zK at H
 refine fc<|fa<|Em Z<|Ea Z<|fb<|fx<|?_
 obtain M := gq H
 subst i
 refine ⟨(.inl Z), [(sv a)], ⟨(sv a), _, Z, Z, Z⟩, ?_⟩
 exact Sd ⟨a, Z, Z, C⟩
theorem AY (fu : Nat) : ∀ (f : Nat) (c : af0) (h : SV) (e : Bool) (ae : ad0) (b : Nat) (I : Array MapEntry) (S : Nat) (af : ad9) (Q : SV) (P : List (List Value)) (p1 : ad2) (u : SV) (p2 : ad1) (w : SV) (r : Bool) (s : ad9) (p : ad0) (H : pG fu c e ae af p1 p2 = some (r, s, p)) (K : Kp) (G : List Ent) (a1 : Slr (Ty.sl fM) K (sv h) c) (aG : MapR Ty.bool Value.string K I ae) (aq : RowR fO K P af) (a2 : Slr Ty.i64 K (sv u) p1) (bx : Slr fH K (sv w) p2) (hT : li K),
  Fc Tryz.prog 29 #[(Vp f), (sv u), (sv w)] K ((.blk f 84 [(sv h), (.bool e), .nilFunc, (.map (some b)), (sv Q)]) :: (.obj b (.map I S)) :: (.row (sv Q) 67 6 P.flatten) :: G) (fun v d j => ∃ (ck : SV) (ch : List (List Value)) (bQ : Array MapEntry) (cx : Nat), v = (.bool r) ∧ (.blk f 84 [(sv h), (.bool e), .nilFunc, (.map (some b)), (sv ck)]) :: (.row (sv ck) 67 6 ch.flatten) :: (.obj b (.map bQ cx)) :: G = j ∧ RowR fO d ch s ∧ MapR Ty.bool Value.string d bQ p) := by
 induction fu with
 | zero => intro f c h e ae b I S af Q P p1 u p2 w r s p H K G a1 aG aq a2 bx hT; cases H
 | succ fu ih =>
 intro f c h e ae b I S af Q P p1 u p2 w r s p H K G a1 aG aq a2 bx hT
 have H : rh (pG fu) c e ae af p1 p2 = some (r, s, p) := H
 generalize pG fu = rc at H ih
 refine fN Tryz.func29 Z Tryz.ntmps29 Tryz.results29 Z ?_
 unfold rh at H
 refine fc<|fa<|Ea Z<|fb<|fc<|fa<|Em Z<|Em Z<|?_
 obtain ⟨o, dH, dv, H⟩ := iw H
 refine Ow.shift (Pu2 (Sd ?_))
 refine Ow.shift (Pu2 (Sd ?_))
 refine Ow.shift (Pu2 (Sd ?_))
 refine fe Z (Ek Tryz.call57 Z (Dy f c h e ae b I S af Q P p1 u o dH dv _ _ a1 aG aq a2) ?_)
 rintro _ dV _ C ⟨rfl, rfl⟩
 refine Em Z<|Ex Z<|Ex Z<|Ea Z<|Ea Z<|fb<|fc<|fc<|fa<|Em Z<|Eq Z (gf Z)<|fb<|?_
 refine fm Z ?_ ?_
 ·intro X
  have X := iv X
  have H := f0 (btf X) H
  refine fc<|fc<|fa<|Em Z<|Eq Z (fC Z)<|EF 2 Z<|El (.nilFunc) Z (Rb0 Z)<|Eq Z (B7 Z Z Z)<|Em Z<|Ez Z<|Ez Z<|Ez Z<|Ez Z<|Ez Z<|Ez Z<|Et Z<|fb<|BY rfl<|fc<|fa<|Ea Z<|fb<|?_
  refine fx ?_
  obtain ⟨aV, aW, aU⟩ := jq H
  subst r s p
  refine ⟨(.inl Z), [(.bool true)], ⟨(.bool true), _, Z, Z, Z⟩, ?_⟩
  refine Pu1<|Pu2<|Pu2<|?_
  have dk := aq.mono C
  have dl := aG.mono C
  exact Sd ⟨Q, P, I, S, Z, Z, dk, dl⟩
 ·intro X
  have X := ir X
  have H := ift X H
  refine ft<|fc<|fa<|Em Z<|Em Z<|?_
  obtain ⟨g, dw, H⟩ := bnd H
  have b9 := a2.mono C
  have bD := bx.mono C
  have bE := hT.mono C
  refine fe Z (Ek Tryz.call58 Z (yF p1 u p2 w g dw _ _ b9 bD bE) ?_)
  rintro _ dW _ D ⟨rfl, rfl⟩
  refine Ea Z<|fb<|fc<|fc<|fa<|Em Z<|Eq Z (fC Z)<|EF 3 Z<|El (.map (some b)) Z (Rb0 Z)<|Em Z<|?_
  have bF := (aG.mono C).mono D
  refine Eq Z (AU (kv := Value.string) (k := g) (KeyK.str Z) bF Mb1 Z Z Z Z Z)<|fb<|?_
  refine fm Z ?_ ?_
  ·intro bu
   have H := ift bu H
   refine fc<|fa<|Ea Z<|fb<|fx<|?_
   obtain ⟨aV, aW, aU⟩ := jq H
   subst r s p
   refine ⟨(.inl Z), [(.bool false)], ⟨(.bool false), _, Z, Z, Z⟩, ?_⟩
   refine Pu1<|Pu2<|Pu2<|?_
   have dm := (aq.mono C).mono D
   exact Sd ⟨Q, P, I, S, Z, Z, dm, bF⟩
  ·intro bu
   have H := f0 (btf bu) H
   refine ft ?_
   refine fz (fun t d j => ∃ (bp : Array MapEntry) (bO : Nat) (bI : ad0) (bf : SV) (bH : ad9) (bb : List (List Value)), [(0, (Vp f)), (9, (.string g))] = t ∧ (.blk f 84 [(sv h), (.bool e), .nilFunc, (.map (some b)), (sv bf)]) :: (.obj b (.map bp bO)) :: (.row (sv bf) 67 6 bb.flatten) :: G = j ∧ zO g c e rc bI bH = some (r, s, p) ∧ MapR Ty.bool Value.string d bp bI ∧ RowR fO d bb bH) ?_ ?_
   ·refine fc<|fa<|Em Z<|Eq Z (fC Z)<|EF 0 Z<|El (sv h) Z (Rb0 Z)<|?_
    have bX := (a1.mono C).mono D
    refine Eq Z (ge (T := (Ty.sl fM)) bX Z Z)<|Em Z<|fb<|fA<|?_
    refine fY (fun cc t d j => ∃ (a : Int) (U : Array MapEntry) (ai : Nat) (ad : ad0) (ah : SV) (ac : ad9) (ag : List (List Value)), [(0, (Vp f)), (1, (sv u)), (2, (sv w)), (7, (Vi o)), (9, (.string g)), (56, (Vi (c.length : Int))), (57, (Vi a))] = t ∧ (.blk f 84 [(sv h), (.bool e), .nilFunc, (.map (some b)), (sv ah)]) :: (.obj b (.map U ai)) :: (.row (sv ah) 67 6 ag.flatten) :: G = j ∧ lp3 (zT p1 p2 o g c e rc) cc a ad ac = some (r, s, p) ∧ MapR Ty.bool Value.string d U ad ∧ RowR fO d ag ac) BIG ?_ ?_
    ·refine Pu2<|Pu2<|Pu2<|?_
     have cP := (aq.mono C).mono D
     exact Sd ⟨_, by exact R7, 0, I, S, ae, Q, af, P, Z, Z, H, bF, cP⟩
    rintro cc _ dI _ ak ⟨a, U, ai, ad, ah, ac, ag, rfl, rfl, H, aX, aZ⟩
    obtain ⟨d6, L, rfl, cL, H⟩ := pq H
    unfold zT at H
    refine fc<|fa<|Ec Z<|fb<|fc<|?_
    refine fm Z ?_ ?_
    ·intro aB
     obtain ⟨aB, H⟩ := It aB H
     refine ft ?_
     refine fz (fun t d j => ∃ (aR : Array MapEntry) (bm : Nat) (a7 : ad0) (bg : SV) (a3 : ad9) (bc : List (List Value)), [(0, (Vp f)), (1, (sv u)), (2, (sv w)), (7, (Vi o)), (9, (.string g)), (56, (Vi (c.length : Int))), (57, (Vi a))] = t ∧ (.blk f 84 [(sv h), (.bool e), .nilFunc, (.map (some b)), (sv bg)]) :: (.obj b (.map aR bm)) :: (.row (sv bg) 67 6 bc.flatten) :: G = j ∧ vL p1 p2 o g c a e L rc a7 a3 = some (r, s, p) ∧ MapR Ty.bool Value.string d aR a7 ∧ RowR fO d bc a3) ?_ ?_
     ·refine fA<|fc<|fa<|Em Z<|Ea Z<|fb<|fc<|fa<|Em Z<|Em Z<|Em Z<|Em Z<|?_
      obtain ⟨i, dD, dn, H⟩ := iw H
      refine Ow.shift (Pu2 (Sd ?_))
      refine Ow.shift (Pu2 (Sd ?_))
      refine Ow.shift (Pu2 (Sd ?_))
      have bz := bX.mono ak
      have bA := (b9.mono D).mono ak
      refine fe Z (Ek Tryz.call59 Z (Be f c h e ad b U ai ac ah ag p1 u a o i dD dn _ _ bz aX aZ bA) ?_)
      rintro _ _ _ - ⟨z, A, rfl, rfl, rfl, bB, bC⟩
      refine Em Z<|Ex Z<|Ex Z<|?_
      refine fe Z (fD (cs := (fh (fp.mk (Op.mk 0 0 0 0 0 [] []) (Result.mk 0 0 0 false 0) 0 0) fB fB)) Z Z Z Z (fun y => ?_))
      refine fe Z (Sa (fh i z A) Z .here Z ?_)
      refine Ea Z<|fb<|fc<|fc<|fa<|Em Z<|Eq Z (gf Z)<|fb<|?_
      refine fm Z ?_ ?_
      ·intro V
       have V := iv V
       have H := f0 (btf V) H
       exact f5<|Pu3<|Pu3<|Pu3<|Re3<|Sd<|⟨_, by exact R7, U, ai, ad, ah, ac, ag, Z, Z, H, aX, aZ⟩
      ·intro V
       have V := ir V
       have H := ift V H
       refine ft ?_
       refine fz (fun t d j => ∃ (aS : Array MapEntry) (bn : Nat) (a8 : ad0) (bh : SV) (a4 : ad9) (bd : List (List Value)), [(0, (Vp f)), (1, (sv u)), (2, (sv w)), (7, (Vi o)), (9, (.string g)), (10, (Vi a)), (11, (Vp y)), (56, (Vi (c.length : Int))), (57, (Vi a))] = t ∧ (.blk f 84 [(sv h), (.bool e), .nilFunc, (.map (some b)), (sv bh)]) :: (.blk y 120 (fh i z A)) :: (.obj b (.map aS bn)) :: (.row (sv bh) 67 6 bd.flatten) :: G = j ∧ zR p1 p2 o g a c e i L rc a8 a4 = some (r, s, p) ∧ MapR Ty.bool Value.string d aS a8 ∧ RowR fO d bd a4) ?_ ?_
       ·refine fc<|fa<|EL 14 (fh i z A) Z (Rb0 Z)<|Em Z<|?_
        obtain ⟨aO, dp, H⟩ := bnd H
        have bY := (bD.mono D).mono ak
        refine fe Z (Ek Tryz.call60 Z (yH i z A p2 w aO dp _ _ bB bC bY) ?_)
        rintro _ dJ _ J ⟨bi, rfl, rfl, bZ⟩
        refine Eq Z (ge (T := fP) bZ Z Z)<|Em Z<|fb<|fA<|?_
        refine fY (fun cd t d j => ∃ (ab : Int) (aj : Array MapEntry) (ay : Nat) (au : ad0) (aw : SV) (ar : ad9) (av : List (List Value)), [(0, (Vp f)), (1, (sv u)), (2, (sv w)), (7, (Vi o)), (9, (.string g)), (10, (Vi a)), (11, (Vp y)), (56, (Vi (c.length : Int))), (57, (Vi a)), (72, (sv bi)), (73, (Vi (aO.length : Int))), (74, (Vi ab))] = t ∧ (.blk f 84 [(sv h), (.bool e), .nilFunc, (.map (some b)), (sv aw)]) :: (.blk y 120 (fh i z A)) :: (.obj b (.map aj ay)) :: (.row (sv aw) 67 6 av.flatten) :: (.tok 38 5 [(sv bi)]) :: G = j ∧ lp3 (zS p1 p2 o g a c aO e i L rc) cd ab au ar = some (r, s, p) ∧ MapR Ty.bool Value.string d aj au ∧ RowR fO d av ar) BIG ?_ ?_
        ·refine Pu4<|Pu4<|Pu3<|Pu4<|?_
         have cQ := aX.mono J
         have cR := aZ.mono J
         exact Sd ⟨_, by exact R12, 0, U, ai, ad, ah, ac, ag, Z, Z, H, cQ, cR⟩
        rintro cd _ dK _ Y ⟨ab, aj, ay, au, aw, ar, av, rfl, rfl, H, bv, bw⟩
        obtain ⟨d7, dx, rfl, cM, H⟩ := pq H
        unfold zS at H
        refine fc<|fa<|Ec Z<|fb<|fc<|?_
        refine fm Z ?_ ?_
        ·intro aC
         obtain ⟨aC, H⟩ := It aC H
         refine ft<|fc<|fA<|fc<|fa<|?_
         obtain ⟨B, ca, H⟩ := bnd H
         have b0 := bZ.mono Y
         obtain ⟨_, rfl, cJ⟩ := Slr.at b0 ca
         refine Eq Z (Qi (T := fP) b0 ca Z)<|EL 5 (ff B) Z (Rdc.k cJ Z)<|?_
         refine fe Z (fD (cs := (ff (Result.mk 0 0 0 false 0))) Z Z Z Z (fun dX => ?_))
         refine fe Z (Sa (ff B) Z .here Z ?_)
         refine fb<|fc<|fa<|Em Z<|EF 0 Z<|EL 7 (fj i.op z A) Z (Rb2 Z)<|EL 5 (ff B) Z (Rb0 Z)<|?_
         obtain ⟨cl, dE, dq, H⟩ := iw H
         have cS := (bY.mono J).mono Y
         have cT := (bB.mono J).mono Y
         have cU := (bC.mono J).mono Y
         refine fe Z (Ek Tryz.call61 Z (xK p2 w i.op z A B cl dE dq _ _ cS cT cU) ?_)
         rintro _ cr _ aa ⟨dz, rfl, rfl, cV⟩
         refine Em Z<|Ex Z<|Ex Z<|Ea Z<|Ea Z<|fb<|?_
         refine fz (fun t d j => ∃ (bJ : Bool) (az : Array MapEntry) (aP : Nat) (a9 : ad0) (aM : SV) (a5 : ad9) (aK : List (List Value)), [(0, (Vp f)), (1, (sv u)), (2, (sv w)), (7, (Vi o)), (9, (.string g)), (10, (Vi a)), (11, (Vp y)), (56, (Vi (c.length : Int))), (57, (Vi a)), (72, (sv bi)), (73, (Vi (aO.length : Int))), (74, (Vi ab)), (96, (.bool bJ))] = t ∧ (.blk f 84 [(sv h), (.bool e), .nilFunc, (.map (some b)), (sv aM)]) :: (.blk y 120 (fh i z A)) :: (.obj b (.map az aP)) :: (.row (sv aM) 67 6 aK.flatten) :: (.tok 38 5 [(sv bi)]) :: G = j ∧ vO p1 p2 o g a c aO ab e i L dx rc bJ a9 a5 = some (r, s, p) ∧ MapR Ty.bool Value.string d az a9 ∧ RowR fO d aK a5) ?_ ?_
         ·refine fa<|Em Z<|Em Z<|?_
          refine Ee Z ?_ ?_
          ·intro bq
           have H := ift bq H
           refine Vm Z<|Vm Z<|Vm Z<|Vm Z<|VL 5 (ff B) Z (Rb0 Z)<|Vq Z (fG (cs := (fF (Done.mk a B))) Z Z Z Z Z Z)<|?_
           have bU : RowR fO cr [(fF (Done.mk a B))] [(Done.mk a B)] := RowR.cons Z (RowR.nil)
           refine hQ Z Z Z Z (gh (T := fO) (rows := [(fF (Done.mk a B))]) (l := [(Done.mk a B)]) Z Z Z bU Z Z Z Z Z Z Z Z (fun dA => ?_))
           refine Ow.shift (Shift.settle (T := fO) .here bU Z (fun dL al cW => Sd ?_))
           obtain ⟨cm, cn, co, dr, H⟩ := j7 H
           refine Ow.shift (Pu5 (Sd ?_))
           refine Ow.shift (Pu5 (Sd ?_))
           refine Ow.shift (Pu4 (Sd ?_))
           have cX := (((bz.mono J).mono Y).mono aa).mono al
           have cY := (bv.mono aa).mono al
           have cZ := (bw.mono aa).mono al
           have c0 := (((bA.mono J).mono Y).mono aa).mono al
           have c1 := cV.mono al
           have c2 := (((((bE.mono D).mono ak).mono J).mono Y).mono aa).mono al
           refine hQ Z Z Z Z (Ek Tryz.call62 Z (Bg rc ih f c h e au b aj ay ar aw av p1 u cl dz [(Done.mk a B)] dA cm cn co dr _ _ cX cY cZ c0 c1 cW c2) ?_)
           rintro _ dM _ dZ ⟨dB, dy, cy, cv, rfl, rfl, c3, c4⟩
           exact Et Z<|fb<|Pu6<|Pu2<|Pu3<|Pu6<|Pu4<|Re5<|Re5<|Sd<|⟨_, by exact R13, cm, cy, cv, co, dB, cn, dy, Z, Z, H, c4, c3⟩
          ·intro bq
           have H := f0 (btf bq) H
           refine Ez Z<|Ez Z<|Ez Z<|Ez Z<|Ez Z<|Ez Z<|Ez Z<|Ez Z<|Ef Z<|fb<|Pu5<|Pu5<|Pu5<|Pu5<|Pu5<|Re5<|?_
           have c5 := bv.mono aa
           have c6 := bw.mono aa
           exact Sd ⟨_, by exact R13, false, aj, ay, au, aw, ar, av, Z, Z, H, c5, c6⟩
         rintro _ dN _ d0 ⟨bJ, az, aP, a9, aM, a5, aK, rfl, rfl, H, bR, bT⟩
         unfold vO at H
         refine fm Z ?_ ?_
         ·intro br
          have H := ift br H
          refine fc<|fa<|Ea Z<|fb<|fx<|?_
          obtain ⟨aV, aW, aU⟩ := jq H
          subst r s p
          refine ⟨(.inl Z), [(.bool true)], ⟨(.bool true), _, Z, Z, Z⟩, ?_⟩
          exact Pu2<|Pu3<|Pu2<|Re3<|Re3<|Sd<|⟨aM, aK, az, aP, Z, Z, bT, bR⟩
         ·intro br
          have H := f0 (btf br) H
          exact ft<|fa<|Er (wI (ab + 1)) Z<|Em Z<|fb<|Pu4<|Pu4<|Pu4<|Pu4<|Pu4<|Sd<|⟨_, by exact R12, _, Nat.lt_succ_self _, (wI (ab + 1)), az, aP, a9, aM, a5, aK, Z, Z, (cM ▸ H), bR, bT⟩
        ·intro aC
         obtain ⟨aC, H⟩ := If aC H
         exact f5<|Pu3<|Pu3<|Pu3<|Pu3<|Re4<|Sd<|⟨_, by exact R9, aj, ay, au, aw, ar, av, Z, Z, H, bv, bw⟩
       rintro _ dO _ am ⟨aS, bn, a8, bh, a4, bd, rfl, rfl, H, cC, cH⟩
       unfold zR at H
       refine fc<|fa<|Em Z<|Eq Z (fC Z)<|EF 0 Z<|El (sv h) Z (Rb0 Z)<|?_
       have b1 := bz.mono am
       refine Eq Z (ge (T := (Ty.sl fM)) b1 Z Z)<|Em Z<|fb<|fA<|?_
       refine fY (fun ce t d j => ∃ (n : Int) (F : Array MapEntry) (R : Nat) (N : ad0) (E : SV) (M : ad9) (O : List (List Value)), [(0, (Vp f)), (1, (sv u)), (2, (sv w)), (7, (Vi o)), (9, (.string g)), (10, (Vi a)), (11, (Vp y)), (56, (Vi (c.length : Int))), (57, (Vi a)), (102, (Vi (c.length : Int))), (103, (Vi n))] = t ∧ (.blk f 84 [(sv h), (.bool e), .nilFunc, (.map (some b)), (sv E)]) :: (.blk y 120 (fh i z A)) :: (.obj b (.map F R)) :: (.row (sv E) 67 6 O.flatten) :: G = j ∧ lp3 (zQ p1 p2 o g a c e i L rc) ce n N M = some (r, s, p) ∧ MapR Ty.bool Value.string d F N ∧ RowR fO d O M) BIG ?_ ?_
       ·exact Pu3<|Pu3<|Pu3<|Pu3<|Sd<|⟨_, by exact R11, 0, aS, bn, a8, bh, a4, bd, Z, Z, H, cC, cH⟩
       rintro ce _ ct _ an ⟨n, F, R, N, E, M, O, rfl, rfl, H, aY, a0⟩
       obtain ⟨d8, bG, rfl, cN, H⟩ := pq H
       unfold zQ at H
       refine fc<|fa<|Ec Z<|fb<|fc<|?_
       refine fm Z ?_ ?_
       ·intro aD
        obtain ⟨aD, H⟩ := It aD H
        refine ft ?_
        refine fz (fun t d j => ∃ (aT : Array MapEntry) (bo : Nat) (ba : ad0) (bj : SV) (a6 : ad9) (be : List (List Value)), [(0, (Vp f)), (1, (sv u)), (2, (sv w)), (7, (Vi o)), (9, (.string g)), (10, (Vi a)), (11, (Vp y)), (56, (Vi (c.length : Int))), (57, (Vi a)), (102, (Vi (c.length : Int))), (103, (Vi n))] = t ∧ (.blk f 84 [(sv h), (.bool e), .nilFunc, (.map (some b)), (sv bj)]) :: (.blk y 120 (fh i z A)) :: (.obj b (.map aT bo)) :: (.row (sv bj) 67 6 be.flatten) :: G = j ∧ vM p1 p2 o g a c n e i L bG rc ba a6 = some (r, s, p) ∧ MapR Ty.bool Value.string d aT ba ∧ RowR fO d be a6) ?_ ?_
        ·refine fA<|fc<|fa<|Em Z<|Ea Z<|fb<|fc<|fa<|Em Z<|Em Z<|Em Z<|Em Z<|?_
         obtain ⟨ax, dF, ds, H⟩ := iw H
         refine Ow.shift (Pu3 (Sd ?_))
         refine Ow.shift (Pu3 (Sd ?_))
         refine Ow.shift (Pu2 (Sd ?_))
         have b2 := b1.mono an
         have b3 := (bA.mono am).mono an
         refine fe Z (Ek Tryz.call59 Z (Be f c h e N b F R M E O p1 u n o ax dF ds _ _ b2 aY a0 b3) ?_)
         rintro _ _ _ - ⟨bk, bl, rfl, rfl, rfl, c7, c8⟩
         refine Em Z<|Ex Z<|Ex Z<|?_
         refine fe Z (fD (cs := (fh (fp.mk (Op.mk 0 0 0 0 0 [] []) (Result.mk 0 0 0 false 0) 0 0) fB fB)) Z Z Z Z (fun bM => ?_))
         refine fe Z (Sa (fh ax bk bl) Z .here Z ?_)
         refine Ea Z<|fb<|fc<|?_
         refine fz (fun t d j => ∃ (bK : Bool), [(0, (Vp f)), (1, (sv u)), (2, (sv w)), (7, (Vi o)), (9, (.string g)), (10, (Vi a)), (11, (Vp y)), (17, (Vi n)), (18, (Vp bM)), (56, (Vi (c.length : Int))), (57, (Vi a)), (102, (Vi (c.length : Int))), (103, (Vi n)), (120, (.bool bK))] = t ∧ ct = d ∧ (.blk f 84 [(sv h), (.bool e), .nilFunc, (.map (some b)), (sv E)]) :: (.blk bM 120 (fh ax bk bl)) :: (.blk y 120 (fh i z A)) :: (.obj b (.map F R)) :: (.row (sv E) 67 6 O.flatten) :: G = j ∧ vN p1 p2 o g a n c e M ax i N L bG rc bK = some (r, s, p)) ?_ ?_
         ·refine fa<|Em Z<|Eq Z (gf Z)<|Em Z<|?_
          refine Ee Z ?_ ?_
          ·intro W
           have W := iv W
           have H := f0 (btf W) H
           exact Ez Z<|Ez Z<|Ez Z<|Et Z<|fb<|Pu3<|Pu3<|Pu4<|Pu3<|Pu4<|Sd<|⟨_, by exact R14, true, Z, Z, Z, H⟩
          ·intro W
           have W := ir W
           have H := ift W H
           exact Vm Z<|Vm Z<|Vc Z<|Ef Z<|fb<|Pu3<|Pu3<|Pu4<|Pu3<|Pu4<|Sd<|⟨_, by exact R14, (dcd (n = a)), Z, Z, Z, H⟩
         rintro _ _ _ - ⟨bK, rfl, rfl, rfl, H⟩
         unfold vN at H
         refine fm Z ?_ ?_
         ·intro bs
          have H := ift bs H
          exact f5<|Pu4<|Pu4<|Pu4<|Pu3<|Re4<|Sd<|⟨_, by exact R11, F, R, N, E, M, O, Z, Z, H, aY, a0⟩
         ·intro bs
          have H := f0 (btf bs) H
          refine ft<|fc<|fa<|Em Z<|EL 14 (fh i z A) Z (Rb2 Z)<|EL 14 (fh ax bk bl) Z (Rb1 Z)<|?_
          obtain ⟨bL, dt, H⟩ := bnd H
          have b4 := (((bD.mono D).mono ak).mono am).mono an
          have c9 := (bB.mono am).mono an
          have da := (bC.mono am).mono an
          refine fe Z (Ek Tryz.call63 Z (yL p2 w i z A ax bk bl bL dt _ _ b4 c9 da c7 c8) ?_)
          rintro _ dP _ ao ⟨ci, rfl, rfl, b5⟩
          refine Eq Z (ge (T := gu) b5 Z Z)<|Em Z<|fb<|fA<|?_
          refine fY (fun cf t d j => ∃ (aH : Int) (aA : Array MapEntry) (aQ : Nat) (aJ : ad0) (aN : SV) (aI : ad9) (aL : List (List Value)), [(0, (Vp f)), (1, (sv u)), (2, (sv w)), (7, (Vi o)), (9, (.string g)), (10, (Vi a)), (11, (Vp y)), (17, (Vi n)), (56, (Vi (c.length : Int))), (57, (Vi a)), (102, (Vi (c.length : Int))), (103, (Vi n)), (124, (sv ci)), (125, (Vi (bL.length : Int))), (126, (Vi aH))] = t ∧ (.blk f 84 [(sv h), (.bool e), .nilFunc, (.map (some b)), (sv aN)]) :: (.blk y 120 (fh i z A)) :: (.obj b (.map aA aQ)) :: (.row (sv aN) 67 6 aL.flatten) :: (.tok 131 10 [(sv ci)]) :: G = j ∧ lp3 (zP p1 p2 o g a n c bL e i L bG rc) cf aH aJ aI = some (r, s, p) ∧ MapR Ty.bool Value.string d aA aJ ∧ RowR fO d aL aI) BIG ?_ ?_
          ·refine Pu5<|Pu5<|Pu5<|Pu4<|Re5<|?_
           have db := aY.mono ao
           have dc := a0.mono ao
           exact Sd ⟨_, by exact R15, 0, F, R, N, E, M, O, Z, Z, H, db, dc⟩
          rintro cf _ cu _ aF ⟨aH, aA, aQ, aJ, aN, aI, aL, rfl, rfl, H, bS, bV⟩
          obtain ⟨d9, d5, rfl, cO, H⟩ := pq H
          unfold zP at H
          refine fc<|fa<|Ec Z<|fb<|fc<|?_
          refine fm Z ?_ ?_
          ·intro aE
           obtain ⟨aE, H⟩ := It aE H
           refine ft<|fc<|fA<|fc<|fa<|?_
           obtain ⟨x, cb, H⟩ := bnd H
           have b6 := b5.mono aF
           obtain ⟨_, rfl, cK⟩ := Slr.at b6 cb
           refine Eq Z (Qi (T := gu) b6 cb Z)<|EL 10 (gV x) Z (Rdc.k cK Z)<|?_
           refine fe Z (fD (cs := (gV (gp.mk (Result.mk 0 0 0 false 0) (Result.mk 0 0 0 false 0)))) Z Z Z Z (fun dY => ?_))
           refine fe Z (Sa (gV x) Z .here Z ?_)
           refine fb<|fc<|fa<|Em Z<|Em Z<|Em Z<|Em Z<|Eq Z (gA (q := 0) (m := 0) Z Z Z Z Z (by decide) Z (by decide))<|EL 5 (ff x.x0) Z (Rb0 Z)<|Eq Z (fG (cs := (fF (Done.mk a x.x0))) Z Z Z Z Z Z)<|Em Z<|Eq Z (gA (q := 1) (m := 5) Z Z Z Z Z (by decide) Z (by decide))<|EL 5 (ff x.x1) Z (Rb0 Z)<|Eq Z (fG (cs := (fF (Done.mk n x.x1))) Z Z Z Z Z Z)<|?_
           have bW : RowR fO cu [(fF (Done.mk a x.x0)), (fF (Done.mk n x.x1))] [(Done.mk a x.x0), (Done.mk n x.x1)] := RowR.cons Z (RowR.cons Z (RowR.nil))
           refine fe Z (gh (T := fO) (rows := [(fF (Done.mk a x.x0)), (fF (Done.mk n x.x1))]) (l := [(Done.mk a x.x0), (Done.mk n x.x1)]) Z Z Z bW Z Z Z Z Z Z Z Z (fun dC => ?_))
           refine Ow.shift (Shift.settle (T := fO) .here bW Z (fun dQ ap dd => Sd ?_))
           obtain ⟨dG, cp, cq, du, H⟩ := j7 H
           refine Ow.shift (Pu5 (Sd ?_))
           refine Ow.shift (Pu5 (Sd ?_))
           refine Ow.shift (Pu4 (Sd ?_))
           have de := ((b2.mono ao).mono aF).mono ap
           have df := bS.mono ap
           have dg := bV.mono ap
           have dh := ((b3.mono ao).mono aF).mono ap
           have di := ((b4.mono ao).mono aF).mono ap
           have dj := ((((((bE.mono D).mono ak).mono am).mono an).mono ao).mono aF).mono ap
           refine fe Z (Ek Tryz.call62 Z (Bg rc ih f c h e aJ b aA aQ aI aN aL p1 u p2 w [(Done.mk a x.x0), (Done.mk n x.x1)] dC dG cp cq du _ _ de df dg dh di dd dj) ?_)
           rintro _ dR _ d1 ⟨cj, cg, bP, bN, rfl, rfl, b7, b8⟩
           refine fb ?_
           refine fm Z ?_ ?_
           ·intro bt
            have H := ift bt H
            refine fc<|fa<|Ea Z<|fb<|fx<|?_
            obtain ⟨aV, aW, aU⟩ := jq H
            subst r s p
            refine ⟨(.inl Z), [(.bool true)], ⟨(.bool true), _, Z, Z, Z⟩, ?_⟩
            exact Pu2<|Pu2<|Pu2<|Re3<|Re3<|Re3<|Re3<|Sd<|⟨cj, cg, bP, bN, Z, Z, b7, b8⟩
           ·intro bt
            have H := f0 (btf bt) H
            exact ft<|fa<|Er (wI (aH + 1)) Z<|Em Z<|fb<|Pu6<|Pu2<|Pu3<|Pu6<|Pu4<|Re5<|Re5<|Sd<|⟨_, by exact R15, _, Nat.lt_succ_self _, (wI (aH + 1)), bP, bN, cq, cj, cp, cg, Z, Z, (cO ▸ H), b8, b7⟩
          ·intro aE
           obtain ⟨aE, H⟩ := If aE H
           exact f5<|Pu3<|Pu3<|Pu3<|Pu3<|Re4<|Sd<|⟨_, by exact R11, aA, aQ, aJ, aN, aI, aL, Z, Z, H, bS, bV⟩
        rintro _ dS _ d2 ⟨aT, bo, ba, bj, a6, be, rfl, rfl, H, cD, cI⟩
        unfold vM at H
        exact fa<|Er (wI (n + 1)) Z<|Em Z<|fb<|Pu3<|Pu3<|Pu3<|Pu3<|Sd<|⟨_, by exact R11, _, Nat.lt_succ_self _, (wI (n + 1)), aT, bo, ba, bj, a6, be, Z, Z, (cN ▸ H), cD, cI⟩
       ·intro aD
        obtain ⟨aD, H⟩ := If aD H
        exact f5<|Pu3<|Pu3<|Pu2<|Re3<|Sd<|⟨_, by exact R7, F, R, N, E, M, O, Z, Z, H, aY, a0⟩
     rintro _ dT _ d3 ⟨aR, bm, a7, bg, a3, bc, rfl, rfl, H, cB, cG⟩
     unfold vL at H
     exact fa<|Er (wI (a + 1)) Z<|Em Z<|fb<|Pu2<|Pu2<|Pu2<|Sd<|⟨_, by exact R7, _, Nat.lt_succ_self _, (wI (a + 1)), aR, bm, a7, bg, a3, bc, Z, Z, (cL ▸ H), cB, cG⟩
    ·intro aB
     obtain ⟨aB, H⟩ := If aB H
     exact f5<|Pu2<|Pu2<|Pu2<|Sd<|⟨_, by exact R2, U, ai, ad, ah, ac, ag, Z, Z, H, aX, aZ⟩
   rintro _ dU _ d4 ⟨bp, bO, bI, bf, bH, bb, rfl, rfl, H, cA, cF⟩
   unfold zO at H
   refine fc<|fa<|Em Z<|Eq Z (fC Z)<|EF 3 Z<|El (.map (some b)) Z (Rb0 Z)<|Em Z<|?_
   refine fe Z (ym (T := Ty.bool) (kv := Value.string) (k := g) (x1 := true) (KeyK.str Z) cA Mb1 Z Z Z Z Z (fun cz cw cE => ⟨_, (.there .here), ?_⟩))
   refine fb<|fc<|fa<|Ea Z<|fb<|fx<|?_
   obtain ⟨aV, aW, aU⟩ := jq H
   subst r s p
   refine ⟨(.inl Z), [(.bool false)], ⟨(.bool false), _, Z, Z, Z⟩, ?_⟩
   exact Pu1<|Pu2<|Pu2<|Sd<|⟨bf, bb, cz, cw, Z, Z, cF, cE⟩
theorem yM (p0 : fQ) (c d : SV) (p1 : ae8) (C : SV) (p2 : ad8) (D : SV) (f : ad9) (g : Bool) (H : oh p0 p1 p2 = some (f, g)) (K : Kp) (G : List Ent) (L : Slr Ty.i64 K (sv c) p0.capacities) (M : Slr Ty.u64 K (sv d) p0.starts) (N : Slr (Ty.sl gR) K (sv C) p1) (ao : Slr f4 K (sv D) p2) (hT : li K) :
  Fc Tryz.prog 14 #[(.agg (fq p0 c d).toArray), (sv C), (sv D)] K (G) (fun v h u => ∃ (V : SV) (U : List (List Value)), v = (.tuple #[(sv V), (.bool g)]) ∧ (.row (sv V) 67 6 U.flatten) :: G = u ∧ RowR fO h U f) := by
 refine fN Tryz.func14 Z Tryz.ntmps14 Tryz.results14 Z ?_
 unfold oh at H
 refine fc<|fa<|?_
 refine fe Z (fU (cs := (fq p0 c d)) Z Z Z (fun a2 => ?_))
 refine Ea Z<|Ea Z<|fb<|fc<|fa<|Em Z<|Em Z<|?_
 obtain ⟨o, aW, E, aN, H⟩ := j7 H
 refine fe Z (Ek Tryz.call28 Z (yE p1 C p2 D o aW E aN _ _ N ao) ?_)
 rintro _ aX _ a ⟨i, n, e, J, F, rfl, rfl, O, P⟩
 refine Ea Z<|fb<|fc<|fa<|Em Z<|Eq Z (fC Z)<|EF 1 Z<|?_
 refine fe Z (So [(.bool true)] [(sv n), (.bool true), .nilFunc, (.map (some e)), (sv fB)] Z (.there .here) Z ?_)
 refine fb<|fc<|?_
 refine fz (fun ad h u => ∃ (B : Bool) (w : Array MapEntry) (I : Nat) (A : ad0) (b : SV) (z : ad9) (m : List (List Value)), [(8, (Vp i)), (22, (.bool B))] = ad ∧ (.blk i 84 [(sv n), (.bool true), .nilFunc, (.map (some e)), (sv b)]) :: (.obj e (.map w I)) :: (.row (sv b) 67 6 m.flatten) :: G = u ∧ vP o B A z = some (f, g) ∧ MapR Ty.bool Value.string h w A ∧ RowR fO h m z) ?_ ?_
 ·obtain ⟨W, Q, H⟩ := bnd H
  obtain ⟨p, R, H⟩ := bnd H
  obtain ⟨q, s, t, S, H⟩ := j7 H
  refine fw _ Z (Ic Mb2 In0)<|Jm 0 Z<|Jm 1 Z<|?_
  have ap := N.mono a
  refine Jq 2 Z (ge (T := (Ty.sl gR)) ap Z Z)<|JL 4 3 (fq p0 c d) Z (Rb0 Z)<|?_
  refine gW 3 5 (by kernel_rfl) ?_ ?_
  ·refine id (Jy Z ?_)
   refine jw (T := Ty.i64) (r := [(Vi 0)]) Z Z Z Q Z Z Z Z Z Z Z Z Z Z (fun aQ a9 aj a7 => ⟨(Ic Mb3 In0), ?_⟩)
   refine Ao 5 Z ?_
   have aq := L.mono a
   have ar := M.mono a
   refine Ek Tryz.call30 Z (nn p0 c d p R _ _ aq ar) ?_
   rintro _ aY _ j ⟨aR, rfl, rfl, au⟩
   refine ⟨(Ic Mb4 In0), ?_⟩
   refine Ao 6 Z ?_
   have aw := aj.mono j
   refine OpW.shift (Shift.settle (T := Ty.i64) (.there .here) aw Z (fun X k av => Sd ?_))
   have ak : RowR fO X [] [] := RowR.nil
   refine OpW.shift (Shift.nilRow 67 6 (Sd ?_))
   refine OpW.shift (Pu3 (Sd ?_))
   refine OpW.shift (Pu4 (Sd ?_))
   have ax := (O.mono j).mono k
   have ay := (P.mono j).mono k
   have az := au.mono k
   have aA := ((hT.mono a).mono j).mono k
   refine Ek Tryz.call29 Z (AY 100 i o n true E e J F ([] : ad9) fB ([] : List (List Value)) W aQ p aR q s t S _ _ ax ay ak av az aA) ?_
   rintro _ aZ _ a3 ⟨aS, aO, ae, ab, rfl, rfl, aB, aC⟩
   refine ⟨(Ic Mb5 In0), ?_⟩
   exact Jq 7 Z (gf Z)<|Ad<|Pu1<|Pu2<|Pu2<|Re3<|Re3<|Re3<|Sd<|⟨_, by exact R2, (!(q)), ae, ab, t, aS, s, aO, Z, Z, H, aC, aB⟩
  ·refine id (Jy Z ?_)
   have aD := L.mono a
   have aE := M.mono a
   refine Ek Tryz.call30 Z (nn p0 c d p R _ _ aD aE) ?_
   rintro _ a0 _ y ⟨aT, rfl, rfl, aF⟩
   refine ⟨(Ic Mb3 In0), ?_⟩
   refine Ao 3 Z ?_
   refine jw (T := Ty.i64) (r := [(Vi 0)]) Z Z Z Q Z Z Z Z Z Z Z Z Z Z (fun aU ba al a8 => ⟨(Ic Mb4 In0), ?_⟩)
   refine Ao 6 Z ?_
   refine OpW.shift (Shift.settle (T := Ty.i64) .here al Z (fun Y l aG => Sd ?_))
   have am : RowR fO Y [] [] := RowR.nil
   refine OpW.shift (Shift.nilRow 67 6 (Sd ?_))
   refine OpW.shift (Pu3 (Sd ?_))
   refine OpW.shift (Pu4 (Sd ?_))
   have aH := (O.mono y).mono l
   have aI := (P.mono y).mono l
   have aJ := aF.mono l
   have aK := ((hT.mono a).mono y).mono l
   refine Ek Tryz.call29 Z (AY 100 i o n true E e J F ([] : ad9) fB ([] : List (List Value)) W aU p aT q s t S _ _ aH aI am aG aJ aK) ?_
   rintro _ a1 _ a4 ⟨aV, aP, af, ac, rfl, rfl, aL, aM⟩
   refine ⟨(Ic Mb5 In0), ?_⟩
   exact Jq 7 Z (gf Z)<|Ad<|Pu1<|Pu2<|Pu2<|Re3<|Re3<|Re3<|Sd<|⟨_, by exact R2, (!(q)), af, ac, t, aV, s, aP, Z, Z, H, aM, aL⟩
 rintro _ aa _ a5 ⟨B, w, I, A, b, z, m, rfl, rfl, H, a6, ai⟩
 unfold vP at H
 refine fm Z ?_ ?_
 ·intro x
  have H := ift x H
  refine fc<|fa<|Ea Z<|Ea Z<|fb<|fx<|?_
  obtain ⟨ag, ah⟩ := ic H
  subst f g
  refine ⟨(.inl Z), [(sv fB), (.bool false)], ⟨(sv fB), _, Z, Z, ⟨(.bool false), _, Z, Z, Z⟩⟩, ?_⟩
  have an : RowR fO aa [] [] := RowR.nil
  exact Shift.nilRow 67 6<|Re1<|Re1<|Re1<|Sd<|⟨fB, ([] : List (List Value)), Z, Z, an⟩
 ·intro x
  have H := f0 (btf x) H
  refine ft<|fc<|fa<|Em Z<|Eq Z (fC Z)<|EF 4 Z<|El (sv b) Z (Rb0 Z)<|Ea Z<|Ea Z<|fb<|fx<|?_
  obtain ⟨ag, ah⟩ := ic H
  subst f g
  refine ⟨(.inl Z), [(sv b), (.bool true)], ⟨(sv b), _, Z, Z, ⟨(.bool true), _, Z, Z, Z⟩⟩, ?_⟩
  exact Pu2<|Re1<|Re1<|Sd<|⟨b, m, Z, Z, ai⟩
theorem xF (p0 : fQ) (a b : SV) (p1 : ae8) (c : SV) (p2 : ad8) (d : SV) (e : Bool) (H : sE p0 p1 p2 = some e) (K : Kp) (G : List Ent) (g : Slr Ty.i64 K (sv a) p0.capacities) (h : Slr Ty.u64 K (sv b) p0.starts) (i : Slr (Ty.sl gR) K (sv c) p1) (j : Slr f4 K (sv d) p2) (hT : li K) :
  Fc Tryz.prog 9 #[(.agg (fq p0 a b).toArray), (sv c), (sv d)] K (G) (fun v l f => v = (.bool e) ∧ G = f) := by
 refine fN Tryz.func9 Z Tryz.ntmps9 Tryz.results9 Z ?_
 unfold sE at H
 refine fc<|fa<|?_
 refine fe Z (fU (cs := (fq p0 a b)) Z Z Z (fun n => ?_))
 refine Ea Z<|fb<|fc<|fa<|EL 3 (fq p0 a b) Z (Rb0 Z)<|Em Z<|Em Z<|?_
 obtain ⟨x11, x12, k, H⟩ := iw H
 refine fe Z (Ek Tryz.call14 Z (yM p0 a b p1 c p2 d x11 x12 k _ _ g h i j hT) ?_)
 rintro _ m _ p ⟨s, r, rfl, rfl, q⟩
 refine Em Z<|Ex Z<|Ex Z<|Ea Z<|Ea Z<|fb<|fc<|fa<|Em Z<|Ea Z<|fb<|fx<|?_
 obtain o := gq H
 subst e
 refine ⟨(.inl Z), [(.bool x12)], ⟨(.bool x12), _, Z, Z, Z⟩, ?_⟩
 exact Re0<|Re0<|Sd<|⟨Z, Z⟩
theorem Ej (m : Nat) (h : af0) (e : SV) (d : Bool) (a : Nat) (u : ae0) (q : SV) (y : ad0) (b : Nat) (n : Array MapEntry) (w : Nat) (z : ad9) (c : SV) (p : List (List Value)) (p1 : ad2) (B : SV) (r : Int) (s : Bool) (H : v8 h d u y z p1 = some (r, s)) (K : Kp) (G : List Ent) (ad : Slr (Ty.sl fM) K (sv e) h) (aE : Slr fJ K (sv q) u) (aF : MapR Ty.bool Value.string K n y) (aG : RowR fO K p z) (au : Slr Ty.i64 K (sv B) p1) :
  Fc Tryz.prog 57 #[(Vp m), (sv B)] K ((.blk m 84 [(sv e), (.bool d), (.func (.func 38) #[] #[(Vp a)]), (.map (some b)), (sv c)]) :: (.blk a 58 [(sv q)]) :: (.obj b (.map n w)) :: (.row (sv c) 67 6 p.flatten) :: G) (fun v t f => v = (.tuple #[(Vi r), (.bool s)]) ∧ (.blk a 58 [(sv q)]) :: (.blk m 84 [(sv e), (.bool d), (.func (.func 38) #[] #[(Vp a)]), (.map (some b)), (sv c)]) :: (.obj b (.map n w)) :: (.row (sv c) 67 6 p.flatten) :: G = f) := by
 refine fN Tryz.func57 Z Tryz.ntmps57 Tryz.results57 Z ?_
 unfold v8 at H
 refine fc<|fa<|Ea Z<|Ea Z<|fb<|fc<|fa<|Ea Z<|Ea Z<|fb<|?_
 refine fz (fun i t f => ∃ (F : Int) (J : Bool), [(6, (Vi F)), (7, (.bool J))] = i ∧ (.blk m 84 [(sv e), (.bool d), (.func (.func 38) #[] #[(Vp a)]), (.map (some b)), (sv c)]) :: (.blk a 58 [(sv q)]) :: (.obj b (.map n w)) :: (.row (sv c) 67 6 p.flatten) :: G = f ∧ Ab h d z u y F J = some (r, s)) ?_ ?_
 ·refine fc<|fa<|Em Z<|Eq Z (fC Z)<|EF 0 Z<|El (sv e) Z (Rb0 Z)<|Eq Z (ge (T := (Ty.sl fM)) ad Z Z)<|Em Z<|fb<|fA<|?_
  refine fY (fun al i t f => ∃ (I : Int) (L : Bool) (g : Int), [(1, (sv B)), (6, (Vi I)), (7, (.bool L)), (15, (sv e)), (16, (Vi (h.length : Int))), (17, (Vi g))] = i ∧ (.blk m 84 [(sv e), (.bool d), (.func (.func 38) #[] #[(Vp a)]), (.map (some b)), (sv c)]) :: (.blk a 58 [(sv q)]) :: (.obj b (.map n w)) :: (.row (sv c) 67 6 p.flatten) :: G = f ∧ lp3 (Af p1 h d z u y) al I L g = some (r, s)) BIG ?_ ?_
  ·exact Pu3<|Pu3<|Pu3<|Pu3<|Sd<|⟨_, by exact R6, 0, false, 0, Z, Z, H⟩
  rintro al _ Y _ ab ⟨I, L, g, rfl, rfl, H⟩
  obtain ⟨aJ, R, rfl, ar, H⟩ := pq H
  unfold Af at H
  refine fc<|fa<|Ec Z<|fb<|fc<|?_
  refine fm Z ?_ ?_
  ·intro C
   obtain ⟨C, H⟩ := It C H
   refine ft ?_
   refine fz (fun i t f => ∃ (M : Int) (N : Bool), [(1, (sv B)), (6, (Vi M)), (7, (.bool N)), (15, (sv e)), (16, (Vi (h.length : Int))), (17, (Vi g))] = i ∧ (.blk m 84 [(sv e), (.bool d), (.func (.func 38) #[] #[(Vp a)]), (.map (some b)), (sv c)]) :: (.blk a 58 [(sv q)]) :: (.obj b (.map n w)) :: (.row (sv c) 67 6 p.flatten) :: G = f ∧ Ac p1 h g d z u y R M N = some (r, s)) ?_ ?_
   ·refine fA<|fc<|fa<|Em Z<|?_
    obtain ⟨an, ah, H⟩ := bnd H
    have ae := ad.mono ab
    obtain ⟨aL, av, ao⟩ := Slr.at ae ah
    obtain ⟨U, rfl, af⟩ := av
    refine Eq Z (Qi (T := (Ty.sl fM)) ae ah Z)<|El (sv U) Z (Rdc.k ao Z)<|Ea Z<|Ea Z<|fb<|fc<|fa<|Em Z<|Em Z<|Em Z<|?_
    obtain ⟨X, ai, H⟩ := bnd H
    have ag := au.mono ab
    obtain ⟨_, rfl, ap⟩ := Slr.at ag ai
    refine Eq Z (Qi (T := Ty.i64) ag ai Z)<|El (Vi X) Z (Rdc.k ap Z)<|?_
    obtain ⟨O, aj, H⟩ := bnd H
    have Q := Slr.cutL af aj
    refine Eq Z (lg (T := fM) af aj Z Z Z Z Z)<|Eq Z (ge (T := fM) Q Z Z)<|Em Z<|fb<|fA<|?_
    refine fY (fun am i t f => ∃ (o : Int) (A : Bool) (j : Int), [(1, (sv B)), (6, (Vi o)), (7, (.bool A)), (15, (sv e)), (16, (Vi (h.length : Int))), (17, (Vi g)), (27, (sv (iR U 14 X.toNat an.length))), (28, (Vi (O.length : Int))), (29, (Vi j))] = i ∧ Y = t ∧ (.blk m 84 [(sv e), (.bool d), (.func (.func 38) #[] #[(Vp a)]), (.map (some b)), (sv c)]) :: (.blk a 58 [(sv q)]) :: (.obj b (.map n w)) :: (.row (sv c) 67 6 p.flatten) :: G = f ∧ lp3 (Ae p1 h g O d z u y R) am o A j = some (r, s)) BIG ?_ ?_
    ·exact Pu3<|Pu3<|Pu3<|Pu3<|Sd<|⟨_, by exact R9, I, L, 0, Z, Z, Z, H⟩
    rintro am _ _ _ - ⟨o, A, j, rfl, rfl, rfl, H⟩
    obtain ⟨aK, ax, rfl, ac, H⟩ := pq H
    unfold Ae at H
    refine fc<|fa<|Ec Z<|fb<|fc<|?_
    refine fm Z ?_ ?_
    ·intro D
     obtain ⟨D, H⟩ := It D H
     refine ft<|fc<|fA<|fc<|fa<|?_
     obtain ⟨l, ak, H⟩ := bnd H
     obtain ⟨aM, aw, aq⟩ := Slr.at Q ak
     obtain ⟨V, W, rfl, aH, aI⟩ := aw
     refine Eq Z (Qi (T := fM) Q ak Z)<|EL 14 (fh l V W) Z (Rdc.k aq Z)<|?_
     refine fe Z (fD (cs := (fh (fp.mk (Op.mk 0 0 0 0 0 [] []) (Result.mk 0 0 0 false 0) 0 0) fB fB)) Z Z Z Z (fun aa => ?_))
     refine fe Z (Sa (fh l V W) Z .here Z ?_)
     refine fb ?_
     refine fz (fun i t f => ∃ (S : Bool), [(1, (sv B)), (6, (Vi o)), (7, (.bool A)), (11, (Vp aa)), (15, (sv e)), (16, (Vi (h.length : Int))), (17, (Vi g)), (27, (sv (iR U 14 X.toNat an.length))), (28, (Vi (O.length : Int))), (29, (Vi j)), (45, (.bool S))] = i ∧ Y = t ∧ (.blk m 84 [(sv e), (.bool d), (.func (.func 38) #[] #[(Vp a)]), (.map (some b)), (sv c)]) :: (.blk a 58 [(sv q)]) :: (.blk aa 120 (fh l V W)) :: (.obj b (.map n w)) :: (.row (sv c) 67 6 p.flatten) :: G = f ∧ rQ p1 o A h g O j d z u l y R ax S = some (r, s)) ?_ ?_
     ·refine fa<|EF 13 Z<|El (Vi l.coming) Z (Rb0 Z)<|Ec Z<|Em Z<|?_
      refine Ee Z ?_ ?_
      ·intro E
       obtain ⟨E, H⟩ := It E H
       refine Vm Z<|Vq Z (gf Z)<|Vm Z<|?_
       refine Ee Z ?_ ?_
       ·intro x
        have x := iv x
        have H := f0 (btf x) H
        exact Ez Z<|Ez Z<|Ez Z<|Ez Z<|Vt Z<|Et Z<|fb<|Pu4<|Pu4<|Pu2<|Pu4<|Pu4<|Sd<|⟨_, by exact R11, true, Z, Z, Z, H⟩
       ·intro x
        have x := ir x
        have H := ift x H
        exact VF 13 Z<|Vl (Vi l.coming) Z (Rb0 Z)<|Vm Z<|Vc Z<|Vf Z<|Et Z<|fb<|Pu4<|Pu4<|Pu2<|Pu4<|Pu4<|Sd<|⟨_, by exact R11, (dcd (l.coming < o)), Z, Z, Z, H⟩
      ·intro E
       obtain ⟨E, H⟩ := If E H
       exact Ez Z<|Ez Z<|Ez Z<|ga Z Z Z Z rfl<|ga Z Z Z Z rfl<|ga Z Z Z Z rfl<|ga Z Z Z Z rfl<|Ez Z<|Ef Z<|fb<|Pu4<|Pu4<|Pu2<|Pu4<|Pu4<|Sd<|⟨_, by exact R11, false, Z, Z, Z, H⟩
     rintro _ _ _ - ⟨S, rfl, rfl, rfl, H⟩
     unfold rQ at H
     refine fm Z ?_ ?_
     ·intro P
      have H := ift P H
      exact fa<|EF 13 Z<|El (Vi l.coming) Z (Rb2 Z)<|Ea Z<|Ea Z<|fb<|fa<|Er (wI (j + 1)) Z<|Em Z<|fb<|Pu4<|Pu4<|Pu3<|Pu3<|Re4<|Sd<|⟨_, by exact R9, _, Nat.lt_succ_self _, l.coming, true, (wI (j + 1)), Z, Z, Z, (ac ▸ H)⟩
     ·intro P
      have H := f0 (btf P) H
      exact ft<|fa<|Er (wI (j + 1)) Z<|Em Z<|fb<|Pu4<|Pu4<|Pu3<|Pu3<|Re4<|Sd<|⟨_, by exact R9, _, Nat.lt_succ_self _, o, A, (wI (j + 1)), Z, Z, Z, (ac ▸ H)⟩
    ·intro D
     obtain ⟨D, H⟩ := If D H
     exact f5<|Pu3<|Pu3<|Pu3<|Pu3<|Sd<|⟨_, by exact R6, o, A, Z, Z, H⟩
   rintro _ ay _ aC ⟨M, N, rfl, rfl, H⟩
   unfold Ac at H
   exact fa<|Er (wI (g + 1)) Z<|Em Z<|fb<|Pu3<|Pu3<|Pu3<|Pu3<|Sd<|⟨_, by exact R6, _, Nat.lt_succ_self _, M, N, (wI (g + 1)), Z, Z, (ar ▸ H)⟩
  ·intro C
   obtain ⟨C, H⟩ := If C H
   exact f5<|Pu3<|Pu3<|Pu3<|Pu3<|Sd<|⟨_, by exact R2, I, L, Z, Z, H⟩
 rintro _ az _ aD ⟨F, J, rfl, rfl, H⟩
 unfold Ab at H
 refine fc<|fa<|Em Z<|Em Z<|Ea Z<|Ea Z<|fb<|fx<|?_
 obtain ⟨aA, aB⟩ := ic H
 subst r s
 refine ⟨(.inl Z), [(Vi F), (.bool J)], ⟨(Vi F), _, Z, Z, ⟨(.bool J), _, Z, Z, Z⟩⟩, ?_⟩
 exact Pu3<|Pu3<|Pu2<|Pu3<|Sd<|⟨Z, Z⟩
theorem Dx (p0 : ad1) (c : SV) (b : Nat) (p1 : ae0) (a : SV) (e : Bool) (H : oM p0 p1 = some e) (K : Kp) (G : List Ent) (g : Slr fH K (sv c) p0) (h : Slr fJ K (sv a) p1) :
  Fc Tryz.prog 38 #[(sv c), (Vp b)] K ((.blk b 58 [(sv a)]) :: G) (fun v j f => v = (.bool e) ∧ (.blk b 58 [(sv a)]) :: G = f) := by
 refine fN Tryz.func38 Z Tryz.ntmps38 Tryz.results38 Z ?_
 unfold oM at H
 refine fc<|fa<|Ea Z<|fb<|fc<|fa<|Em Z<|El (sv a) Z (Rb0 Z)<|?_
 obtain ⟨d, i, H⟩ := bnd H
 refine fe Z (Ek Tryz.call39 Z (DX p0 c p1 a d i _ _ g h) ?_)
 rintro _ k _ m ⟨rfl, rfl⟩
 refine Eq Z (gf Z)<|Ea Z<|fb<|fx<|?_
 obtain l := gq H
 subst e
 refine ⟨(.inl Z), [(.bool (!(d)))], ⟨(.bool (!(d))), _, Z, Z, Z⟩, ?_⟩
 exact Sd ⟨Z, Z⟩
theorem Ei  (m : Bool) (H : vQ = some m) (K : Kp) (G : List Ent) (hT : li K) :
  Fc Tryz.prog 7 #[] K (G) (fun v U n => v = (.bool m) ∧ G = n) := by
 refine fN Tryz.func7 Z Tryz.ntmps7 Tryz.results7 Z ?_
 unfold vQ at H
 refine fc<|fa<|Ea Z<|fb<|fc<|fa<|?_
 have B : RowR Ty.i64 K [[(Vi 1)]] [1] := RowR.cons Z (RowR.nil)
 refine fe Z (gh (T := Ty.i64) (rows := [[(Vi 1)]]) (l := [1]) Z Z Z B Z Z Z Z Z Z Z Z (fun a => ?_))
 have C : RowR Ty.u64 K [[(.int .u64 0)]] [0] := RowR.cons Z (RowR.nil)
 refine fe Z (gh (T := Ty.u64) (rows := [[(.int .u64 0)]]) (l := [0]) Z Z Z C Z Z Z Z Z Z Z Z (fun b => ?_))
 refine Ow.shift (Shift.settle (T := Ty.i64) (.there .here) B Z (fun aG w am => Sd ?_))
 have ao := C.mono w
 refine Ow.shift (Shift.settle (T := Ty.u64) .here ao Z (fun u x an => Sd ?_))
 refine Eq Z (fG (cs := (fq (fQ.mk [1] [0] 2) a b)) Z Z Z Z Z Z) ?_
 refine fe Z (fD (cs := (fq (fQ.mk [] [] 0) fB fB)) Z Z Z Z (fun aJ => ?_))
 refine fe Z (Sa (fq (fQ.mk [1] [0] 2) a b) Z .here Z ?_)
 refine fb<|fc<|fa<|Eq Z (fG (cs := (fj (Op.mk 1 0 0 5 0 [] []) fB fB)) Z Z Z Z Z Z)<|?_
 have D : RowR gR u [(fj (Op.mk 1 0 0 5 0 [] []) fB fB)] [(Op.mk 1 0 0 5 0 [] [])] := RowR.cons ⟨fB, fB, Z, (Slr.nil fW _), (Slr.nil Ty.i64 _)⟩ (RowR.nil)
 refine fe Z (gh (T := gR) (rows := [(fj (Op.mk 1 0 0 5 0 [] []) fB fB)]) (l := [(Op.mk 1 0 0 5 0 [] [])]) Z Z Z D Z Z Z Z Z Z Z Z (fun s => ?_))
 refine Eq Z (fG (cs := (fj (Op.mk 2 0 0 0 0 [] []) fB fB)) Z Z Z Z Z Z) ?_
 have E : RowR gR u [(fj (Op.mk 2 0 0 0 0 [] []) fB fB)] [(Op.mk 2 0 0 0 0 [] [])] := RowR.cons ⟨fB, fB, Z, (Slr.nil fW _), (Slr.nil Ty.i64 _)⟩ (RowR.nil)
 refine fe Z (gh (T := gR) (rows := [(fj (Op.mk 2 0 0 0 0 [] []) fB fB)]) (l := [(Op.mk 2 0 0 0 0 [] [])]) Z Z Z E Z Z Z Z Z Z Z Z (fun t => ?_))
 refine Ow.shift (Shift.settle (T := gR) (.there .here) D Z (fun aH j ap => Sd ?_))
 have Y := E.mono j
 refine Ow.shift (Shift.settle (T := gR) .here Y Z (fun o k X => Sd ?_))
 have aa := ap.mono k
 have y : RowR (Ty.sl gR) o [[(sv s)], [(sv t)]] [[(Op.mk 1 0 0 5 0 [] [])], [(Op.mk 2 0 0 0 0 [] [])]] := RowR.cons ⟨s, Z, aa⟩ (RowR.cons ⟨t, Z, X⟩ (RowR.nil))
 refine fe Z (gh (T := (Ty.sl gR)) (rows := [[(sv s)], [(sv t)]]) (l := [[(Op.mk 1 0 0 5 0 [] [])], [(Op.mk 2 0 0 0 0 [] [])]]) Z Z Z y Z Z Z Z Z Z Z Z (fun r => ?_))
 refine Ea Z<|fb<|fc<|fa<|Eq Z (fG (cs := (ff (Result.mk 2 (-1) 5 true 0))) Z Z Z Z Z Z)<|?_
 refine fe Z (fD (cs := (ff (Result.mk 0 0 0 false 0))) Z Z Z Z (fun aI => ?_))
 refine fe Z (Sa (ff (Result.mk 2 (-1) 5 true 0)) Z .here Z ?_)
 refine fb<|fc<|fa<|Eq Z (fG (cs := (fZ (Event.mk 1 0 false (Result.mk 0 0 0 false 0)))) Z Z Z Z Z Z)<|EL 5 (ff (Result.mk 2 (-1) 5 true 0)) Z (Rb0 Z)<|Eq Z (fG (cs := (fZ (Event.mk 1 0 true (Result.mk 2 (-1) 5 true 0)))) Z Z Z Z Z Z)<|Eq Z (fG (cs := (fZ (Event.mk 0 0 false (Result.mk 0 0 0 false 0)))) Z Z Z Z Z Z)<|?_
 have z : RowR f4 o [(fZ (Event.mk 1 0 false (Result.mk 0 0 0 false 0))), (fZ (Event.mk 1 0 true (Result.mk 2 (-1) 5 true 0))), (fZ (Event.mk 0 0 false (Result.mk 0 0 0 false 0)))] [(Event.mk 1 0 false (Result.mk 0 0 0 false 0)), (Event.mk 1 0 true (Result.mk 2 (-1) 5 true 0)), (Event.mk 0 0 false (Result.mk 0 0 0 false 0))] := RowR.cons Z (RowR.cons Z (RowR.cons Z (RowR.nil)))
 refine fe Z (gh (T := f4) (rows := [(fZ (Event.mk 1 0 false (Result.mk 0 0 0 false 0))), (fZ (Event.mk 1 0 true (Result.mk 2 (-1) 5 true 0))), (fZ (Event.mk 0 0 false (Result.mk 0 0 0 false 0)))]) (l := [(Event.mk 1 0 false (Result.mk 0 0 0 false 0)), (Event.mk 1 0 true (Result.mk 2 (-1) 5 true 0)), (Event.mk 0 0 false (Result.mk 0 0 0 false 0))]) Z Z Z z Z Z Z Z Z Z Z Z (fun av => ?_))
 refine Ea Z<|fb<|fc<|fa<|Eq Z (fG (cs := (fZ (Event.mk 0 0 false (Result.mk 0 0 0 false 0)))) Z Z Z Z Z Z)<|Eq Z (fG (cs := (fZ (Event.mk 1 0 false (Result.mk 0 0 0 false 0)))) Z Z Z Z Z Z)<|EL 5 (ff (Result.mk 2 (-1) 5 true 0)) Z (Rb1 Z)<|Eq Z (fG (cs := (fZ (Event.mk 1 0 true (Result.mk 2 (-1) 5 true 0)))) Z Z Z Z Z Z)<|?_
 have A : RowR f4 o [(fZ (Event.mk 0 0 false (Result.mk 0 0 0 false 0))), (fZ (Event.mk 1 0 false (Result.mk 0 0 0 false 0))), (fZ (Event.mk 1 0 true (Result.mk 2 (-1) 5 true 0)))] [(Event.mk 0 0 false (Result.mk 0 0 0 false 0)), (Event.mk 1 0 false (Result.mk 0 0 0 false 0)), (Event.mk 1 0 true (Result.mk 2 (-1) 5 true 0))] := RowR.cons Z (RowR.cons Z (RowR.cons Z (RowR.nil)))
 refine fe Z (gh (T := f4) (rows := [(fZ (Event.mk 0 0 false (Result.mk 0 0 0 false 0))), (fZ (Event.mk 1 0 false (Result.mk 0 0 0 false 0))), (fZ (Event.mk 1 0 true (Result.mk 2 (-1) 5 true 0)))]) (l := [(Event.mk 0 0 false (Result.mk 0 0 0 false 0)), (Event.mk 1 0 false (Result.mk 0 0 0 false 0)), (Event.mk 1 0 true (Result.mk 2 (-1) 5 true 0))]) Z Z Z A Z Z Z Z Z Z Z Z (fun R => ?_))
 refine Ea Z<|fb<|fc<|fa<|EL 3 (fq (fQ.mk [1] [0] 2) a b) Z (Rb6 Z)<|Em Z<|Em Z<|?_
 refine Ow.shift (Shift.settle (T := (Ty.sl gR)) (.there (.there (.there .here))) y Z (fun az g ab => Sd ?_))
 have ac := A.mono g
 refine Ow.shift (Shift.settle (T := f4) .here ac Z (fun aA h F => Sd ?_))
 obtain ⟨S, aw, aq, H⟩ := iw H
 have I := ((((am.mono x).mono j).mono k).mono g).mono h
 have J := (((an.mono j).mono k).mono g).mono h
 have L := ab.mono h
 have M := (((((hT.mono w).mono x).mono j).mono k).mono g).mono h
 refine fe Z (Ek Tryz.call14 Z (yM (fQ.mk [1] [0] 2) a b [[(Op.mk 1 0 0 5 0 [] [])], [(Op.mk 2 0 0 0 0 [] [])]] r [(Event.mk 0 0 false (Result.mk 0 0 0 false 0)), (Event.mk 1 0 false (Result.mk 0 0 0 false 0)), (Event.mk 1 0 true (Result.mk 2 (-1) 5 true 0))] R S aw aq _ _ I J L F M) ?_)
 rintro _ aB _ d ⟨aN, aM, rfl, rfl, ad⟩
 refine Em Z<|Ex Z<|Ex Z<|Ea Z<|Ea Z<|fb<|?_
 refine fz (fun V U n => ∃ (i : Bool), [(0, (.bool i))] = V ∧ G = n ∧ oi i = some m) ?_ ?_
 ·refine fa<|EL 3 (fq (fQ.mk [1] [0] 2) a b) Z (Rb7 Z)<|Em Z<|Em Z<|?_
  have af := ((z.mono g).mono h).mono d
  refine Ow.shift (Shift.settle (T := f4) (.there (.there .here)) af Z (fun aC e ae => Sd ?_))
  obtain ⟨ax, ar, H⟩ := bnd H
  have N := (I.mono d).mono e
  have O := (J.mono d).mono e
  have P := (L.mono d).mono e
  have Q := (M.mono d).mono e
  refine fe Z (Ek Tryz.call9 Z (xF (fQ.mk [1] [0] 2) a b [[(Op.mk 1 0 0 5 0 [] [])], [(Op.mk 2 0 0 0 0 [] [])]] r [(Event.mk 1 0 false (Result.mk 0 0 0 false 0)), (Event.mk 1 0 true (Result.mk 2 (-1) 5 true 0)), (Event.mk 0 0 false (Result.mk 0 0 0 false 0))] av ax ar _ _ N O P ae Q) ?_)
  rintro _ aD _ f ⟨rfl, rfl⟩
  refine Eq Z (gf Z)<|Em Z<|?_
  refine Ee Z ?_ ?_
  ·intro c
   have c := iv c
   have H := f0 (btf c) H
   refine VL 3 (fq (fQ.mk [1] [0] 2) a b) Z (Rb7 Z)<|Vm Z<|Vm Z<|?_
   obtain ⟨ay, au, H⟩ := bnd H
   have ag := N.mono f
   have ah := O.mono f
   have ai := P.mono f
   have aj := ((F.mono d).mono e).mono f
   have ak := Q.mono f
   refine hQ Z Z Z Z (Ek Tryz.call9 Z (xF (fQ.mk [1] [0] 2) a b [[(Op.mk 1 0 0 5 0 [] [])], [(Op.mk 2 0 0 0 0 [] [])]] r [(Event.mk 0 0 false (Result.mk 0 0 0 false 0)), (Event.mk 1 0 false (Result.mk 0 0 0 false 0)), (Event.mk 1 0 true (Result.mk 2 (-1) 5 true 0))] R ay au _ _ ag ah ai aj ak) ?_)
   rintro _ aE _ W ⟨rfl, rfl⟩
   refine Et Z<|Em Z<|?_
   refine Ee Z ?_ ?_
   ·intro p
    have H := ift p H
    refine Vm Z<|Et Z<|Em Z<|?_
    refine Ee Z ?_ ?_
    ·intro q
     have H := ift q H
     refine Vm Z ?_
     have al := ((ad.mono e).mono f).mono W
     exact Vq Z (lh (T := fO) Mb0 al Z Z Z)<|Vc Z<|Et Z<|Ea Z<|fb<|Re0<|Re0<|Re0<|Re0<|Re0<|Re0<|Re0<|Re0<|Re0<|Re0<|Sd<|⟨_, by exact R1, (dcd ((S.length : Int) = 2)), Z, Z, H⟩
    ·intro q
     have H := f0 (btf q) H
     exact Ez Z<|Ez Z<|Ez Z<|Ef Z<|Ea Z<|fb<|Re0<|Re0<|Re0<|Re0<|Re0<|Re0<|Re0<|Re0<|Re0<|Re0<|Sd<|⟨_, by exact R1, false, Z, Z, H⟩
   ·intro p
    have H := f0 (btf p) H
    exact Ez Z<|Ef Z<|Em Z<|Ez Z<|Ez Z<|Ez Z<|Ef Z<|Ea Z<|fb<|Re0<|Re0<|Re0<|Re0<|Re0<|Re0<|Re0<|Re0<|Re0<|Re0<|Sd<|⟨_, by exact R1, false, Z, Z, H⟩
  ·intro c
   have c := ir c
   have H := ift c H
   refine Ez Z<|Ez Z<|Ez Z<|Ez Z<|Ef Z<|Em Z<|Ez Z<|Ef Z<|Em Z<|Ez Z<|Ez Z<|Ez Z<|Ef Z<|Ea Z<|fb<|Re0<|Re0<|Re0<|Re0<|Re0<|Re0<|Re0<|?_
   exact Re0<|Re0<|Re0<|Sd<|⟨_, by exact R1, false, Z, Z, H⟩
 rintro _ aF _ aL ⟨i, rfl, rfl, H⟩
 unfold oi at H
 refine fx ?_
 obtain aK := gq H
 subst m
 refine ⟨(.inl Z), [(.bool i)], ⟨(.bool i), _, Z, Z, Z⟩, ?_⟩
 exact Sd ⟨Z, Z⟩
theorem qw (p0 : fQ) (e o : SV) (j : ad1) (H : pB p0 = some j) (K : Kp) (G : List Ent) (q : Slr Ty.i64 K (sv e) p0.capacities) (Q : Slr Ty.u64 K (sv o) p0.starts) :
  Fc Tryz.prog 27 #[(.agg (fq p0 e o).toArray)] K (G) (fun v b f => ∃ (z : SV) (t : List (List Value)), v = (sv z) ∧ (.row (sv z) 104 3 t.flatten) :: (.tok 36 1 (col 1 t)) :: G = f ∧ RowR fH b t j) := by
 refine fN Tryz.func27 Z Tryz.ntmps27 Tryz.results27 Z ?_
 unfold pB at H
 refine fc<|fa<|?_
 refine fe Z (fU (cs := (fq p0 e o)) Z Z Z (fun u => ?_))
 refine Ea Z<|fb<|fc<|fa<|Ea Z<|fb<|?_
 refine fz (fun p b f => ∃ (d : SV) (s : ad1) (i : List (List Value)), [(3, (sv d))] = p ∧ (.row (sv d) 104 3 i.flatten) :: (.tok 36 1 (col 1 i)) :: G = f ∧ zJ s = some j ∧ RowR fH b i s) ?_ ?_
 ·refine fc<|fa<|Ea Z<|fb<|fA<|?_
  refine fY (fun n148 p b f => ∃ (n : SV) (m : ad1) (c : List (List Value)) (h : Int), [(1, (Vp u)), (3, (sv n)), (4, (Vi h))] = p ∧ K = b ∧ (.blk u 27 (fq p0 e o)) :: (.row (sv n) 104 3 c.flatten) :: (.tok 36 1 (col 1 c)) :: G = f ∧ lp2 (yi p0) n148 m h = some j ∧ RowR fH b c m) BIG ?_ ?_
  ·have B : RowR fH K [] [] := RowR.nil
   exact Shift.nilRow 104 3<|Shift.tok0 36 1 1<|Pu1<|Pu2<|Sd<|⟨_, by exact R3, fB, ([] : ad1), ([] : List (List Value)), 0, Z, Z, Z, H, B⟩
  rintro n148 _ _ _ - ⟨n, m, c, h, rfl, rfl, rfl, H, w⟩
  obtain ⟨S, R, rfl, E, H⟩ := jC H
  unfold yi at H
  refine fc<|fc<|fa<|Em Z<|EF 0 Z<|El (sv e) Z (Rb0 Z)<|Eq Z (ge (T := Ty.i64) q Z Z)<|Ec Z<|fb<|?_
  refine fm Z ?_ ?_
  ·intro g
   obtain ⟨g, H⟩ := It g H
   refine ft<|fc<|fA<|fa<|Em Z<|EF 0 Z<|El (sv e) Z (Rb0 Z)<|Em Z<|?_
   obtain ⟨a, y, H⟩ := bnd H
   obtain ⟨_, rfl, D⟩ := Slr.at q y
   refine Eq Z (Qi (T := Ty.i64) q y Z)<|El (Vi a) Z (Rdc.k D Z)<|Eq Z (fG (cs := (fy (fL.mk a [] false) fB)) Z Z Z Z Z Z)<|?_
   have x : RowR fH K [(fy (fL.mk a [] false) fB)] [(fL.mk a [] false)] := RowR.cons ⟨fB, Z, (Slr.nil Ty.u64 _)⟩ (RowR.nil)
   refine fe Z (gh (T := fH) (rows := [(fy (fL.mk a [] false) fB)]) (l := [(fL.mk a [] false)]) Z Z Z x Z Z Z Z Z Z Z Z (fun U => ?_))
   obtain ⟨M, I, H⟩ := bnd H
   refine fe Z (B0 (T := fH) (bytes := 40) Z Z Z Mb2 w Mb0 x I Z Z Z Z Z Z Z Z (fun L J F C => ⟨_, (.there (.there .here)), ?_⟩))
   refine Ow.shift (Shift.tokNil (.there (.there (.there .here))) (Sd ?_))
   have hse := FP (k := 1) (rows := c) (r := (fy (fL.mk a [] false) fB)) (v := (sv fB)) Z
   rw [show (Value.slice none 0 0) = (sv fB) from rfl, hse, ← F]
   clear hse
   refine Ow.shift (Re0 (Sd ?_))
   exact Ea Z<|fb<|fa<|Em Z<|Er (wI (h + 1)) Z<|Ea Z<|fb<|Pu2<|Pu2<|Pu2<|Sd<|⟨_, by exact R3, _, Nat.lt_succ_self _, L, M, J, (wI (h + 1)), Z, Z, Z, (E ▸ H), C⟩
  ·intro g
   obtain ⟨g, H⟩ := If g H
   exact f5<|Pu2<|Pu2<|Re2<|Sd<|⟨_, by exact R1, n, m, c, Z, Z, H, w⟩
 rintro _ N _ P ⟨d, s, i, rfl, rfl, H, A⟩
 unfold zJ at H
 refine fc<|fa<|Em Z<|Ea Z<|fb<|fx<|?_
 obtain O := gq H
 subst j
 refine ⟨(.inl Z), [(sv d)], ⟨(sv d), _, Z, Z, Z⟩, ?_⟩
 exact Pu1<|Pu1<|Sd<|⟨d, i, Z, Z, A⟩
theorem lJ (p0 : ad1) (c : SV) (p1 : Int) (b : Bool) (H : qk p0 p1 = some b) (K : Kp) (G : List Ent) (g : Slr fH K (sv c) p0) :
  Fc Tryz.prog 107 #[(sv c), (Vi p1)] K (G) (fun v e d => v = (.bool b) ∧ K = e ∧ G = d) := by
 refine fN Tryz.func107 Z Tryz.ntmps107 Tryz.results107 Z ?_
 unfold qk at H
 refine fc<|fa<|Ea Z<|fb<|fc<|fa<|Em Z<|Ec Z<|Em Z<|?_
 refine Ee Z ?_ ?_
 ·intro a
  obtain ⟨a, H⟩ := It a H
  refine Vm Z<|Vm Z<|Vq Z (ge (T := fH) g Z Z)<|Vc Z<|Et Z<|Ea Z<|fb<|fx<|?_
  obtain f := gq H
  subst b
  refine ⟨(.inl Z), [(.bool (dcd (p1 < (p0.length : Int))))], ⟨(.bool (dcd (p1 < (p0.length : Int)))), _, Z, Z, Z⟩, ?_⟩
  exact Sd ⟨Z, Z, Z⟩
 ·intro a
  obtain ⟨a, H⟩ := If a H
  refine Ez Z<|Ez Z<|Ez Z<|Ez Z<|Ef Z<|Ea Z<|fb<|fx<|?_
  obtain f := gq H
  subst b
  refine ⟨(.inl Z), [(.bool false)], ⟨(.bool false), _, Z, Z, Z⟩, ?_⟩
  exact Sd ⟨Z, Z, Z⟩
theorem AZ (p0 : ad1) (j : SV) (p1 : Case) (c : Bool) (H : pL p0 p1 = some c) (K : Kp) (G : List Ent) (i : Slr fH K (sv j) p0) :
  Fc Tryz.prog 79 #[(sv j), (.agg (fl p1).toArray)] K (G) (fun v o n => v = (.bool c) ∧ K = o ∧ G = n) := by
 refine fN Tryz.func79 Z Tryz.ntmps79 Tryz.results79 Z ?_
 unfold pL at H
 refine fc<|fa<|?_
 refine fe Z (fU (cs := (fl p1)) Z Z Z (fun t => ?_))
 refine Ea Z<|fb<|fc<|fc<|fa<|Em Z<|EF 1 Z<|El (Vi p1.channel) Z (Rb0 Z)<|?_
 obtain ⟨s, r, H⟩ := bnd H
 refine fe Z (Ek Tryz.call107 Z (lJ p0 j p1.channel s r _ _ i) ?_)
 rintro _ _ _ - ⟨rfl, rfl, rfl⟩
 refine Eq Z (gf Z)<|fb<|?_
 refine fm Z ?_ ?_
 ·intro b
  have b := iv b
  have H := f0 (btf b) H
  refine fc<|fa<|Ea Z<|fb<|fx<|?_
  obtain d := gq H
  subst c
  refine ⟨(.inl Z), [(.bool false)], ⟨(.bool false), _, Z, Z, Z⟩, ?_⟩
  exact Re0<|Sd<|⟨Z, Z, Z⟩
 ·intro b
  have b := ir b
  have H := ift b H
  refine ft<|fc<|fa<|Em Z<|EF 1 Z<|El (Vi p1.channel) Z (Rb0 Z)<|?_
  obtain ⟨a, m, H⟩ := bnd H
  obtain ⟨r25, q, p⟩ := Slr.at i m
  obtain ⟨e, rfl, l⟩ := q
  refine Eq Z (Qi (T := fH) i m Z)<|EL 3 (fy a e) Z (Rdc.k p Z)<|?_
  refine fe Z (fD (cs := (fy (fL.mk 0 [] false) fB)) Z Z Z Z (fun u => ?_))
  refine fe Z (Sa (fy a e) Z .here Z ?_)
  refine fb<|fc<|fc<|fa<|EF 0 Z<|El (.bool p1.send) Z (Rb1 Z)<|fb<|?_
  refine fm Z ?_ ?_
  ·intro f
   have H := ift f H
   refine fc<|fa<|EF 2 Z<|El (.bool a.closed) Z (Rb0 Z)<|Em Z<|?_
   refine Ee Z ?_ ?_
   ·intro g
    have H := ift g H
    refine Ez Z<|Ez Z<|Ez Z<|Ez Z<|Ez Z<|Ez Z<|Et Z<|Ea Z<|fb<|fx<|?_
    obtain d := gq H
    subst c
    refine ⟨(.inl Z), [(.bool true)], ⟨(.bool true), _, Z, Z, Z⟩, ?_⟩
    exact Re0<|Re0<|Sd<|⟨Z, Z, Z⟩
   ·intro g
    have H := f0 (btf g) H
    refine VF 1 Z<|Vl (sv e) Z (Rb0 Z)<|Vq Z (ge (T := Ty.u64) l Z Z)<|VF 0 Z<|Vl (Vi a.capacity) Z (Rb0 Z)<|Vc Z<|Ef Z<|Ea Z<|fb<|fx<|?_
    obtain d := gq H
    subst c
    refine ⟨(.inl Z), [(.bool (dcd ((a.buffer.length : Int) < a.capacity)))], ⟨(.bool (dcd ((a.buffer.length : Int) < a.capacity))), _, Z, Z, Z⟩, ?_⟩
    exact Re0<|Re0<|Sd<|⟨Z, Z, Z⟩
  ·intro f
   have H := f0 (btf f) H
   refine ft<|fc<|fa<|EF 2 Z<|El (.bool a.closed) Z (Rb0 Z)<|Em Z<|?_
   refine Ee Z ?_ ?_
   ·intro h
    have H := ift h H
    refine Ez Z<|Ez Z<|Ez Z<|Ez Z<|Et Z<|Ea Z<|fb<|fx<|?_
    obtain d := gq H
    subst c
    refine ⟨(.inl Z), [(.bool true)], ⟨(.bool true), _, Z, Z, Z⟩, ?_⟩
    exact Re0<|Re0<|Sd<|⟨Z, Z, Z⟩
   ·intro h
    have H := f0 (btf h) H
    refine VF 1 Z<|Vl (sv e) Z (Rb0 Z)<|Vq Z (ge (T := Ty.u64) l Z Z)<|Vc Z<|Ef Z<|Ea Z<|fb<|fx<|?_
    obtain d := gq H
    subst c
    refine ⟨(.inl Z), [(.bool (dcd ((a.buffer.length : Int) > 0)))], ⟨(.bool (dcd ((a.buffer.length : Int) > 0))), _, Z, Z, Z⟩, ?_⟩
    exact Re0<|Re0<|Sd<|⟨Z, Z, Z⟩
theorem DL (p0 : fQ) (b c : SV) (d : f7) (H : rq p0 = some d) (K : Kp) (G : List Ent) (i : Slr Ty.i64 K (sv b) p0.capacities) (j : Slr Ty.u64 K (sv c) p0.starts) :
  Fc Tryz.prog 21 #[(.agg (fq p0 b c).toArray)] K (G) (fun v f h => ∃ (e g : SV), v = (.agg (fk d e g).toArray) ∧ (.tok 104 3 [(sv e)]) :: G = h ∧ Slr fH f (sv e) d.chans ∧ Slr fJ f (sv g) d.waiting) := by
 refine fN Tryz.func21 Z Tryz.ntmps21 Tryz.results21 Z ?_
 unfold rq at H
 refine fc<|fa<|?_
 refine fe Z (fU (cs := (fq p0 b c)) Z Z Z (fun o => ?_))
 refine fe Z (fD (cs := (fk (f7.mk [] [] 0) fB fB)) Z Z Z Z (fun p => ?_))
 refine fb<|fc<|fa<|EL 3 (fq p0 b c) Z (Rb1 Z)<|?_
 obtain ⟨x15, m, H⟩ := bnd H
 refine fe Z (Ek Tryz.call27 Z (qw p0 b c x15 m _ _ i j) ?_)
 rintro _ n _ r ⟨a, t, rfl, rfl, k⟩
 refine Ow.shift (Shift.settle (T := fH) .here k Z (fun K22 s l => Sd ?_))
 refine Eq Z (fG (cs := (fk (f7.mk x15 [] 0) a fB)) Z Z Z Z Z Z) ?_
 refine fe Z (Sa (fk (f7.mk x15 [] 0) a fB) Z (.there (.there .here)) Z ?_)
 refine fb<|fx<|?_
 obtain q := gq H
 subst d
 refine ⟨(.inl Z), [(.agg (fk (f7.mk x15 [] 0) a fB).toArray)], ⟨(.agg (fk (f7.mk x15 [] 0) a fB).toArray), _, Z, ⟨_, 3, (fk (f7.mk x15 [] 0) a fB), Z, Z, Z, Z, ⟨Z, Rb2 Z⟩, Z⟩, Z⟩, ?_⟩
 exact Re1<|Re1<|Re1<|Sd<|⟨a, fB, Z, Z, l, (Slr.nil fJ _)⟩
theorem nq (p0 : f7) (g a : SV) (p1 : Int) (p2 : fL) (c : SV) (e : f7) (H : pI p0 p1 p2 = some e) (K : Kp) (G : List Ent) (q : Slr fH K (sv g) p0.chans) (r : Slr fJ K (sv a) p0.waiting) (s : Slr Ty.u64 K (sv c) p2.buffer) :
  Fc Tryz.prog 73 #[(.agg (fk p0 g a).toArray), (Vi p1), (.agg (fy p2 c).toArray)] K (G) (fun v h n => ∃ (l : SV) (k : List (List Value)) (m : SV), v = (.agg (fk e l m).toArray) ∧ K = h ∧ (.row (sv l) 104 3 k.flatten) :: G = n ∧ RowR fH h k e.chans ∧ Slr fJ h (sv m) e.waiting) := by
 refine fN Tryz.func73 Z Tryz.ntmps73 Tryz.results73 Z ?_
 unfold pI at H
 refine fc<|fa<|?_
 refine fe Z (fU (cs := (fk p0 g a)) Z Z Z (fun x => ?_))
 refine fe Z (fU (cs := (fy p2 c)) Z Z Z (fun y => ?_))
 refine fe Z (fD (cs := (fk (f7.mk [] [] 0) fB fB)) Z Z Z Z (fun z => ?_))
 refine fb<|fc<|fa<|EF 0 Z<|El (sv g) Z (Rb2 Z)<|?_
 have o : RowR fH K [] [] := RowR.nil
 refine Ow.shift (Shift.nilRow 104 3 (Sd ?_))
 obtain ⟨d, u, H⟩ := bnd H
 refine fe Z (gZ (T := fH) (bytes := 40) Z Z Z Mb0 o (SrcT.sl q) u Z Z Z Z Z Z Z Z (fun b w f => ⟨_, .here, ?_⟩))
 refine EF 0 Z ?_
 refine fe Z (So [(sv b)] (fk (f7.mk d p0.waiting p0.tick) b a) Z (.there (.there (.there .here))) Z ?_)
 refine fb<|fc<|fa<|EF 0 Z<|El (sv b) Z (Rb3 Z)<|Em Z<|EL 3 (fy p2 c) Z (Rb2 Z)<|?_
 obtain ⟨F, j, H⟩ := bnd H
 obtain ⟨D, i, t⟩ := RowR.at f j
 obtain ⟨E, rfl, C⟩ := t
 refine Eq Z (gP (T := fH) Mb0 f i (fR j).1 Z Z Z Z Z) ?_
 refine fe Z (gX (T := fH) (vs := (fy p2 c)) (r' := (fy p2 c)) (l' := (gb d p1 p2)) Z Z Z Z Z .here f i Z Z Z (RowR.set p1 f ⟨c, Z, s⟩) (fun p => ?_))
 have B := iV i (v := (fy p2 c))
 refine fb<|fc<|fa<|EL 3 (fk (f7.mk (gb d p1 p2) p0.waiting p0.tick) b a) Z (Rb3 Z)<|?_
 refine fe Z (Sa (fk (f7.mk (gb d p1 p2) p0.waiting p0.tick) b a) Z (.there .here) Z ?_)
 refine fb<|fx<|?_
 obtain A := gq H
 subst e
 refine ⟨(.inl Z), [(.agg (fk (f7.mk (gb d p1 p2) p0.waiting p0.tick) b a).toArray)], ⟨(.agg (fk (f7.mk (gb d p1 p2) p0.waiting p0.tick) b a).toArray), _, Z, ⟨_, 3, (fk (f7.mk (gb d p1 p2) p0.waiting p0.tick) b a), Z, Z, Z, Z, ⟨Z, Rb1 Z⟩, Z⟩, Z⟩, ?_⟩
 exact Re1<|Re1<|Re1<|Sd<|⟨b, (w.set p1.toNat (fy p2 c)), a, Z, Z, Z, p, r⟩
theorem Bh (p0 : Op) (f g : SV) (d : Case) (e : Bool) (H : sU p0 = some (d, e)) (K : Kp) (G : List Ent) (u : Slr fW K (sv f) p0.cases) (w : Slr Ty.i64 K (sv g) p0.draws) :
  Fc Tryz.prog 81 #[(.agg (fj p0 f g).toArray)] K (G) (fun v i h => v = (.tuple #[(.agg (fl d).toArray), (.bool e)]) ∧ K = i ∧ G = h) := by
 refine fN Tryz.func81 Z Tryz.ntmps81 Tryz.results81 Z ?_
 unfold sU at H
 refine fc<|fa<|?_
 refine fe Z (fU (cs := (fj p0 f g)) Z Z Z (fun p => ?_))
 refine fe Z (fD (cs := (fl (Case.mk false 0 0))) Z Z Z Z (fun q => ?_))
 refine Ea Z<|fb<|fc<|?_
 refine fz (fun r i h => ∃ (o : Bool) (k l : Int) (a m : Int) (b i32 n : Int), [(1, (Vp p)), (2, (Vp q)), (11, (.bool o))] = r ∧ K = i ∧ (.blk q 108 (fl (Case.mk false k l))) :: (.blk p 51 (fj (Op.mk a m b i32 n p0.cases p0.draws) f g)) :: G = h ∧ ov p0 o k l a m b i32 n = some (d, e)) ?_ ?_
 ·refine fa<|EF 0 Z<|El (Vi p0.kind) Z (Rb1 Z)<|Ec Z<|Em Z<|?_
  refine Ee Z ?_ ?_
  ·intro c
   have c := kT (iv (c))
   have H := f0 c H
   exact VF 0 Z<|Vl (Vi p0.kind) Z (Rb1 Z)<|Vc Z<|Et Z<|fb<|Pu1<|Pu1<|Sd<|⟨_, by exact R3, (!(dcd (p0.kind = 2))), 0, 0, p0.kind, p0.mode, p0.channel, p0.value, p0.deadline, Z, Z, Z, H⟩
  ·intro c
   have c := kU (ir (c))
   have H := ift c H
   exact Ez Z<|Ez Z<|Ez Z<|Ef Z<|fb<|Pu1<|Pu1<|Sd<|⟨_, by exact R3, false, 0, 0, p0.kind, p0.mode, p0.channel, p0.value, p0.deadline, Z, Z, Z, H⟩
 rintro _ _ _ - ⟨o, k, l, a, m, b, i32, n, rfl, rfl, rfl, H⟩
 unfold ov at H
 refine fm Z ?_ ?_
 ·intro j
  have H := ift j H
  refine fc<|fa<|Eq Z (fG (cs := (fl (Case.mk false 0 0))) Z Z Z Z Z Z)<|?_
  refine fe Z (Sa (fl (Case.mk false 0 0)) Z .here Z ?_)
  refine Ea Z<|fb<|fx<|?_
  obtain ⟨s, t⟩ := ic H
  subst d e
  refine ⟨(.inl Z), [(.agg (fl (Case.mk false 0 0)).toArray), (.bool false)], ⟨(.agg (fl (Case.mk false 0 0)).toArray), _, Z, ⟨_, 3, (fl (Case.mk false 0 0)), Z, Z, Z, Z, ⟨Z, Rb0 Z⟩, Z⟩, ⟨(.bool false), _, Z, Z, Z⟩⟩, ?_⟩
  exact Re0<|Re0<|Sd<|⟨Z, Z, Z⟩
 ·intro j
  have H := f0 (btf j) H
  refine ft<|fc<|fa<|EF 0 Z<|El (Vi a) Z (Rb1 Z)<|Ec Z<|EF 2 Z<|El (Vi b) Z (Rb1 Z)<|EF 3 Z<|El (.int .u64 i32) Z (Rb1 Z)<|Eq Z (fG (cs := (fl (Case.mk (dcd (a = 1)) b i32))) Z Z Z Z Z Z)<|?_
  refine fe Z (Sa (fl (Case.mk (dcd (a = 1)) b i32)) Z .here Z ?_)
  refine Ea Z<|fb<|fx<|?_
  obtain ⟨s, t⟩ := ic H
  subst d e
  refine ⟨(.inl Z), [(.agg (fl (Case.mk (dcd (a = 1)) b i32)).toArray), (.bool true)], ⟨(.agg (fl (Case.mk (dcd (a = 1)) b i32)).toArray), _, Z, ⟨_, 3, (fl (Case.mk (dcd (a = 1)) b i32)), Z, Z, Z, Z, ⟨Z, Rb0 Z⟩, Z⟩, ⟨(.bool true), _, Z, Z, Z⟩⟩, ?_⟩
  exact Re0<|Re0<|Sd<|⟨Z, Z, Z⟩
theorem ln (p0 : Op) (a d : SV) (e : af5) (H : nh p0 = some e) (K : Kp) (G : List Ent) (j : Slr fW K (sv a) p0.cases) (o : Slr Ty.i64 K (sv d) p0.draws) :
  Fc Tryz.prog 44 #[(.agg (fj p0 a d).toArray)] K (G) (fun v n m => ∃ (k : SV), v = (sv k) ∧ G = m ∧ Slr fW n (sv k) e) := by
 refine fN Tryz.func44 Z Tryz.ntmps44 Tryz.results44 Z ?_
 unfold nh at H
 refine fc<|fa<|?_
 refine fe Z (fU (cs := (fj p0 a d)) Z Z Z (fun t => ?_))
 refine Ea Z<|fb<|fc<|fc<|fa<|EF 0 Z<|El (Vi p0.kind) Z (Rb0 Z)<|Ec Z<|fb<|?_
 refine fm Z ?_ ?_
 ·intro c
  obtain ⟨c, H⟩ := It c H
  refine fc<|fa<|EF 5 Z<|El (sv a) Z (Rb0 Z)<|Ea Z<|fb<|fx<|?_
  obtain h := gq H
  subst e
  refine ⟨(.inl Z), [(sv a)], ⟨(sv a), _, Z, Z, Z⟩, ?_⟩
  exact Re0<|Sd<|⟨a, Z, Z, j⟩
 ·intro c
  obtain ⟨c, H⟩ := If c H
  refine ft<|fc<|fc<|fa<|EL 7 (fj p0 a d) Z (Rb0 Z)<|?_
  obtain ⟨b, r, q, H⟩ := iw H
  refine fe Z (Ek Tryz.call81 Z (Bh p0 a d b r q _ _ j o) ?_)
  rintro _ _ _ - ⟨rfl, rfl, rfl⟩
  refine Em Z<|Ex Z<|Ex Z<|?_
  refine fe Z (fD (cs := (fl (Case.mk false 0 0))) Z Z Z Z (fun u => ?_))
  refine fe Z (Sa (fl b) Z .here Z ?_)
  refine Ea Z<|fb<|fc<|fa<|Em Z<|fb<|?_
  refine fm Z ?_ ?_
  ·intro f
   have H := ift f H
   refine fc<|fa<|EL 3 (fl b) Z (Rb0 Z)<|?_
   have i : RowR fW K [(fl b)] [b] := RowR.cons Z (RowR.nil)
   refine fe Z (gh (T := fW) (rows := [(fl b)]) (l := [b]) Z Z Z i Z Z Z Z Z Z Z Z (fun g => ?_))
   refine Ea Z<|fb<|fx<|?_
   obtain h := gq H
   subst e
   refine ⟨(.inl Z), [(sv g)], ⟨(sv g), _, Z, Z, Z⟩, ?_⟩
   refine Shift.settle (T := fW) .here i Z ?_
   intro s w p
   exact Re0<|Re0<|Re0<|Sd<|⟨g, Z, Z, p⟩
  ·intro f
   have H := f0 (btf f) H
   refine ft<|fc<|fa<|Ea Z<|fb<|fx<|?_
   obtain h := gq H
   subst e
   refine ⟨(.inl Z), [(sv fB)], ⟨(sv fB), _, Z, Z, Z⟩, ?_⟩
   exact Re0<|Re0<|Sd<|⟨fB, Z, Z, (Slr.nil fW _)⟩
theorem qz (p0 : Op) (i j : SV) (p1 : Int) (p2 : Bool) (c : Int) (H : pJ p0 p1 p2 = some c) (K : Kp) (G : List Ent) (y : Slr fW K (sv i) p0.cases) (z : Slr Ty.i64 K (sv j) p0.draws) :
  Fc Tryz.prog 74 #[(.agg (fj p0 i j).toArray), (Vi p1), (.bool p2)] K (G) (fun v d b => v = (Vi c) ∧ G = b) := by
 refine fN Tryz.func74 Z Tryz.ntmps74 Tryz.results74 Z ?_
 unfold pJ at H
 refine fc<|fa<|?_
 refine fe Z (fU (cs := (fj p0 i j)) Z Z Z (fun E => ?_))
 refine Ea Z<|fb<|fc<|fa<|EL 7 (fj p0 i j) Z (Rb0 Z)<|?_
 obtain ⟨n, A, H⟩ := bnd H
 refine fe Z (Ek Tryz.call44 Z (ln p0 i j n A _ _ y z) ?_)
 rintro _ o _ I ⟨r, rfl, rfl, h⟩
 refine Ea Z<|fb<|?_
 refine fz (fun e d b => [] = e ∧ G = b ∧ zU = some c) ?_ ?_
 ·refine fc<|fa<|Ea Z<|fb<|fA<|?_
  refine fY (fun n131 e d b => ∃ (a : Int), [(1, (Vi p1)), (2, (.bool p2)), (7, (sv r)), (8, (Vi a))] = e ∧ o = d ∧ G = b ∧ lp1 (ru p1 p2 n) n131 a = some c) BIG ?_ ?_
  ·exact Re0<|Sd<|⟨_, by exact R4, 0, Z, Z, Z, H⟩
  rintro n131 _ _ _ - ⟨a, rfl, rfl, rfl, H⟩
  obtain ⟨J, B, rfl, x, H⟩ := lr H
  unfold ru at H
  refine fc<|fc<|fa<|Em Z<|Em Z<|Eq Z (ge (T := fW) h Z Z)<|Ec Z<|fb<|?_
  refine fm Z ?_ ?_
  ·intro f
   obtain ⟨f, H⟩ := It f H
   refine ft<|fc<|fA<|?_
   refine fz (fun e d b => ∃ (m : Bool), [(1, (Vi p1)), (2, (.bool p2)), (7, (sv r)), (8, (Vi a)), (32, (.bool m))] = e ∧ o = d ∧ G = b ∧ rr p1 p2 n a B m = some c) ?_ ?_
   ·refine fa<|Em Z<|Em Z<|?_
    obtain ⟨C, p, H⟩ := bnd H
    obtain ⟨_, rfl, u⟩ := Slr.at h p
    refine Eq Z (Qi (T := fW) h p Z)<|EF 1 Z<|El (Vi C.channel) Z (Rdc.k u Z)<|Em Z<|Ec Z<|Em Z<|?_
    refine Ee Z ?_ ?_
    ·intro g
     obtain ⟨g, H⟩ := It g H
     refine Vm Z<|Vm Z<|?_
     obtain ⟨s, q, H⟩ := bnd H
     obtain ⟨_, rfl, w⟩ := Slr.at h q
     exact Vq Z (Qi (T := fW) h q Z)<|VF 0 Z<|Vl (.bool s.send) Z (Rdc.k w Z)<|Vm Z<|Vq Z (Ak Z Z Z)<|Et Z<|fb<|Sd<|⟨_, by exact R5, (s.send == p2), Z, Z, Z, H⟩
    ·intro g
     obtain ⟨g, H⟩ := If g H
     exact Ez Z<|Ez Z<|Ez Z<|Ez Z<|Ez Z<|Ez Z<|Ez Z<|Ef Z<|fb<|Sd<|⟨_, by exact R5, false, Z, Z, Z, H⟩
   rintro _ _ _ - ⟨m, rfl, rfl, rfl, H⟩
   unfold rr at H
   refine fm Z ?_ ?_
   ·intro l
    have H := ift l H
    refine fc<|fa<|Em Z<|Ea Z<|fb<|fx<|?_
    obtain t := gq H
    subst c
    refine ⟨(.inl Z), [(Vi a)], ⟨(Vi a), _, Z, Z, Z⟩, ?_⟩
    exact Sd ⟨Z, Z⟩
   ·intro l
    have H := f0 (btf l) H
    exact ft<|fa<|Em Z<|Er (wI (a + 1)) Z<|Ea Z<|fb<|Sd<|⟨_, by exact R4, _, Nat.lt_succ_self _, (wI (a + 1)), Z, Z, Z, (x ▸ H)⟩
  ·intro f
   obtain ⟨f, H⟩ := If f H
   exact f5<|Sd<|⟨[], trivial, Z, Z, H⟩
 rintro _ D _ F ⟨rfl, rfl, H⟩
 unfold zU at H
 refine fc<|fa<|Ea Z<|fb<|fx<|?_
 obtain t := gq H
 subst c
 refine ⟨(.inl Z), [(Vi (-1))], ⟨(Vi (-1)), _, Z, Z, Z⟩, ?_⟩
 exact Sd ⟨Z, Z⟩
theorem nr (p0 : Op) (c d : SV) (p1 b : Int) (H : pK p0 p1 = some b) (K : Kp) (G : List Ent) (h : Slr fW K (sv c) p0.cases) (i : Slr Ty.i64 K (sv d) p0.draws) :
  Fc Tryz.prog 75 #[(.agg (fj p0 c d).toArray), (Vi p1)] K (G) (fun v f e => v = (Vi b) ∧ K = f ∧ G = e) := by
 refine fN Tryz.func75 Z Tryz.ntmps75 Tryz.results75 Z ?_
 unfold pK at H
 refine fc<|fa<|?_
 refine fe Z (fU (cs := (fj p0 c d)) Z Z Z (fun b3 => ?_))
 refine Ea Z<|fb<|fc<|fc<|fa<|EF 0 Z<|El (Vi p0.kind) Z (Rb0 Z)<|Ec Z<|fb<|?_
 refine fm Z ?_ ?_
 ·intro a
  obtain ⟨a, H⟩ := It a H
  refine fc<|fa<|Em Z<|Ea Z<|fb<|fx<|?_
  obtain g := gq H
  subst b
  refine ⟨(.inl Z), [(Vi p1)], ⟨(Vi p1), _, Z, Z, Z⟩, ?_⟩
  exact Re0<|Sd<|⟨Z, Z, Z⟩
 ·intro a
  obtain ⟨a, H⟩ := If a H
  refine ft<|fc<|fa<|Ea Z<|fb<|fx<|?_
  obtain g := gq H
  subst b
  refine ⟨(.inl Z), [(Vi (-1))], ⟨(Vi (-1)), _, Z, Z, Z⟩, ?_⟩
  exact Re0<|Sd<|⟨Z, Z, Z⟩
theorem xE (p0 : f7) (a e : SV) (p1 : Int) (h : f7) (H : m6 p0 p1 = some h) (K : Kp) (G : List Ent) (C : Slr fH K (sv a) p0.chans) (b : Slr fJ K (sv e) p0.waiting) :
  Fc Tryz.prog 76 #[(.agg (fk p0 a e).toArray), (Vi p1)] K (G) (fun v i k => ∃ (w r : SV), v = (.agg (fk h w r).toArray) ∧ (.tok 96 8 [(sv r)]) :: G = k ∧ Slr fH i (sv w) h.chans ∧ Slr fJ i (sv r) h.waiting) := by
 refine fN Tryz.func76 Z Tryz.ntmps76 Tryz.results76 Z ?_
 unfold m6 at H
 refine fc<|fa<|?_
 refine fe Z (fU (cs := (fk p0 a e)) Z Z Z (fun s => ?_))
 refine fe Z (fD (cs := (fk (f7.mk [] [] 0) fB fB)) Z Z Z Z (fun t => ?_))
 refine fb ?_
 refine fz (fun x i k => ∃ (c : SV) (d : ae0), [(2, (Vp s)), (4, (Vp t))] = x ∧ (.blk t 60 (fk (f7.mk [] [] 0) fB fB)) :: (.blk s 60 (fk (f7.mk p0.chans d p0.tick) a c)) :: (.tok 96 8 [(sv c)]) :: G = k ∧ rx p0 d = some h ∧ Slr fJ i (sv c) d) ?_ ?_
 ·obtain ⟨al, j, H⟩ := bnd H
  obtain ⟨am, l, H⟩ := bnd H
  obtain ⟨an, f, H⟩ := bnd H
  obtain ⟨g, m, H⟩ := bnd H
  refine fw _ Z (Ic Mb0 In0)<|JF 0 1 Z<|Jm 2 Z<|JF 5 1 Z<|Jm 7 Z<|Jr 8 (wI (p1 + 1)) Z<|?_
  refine gW 1 6 (by kernel_rfl) ?_ ?_
  ·refine id (Jyq Z (gr (v := (sv e)) Z Z Z (Rb1 Z)) ⟨(Ic Mb0 In0), ?_⟩)
   have u := Slr.cut b j
   refine Jq 3 Z (pi (T := fJ) b j Z Z Z Z) ?_
   refine gW 4 6 (by kernel_rfl) ?_ ?_
   ·refine id (Jy Z ?_)
    refine OpW.shift (Shift.nilTok1 96 8 (Sd ?_))
    refine f8 (T := fJ) (bytes := 96) (q := 0) Z Z Z (Slr.nil fJ _) Mb0 Z (SrcT.sl u) l Z Z Z Z Z Z Z Z (fun ai W y E => ⟨_, .here, ⟨(Ic Mb1 In0), ?_⟩⟩)
    refine gB 6 (by kernel_rfl) (Jyq Z (gr (v := (sv e)) Z Z Z (Rb2 Z)) ⟨(Ic Mb1 In0), ?_⟩)
    have F := Slr.cutL b f
    refine Jq 9 Z (lg (T := fJ) b f Z Z Z Z Z) ?_
    refine Ao 10 Z ?_
    have I := F.mono y
    refine f8 (T := fJ) (bytes := 96) (q := 0) Z Z Z E Mb0 Z (SrcT.sl I) m Z Z Z Z Z Z Z Z (fun n X af J => ⟨_, .here, ⟨(Ic Mb1 In0), ?_⟩⟩)
    refine JF 11 1 Z ?_
    refine Ao 12 Z ?_
    refine So [(sv n)] (fk (f7.mk p0.chans g p0.tick) a n) Z (.there (.there .here)) Z ⟨(Ic Mb1 In0), ?_⟩
    exact Ad<|Pu2<|Pu2<|Sd<|⟨_, by exact R2, n, g, Z, Z, H, J⟩
   ·refine id (Jyq Z (gr (v := (sv e)) Z Z Z (Rb1 Z)) ⟨(Ic Mb0 In0), ?_⟩)
    have L := Slr.cutL b f
    refine Jq 9 Z (lg (T := fJ) b f Z Z Z Z Z) ?_
    refine Ao 4 Z ?_
    refine OpW.shift (Shift.nilTok1 96 8 (Sd ?_))
    refine f8 (T := fJ) (bytes := 96) (q := 0) Z Z Z (Slr.nil fJ _) Mb0 Z (SrcT.sl u) l Z Z Z Z Z Z Z Z (fun aj Y z M => ⟨_, .here, ⟨(Ic Mb1 In0), ?_⟩⟩)
    refine Ao 10 Z ?_
    have N := L.mono z
    refine f8 (T := fJ) (bytes := 96) (q := 0) Z Z Z M Mb0 Z (SrcT.sl N) m Z Z Z Z Z Z Z Z (fun o aa ag O => ⟨_, .here, ⟨(Ic Mb1 In0), ?_⟩⟩)
    refine JF 11 1 Z ?_
    refine Ao 12 Z ?_
    refine So [(sv o)] (fk (f7.mk p0.chans g p0.tick) a o) Z (.there (.there .here)) Z ⟨(Ic Mb1 In0), ?_⟩
    exact Ad<|Pu2<|Pu2<|Sd<|⟨_, by exact R2, o, g, Z, Z, H, O⟩
  ·refine id (Jyq Z (gr (v := (sv e)) Z Z Z (Rb1 Z)) ⟨(Ic Mb0 In0), ?_⟩)
   have P := Slr.cutL b f
   refine Jq 9 Z (lg (T := fJ) b f Z Z Z Z Z) ?_
   refine gB 1 (by kernel_rfl) (Jyq Z (gr (v := (sv e)) Z Z Z (Rb1 Z)) ⟨(Ic Mb0 In0), ?_⟩)
   have Q := Slr.cut b j
   refine Jq 3 Z (pi (T := fJ) b j Z Z Z Z) ?_
   refine Ao 4 Z ?_
   refine OpW.shift (Shift.nilTok1 96 8 (Sd ?_))
   refine f8 (T := fJ) (bytes := 96) (q := 0) Z Z Z (Slr.nil fJ _) Mb0 Z (SrcT.sl Q) l Z Z Z Z Z Z Z Z (fun ak ab A R => ⟨_, .here, ⟨(Ic Mb1 In0), ?_⟩⟩)
   refine Ao 10 Z ?_
   have S := P.mono A
   refine f8 (T := fJ) (bytes := 96) (q := 0) Z Z Z R Mb0 Z (SrcT.sl S) m Z Z Z Z Z Z Z Z (fun p ac ah U => ⟨_, .here, ⟨(Ic Mb1 In0), ?_⟩⟩)
   refine JF 11 1 Z ?_
   refine Ao 12 Z ?_
   refine So [(sv p)] (fk (f7.mk p0.chans g p0.tick) a p) Z (.there (.there .here)) Z ⟨(Ic Mb1 In0), ?_⟩
   exact Ad<|Pu2<|Pu2<|Sd<|⟨_, by exact R2, p, g, Z, Z, H, U⟩
 rintro _ ad _ B ⟨c, d, rfl, rfl, H, D⟩
 unfold rx at H
 refine fc<|fa<|EL 3 (fk (f7.mk p0.chans d p0.tick) a c) Z (Rb1 Z)<|?_
 refine fe Z (Sa (fk (f7.mk p0.chans d p0.tick) a c) Z .here Z ?_)
 refine fb<|fx<|?_
 obtain ae := gq H
 subst h
 refine ⟨(.inl Z), [(.agg (fk (f7.mk p0.chans d p0.tick) a c).toArray)], ⟨(.agg (fk (f7.mk p0.chans d p0.tick) a c).toArray), _, Z, ⟨_, 3, (fk (f7.mk p0.chans d p0.tick) a c), Z, Z, Z, Z, ⟨Z, Rb0 Z⟩, Z⟩, Z⟩, ?_⟩
 refine Pu2<|Re1<|Re1<|?_
 have V := C.mono B
 exact Sd ⟨a, c, Z, Z, V, D⟩
theorem qA (p0 : ad9) (h : SV) (p1 : Int) (p2 : Result) (e : ad9) (H : sV p0 p1 p2 = some e) (K : Kp) (G : List Ent) (i : Slr fO K (sv h) p0) :
  Fc Tryz.prog 77 #[(sv h), (Vi p1), (.agg (ff p2).toArray)] K (G) (fun v c b => ∃ (r : SV), v = (sv r) ∧ (.tok 67 6 [(sv r)]) :: G = b ∧ Slr fO c (sv r) e) := by
 refine fN Tryz.func77 Z Tryz.ntmps77 Tryz.results77 Z ?_
 unfold sV at H
 refine fc<|fa<|?_
 refine fe Z (fU (cs := (ff p2)) Z Z Z (fun d => ?_))
 refine Ea Z<|fb<|fc<|fa<|Em Z<|Eq Z (ge (T := fO) i Z Z)<|Ea Z<|fb<|?_
 refine fz (fun f c b => ∃ (n : Int), [(0, (sv h)), (1, (Vi p1)), (5, (Vp d)), (7, (Vi n))] = f ∧ (.blk d 38 (ff p2)) :: G = b ∧ ry p0 p1 p2 n = some e) ?_ ?_
 ·refine fA ?_
  refine fY (fun n147 f c b => ∃ (a : Int), [(0, (sv h)), (1, (Vi p1)), (5, (Vp d)), (7, (Vi a))] = f ∧ K = c ∧ (.blk d 38 (ff p2)) :: G = b ∧ lp1 (vS p0 p1 p2) n147 a = some e) BIG ?_ ?_
  ·exact Sd ⟨_, by exact R4, (p0.length : Int), Z, Z, Z, H⟩
  rintro n147 _ _ _ - ⟨a, rfl, rfl, rfl, H⟩
  obtain ⟨Y, R, rfl, E, H⟩ := lr H
  unfold vS at H
  refine fc ?_
  refine fz (fun f c b => ∃ (o : Bool), [(0, (sv h)), (1, (Vi p1)), (5, (Vp d)), (7, (Vi a)), (22, (.bool o))] = f ∧ K = c ∧ (.blk d 38 (ff p2)) :: G = b ∧ rz p0 p1 a p2 R o = some e) ?_ ?_
  ·refine fa<|Em Z<|Ec Z<|Em Z<|?_
   refine Ee Z ?_ ?_
   ·intro g
    obtain ⟨g, H⟩ := It g H
    refine Vm Z<|Vm Z<|Vr (wI (a - 1)) Z<|?_
    obtain ⟨y, u, H⟩ := bnd H
    obtain ⟨_, rfl, D⟩ := Slr.at i u
    exact Vq Z (Qi (T := fO) i u Z)<|VF 0 Z<|Vl (Vi y.thread) Z (Rdc.k D Z)<|Vm Z<|Vc Z<|Et Z<|fb<|Sd<|⟨_, by exact R5, (dcd (y.thread > p1)), Z, Z, Z, H⟩
   ·intro g
    obtain ⟨g, H⟩ := If g H
    exact Ez Z<|Ez Z<|Ez Z<|Ez Z<|Ez Z<|Ez Z<|Ez Z<|Ez Z<|Ef Z<|fb<|Sd<|⟨_, by exact R5, false, Z, Z, Z, H⟩
  rintro _ _ _ - ⟨o, rfl, rfl, rfl, H⟩
  unfold rz at H
  refine fm Z ?_ ?_
  ·intro j
   have H := ift j H
   exact ft<|fA<|fa<|Em Z<|Er (wI (a - 1)) Z<|Ea Z<|fb<|Sd<|⟨_, by exact R4, _, Nat.lt_succ_self _, (wI (a - 1)), Z, Z, Z, (E ▸ H)⟩
  ·intro j
   have H := f0 (btf j) H
   exact f5<|Sd<|⟨_, by exact R4, a, Z, Z, H⟩
 rintro _ S _ A ⟨n, rfl, rfl, H⟩
 unfold ry at H
 refine fc<|fa<|Em Z<|Em Z<|?_
 obtain ⟨ad, w, H⟩ := bnd H
 have m := i.mono A
 have F := Slr.cut m w
 refine Eq Z (pi (T := fO) m w Z Z Z Z) ?_
 refine Ow.shift (Shift.nilTok1 67 6 (Sd ?_))
 obtain ⟨ae, O, H⟩ := bnd H
 refine fe Z (f8 (T := fO) (bytes := 48) (q := 0) Z Z Z (Slr.nil fO _) Mb0 Z (SrcT.sl F) O Z Z Z Z Z Z Z Z (fun aa z B I => ⟨_, .here, ?_⟩))
 refine Ea Z<|fb<|fc<|?_
 obtain ⟨af, P, H⟩ := bnd H
 obtain ⟨ag, x, H⟩ := bnd H
 obtain ⟨ah, Q, H⟩ := bnd H
 refine fw _ Z (Ic Mb1 In0)<|Jm 0 Z<|Jm 1 Z<|JL 2 5 (ff p2) Z (Rb0 Z)<|Jq 3 Z (fG (cs := (fF (Done.mk p1 p2))) Z Z Z Z Z Z)<|Jm 6 Z<|Jm 7 Z<|?_
 have t := m.mono B
 have J := Slr.cutL t x
 refine Jq 8 Z (lg (T := fO) t x Z Z Z Z Z) ?_
 refine Ao 4 Z ?_
 have s : RowR fO z [(fF (Done.mk p1 p2))] [(Done.mk p1 p2)] := RowR.cons Z (RowR.nil)
 refine gh (T := fO) (rows := [(fF (Done.mk p1 p2))]) (l := [(Done.mk p1 p2)]) Z Z Z s Z Z Z Z Z Z Z Z (fun ab => ⟨(Ic Mb2 In0), ?_⟩)
 refine Ao 5 Z ?_
 refine f8 (T := fO) (bytes := 48) (q := 0) Z Z Z I Mb1 Z (SrcT.row Mb0 s Z) P Z Z Z Z Z Z Z Z (fun ac U C L => ⟨_, (.there .here), ⟨(Ic Mb2 In0), ?_⟩⟩)
 refine Aw.shift (Re0 (Sd ⟨(Ic Mb1 In0), ?_⟩))
 refine Ao 9 Z ?_
 have M := J.mono C
 refine f8 (T := fO) (bytes := 48) (q := 0) Z Z Z L Mb0 Z (SrcT.sl M) Q Z Z Z Z Z Z Z Z (fun p V X N => ⟨_, .here, ⟨(Ic Mb1 In0), ?_⟩⟩)
 refine Ja 10 Z<|Ad<|fx<|?_
 obtain W := gq H
 subst e
 refine ⟨(.inl Z), [(sv p)], ⟨(sv p), _, Z, Z, Z⟩, ?_⟩
 exact Re1<|Sd<|⟨p, Z, Z, N⟩
theorem DN (p0 : f7) (b g : SV) (p1 : Int) (p2 : Op) (C D : SV) (h : f7) (q : ad9) (H : rB p0 p1 p2 = some (h, q)) (K : Kp) (G : List Ent) (I : Slr fH K (sv b) p0.chans) (aK : Slr fJ K (sv g) p0.waiting) (b4 : Slr fW K (sv C) p2.cases) (b5 : Slr Ty.i64 K (sv D) p2.draws) :
  Fc Tryz.prog 41 #[(.agg (fk p0 b g).toArray), (Vi p1), (.agg (fj p2 C D).toArray)] K (G) (fun v a c => ∃ (aX aY aA : SV), v = (.tuple #[(.agg (fk h aX aY).toArray), (sv aA)]) ∧ (.tok 67 6 [(sv aA)]) :: G = c ∧ Slr fH a (sv aX) h.chans ∧ Slr fJ a (sv aY) h.waiting ∧ Slr fO a (sv aA) q) := by
 refine fN Tryz.func41 Z Tryz.ntmps41 Tryz.results41 Z ?_
 unfold rB at H
 refine fc<|fa<|?_
 refine fe Z (fU (cs := (fk p0 b g)) Z Z Z (fun d => ?_))
 refine fe Z (fU (cs := (fj p2 C D)) Z Z Z (fun j => ?_))
 refine fe Z (fD (cs := (fk (f7.mk [] [] 0) fB fB)) Z Z Z Z (fun e => ?_))
 refine Ea Z<|fb<|fc<|?_
 refine fz (fun i a c => ∃ (aw : Bool), [(1, (Vi p1)), (3, (Vp d)), (5, (Vp j)), (6, (Vp e)), (34, (.bool aw))] = i ∧ K = a ∧ (.blk e 60 (fk (f7.mk [] [] 0) fB fB)) :: (.blk j 51 (fj p2 C D)) :: (.blk d 60 (fk p0 b g)) :: G = c ∧ oy p1 p2 p0 aw = some (h, q)) ?_ ?_
 ·refine fa<|EF 2 Z<|El (Vi p2.channel) Z (Rb1 Z)<|Ec Z<|Em Z<|?_
  refine Ee Z ?_ ?_
  ·intro X
   obtain ⟨X, H⟩ := It X H
   exact Ez Z<|Ez Z<|Ez Z<|Ez Z<|Ez Z<|Ez Z<|Et Z<|Em Z<|Ez Z<|Ez Z<|Ez Z<|Ez Z<|Ez Z<|Ez Z<|Ez Z<|Et Z<|fb<|Pu2<|Pu2<|Pu2<|Sd<|⟨_, by exact R5, true, Z, Z, Z, H⟩
  ·intro X
   obtain ⟨X, H⟩ := If X H
   refine VF 2 Z<|Vl (Vi p2.channel) Z (Rb1 Z)<|VF 0 Z<|Vl (sv b) Z (Rb2 Z)<|Vq Z (ge (T := fH) I Z Z)<|Vc Z<|Ef Z<|Em Z<|?_
   refine Ee Z ?_ ?_
   ·intro Y
    obtain ⟨Y, H⟩ := It Y H
    exact Ez Z<|Ez Z<|Ez Z<|Ez Z<|Ez Z<|Ez Z<|Ez Z<|Et Z<|fb<|Pu2<|Pu2<|Pu2<|Sd<|⟨_, by exact R5, true, Z, Z, Z, H⟩
   ·intro Y
    obtain ⟨Y, H⟩ := If Y H
    refine VF 0 Z<|Vl (sv b) Z (Rb2 Z)<|VF 2 Z<|Vl (Vi p2.channel) Z (Rb1 Z)<|?_
    obtain ⟨a1, aR, H⟩ := bnd H
    obtain ⟨ca, bb, a7⟩ := Slr.at I aR
    obtain ⟨cd, rfl, b6⟩ := bb
    exact Vq Z (Qi (T := fH) I aR Z)<|VF 2 Z<|Vl (.bool a1.closed) Z (Rdc.k a7 Z)<|Ef Z<|fb<|Pu2<|Pu2<|Pu2<|Sd<|⟨_, by exact R5, a1.closed, Z, Z, Z, H⟩
 rintro _ _ _ - ⟨aw, rfl, rfl, rfl, H⟩
 unfold oy at H
 refine fm Z ?_ ?_
 ·intro ap
  have H := ift ap H
  refine fc<|fa<|EL 3 (fk p0 b g) Z (Rb2 Z)<|Em Z<|Eq Z (fG (cs := (ff (Result.mk 5 (-1) 0 false 0))) Z Z Z Z Z Z)<|Eq Z (fG (cs := (fF (Done.mk p1 (Result.mk 5 (-1) 0 false 0)))) Z Z Z Z Z Z)<|?_
  have aH : RowR fO K [(fF (Done.mk p1 (Result.mk 5 (-1) 0 false 0)))] [(Done.mk p1 (Result.mk 5 (-1) 0 false 0))] := RowR.cons Z (RowR.nil)
  refine fe Z (gh (T := fO) (rows := [(fF (Done.mk p1 (Result.mk 5 (-1) 0 false 0)))]) (l := [(Done.mk p1 (Result.mk 5 (-1) 0 false 0))]) Z Z Z aH Z Z Z Z Z Z Z Z (fun az => ?_))
  refine fe Z (Sa (fk p0 b g) Z (.there .here) Z ?_)
  refine Ea Z<|fb<|fx<|?_
  obtain ⟨a3, a4⟩ := ic H
  subst h q
  refine ⟨(.inl Z), [(.agg (fk p0 b g).toArray), (sv az)], ⟨(.agg (fk p0 b g).toArray), _, Z, ⟨_, 3, (fk p0 b g), Z, Z, Z, Z, ⟨Z, Rb1 Z⟩, Z⟩, ⟨(sv az), _, Z, Z, Z⟩⟩, ?_⟩
  refine Shift.settle (T := fO) .here aH Z ?_
  intro bV aE bt
  refine Re1<|Re1<|Re1<|?_
  have bu := I.mono aE
  have bv := aK.mono aE
  exact Sd ⟨b, g, az, Z, Z, bu, bv, bt⟩
 ·intro ap
  have H := f0 (btf ap) H
  refine ft<|fc<|fa<|EF 0 Z<|El (sv b) Z (Rb2 Z)<|EF 2 Z<|El (Vi p2.channel) Z (Rb1 Z)<|?_
  obtain ⟨F, aS, H⟩ := bnd H
  obtain ⟨cb, bc, a8⟩ := Slr.at I aS
  obtain ⟨ah, rfl, bw⟩ := bc
  refine Eq Z (Qi (T := fH) I aS Z)<|EL 3 (fy F ah) Z (Rdc.k a8 Z)<|?_
  refine fe Z (fD (cs := (fy (fL.mk 0 [] false) fB)) Z Z Z Z (fun bZ => ?_))
  refine fe Z (Sa (fy F ah) Z .here Z ?_)
  refine fb<|fc<|fa<|EF 2 Z<|?_
  refine fe Z (So [(.bool true)] (fy (fL.mk F.capacity F.buffer true) ah) Z .here Z ?_)
  refine fb<|fc<|fa<|EL 3 (fk p0 b g) Z (Rb3 Z)<|EF 2 Z<|El (Vi p2.channel) Z (Rb2 Z)<|EL 3 (fy (fL.mk F.capacity F.buffer true) ah) Z (Rb0 Z)<|?_
  obtain ⟨ak, bM, H⟩ := bnd H
  refine fe Z (Ek Tryz.call73 Z (nq p0 b g p2.channel (fL.mk F.capacity F.buffer true) ah ak bM _ _ I aK bw) ?_)
  rintro _ _ _ - ⟨aV, cc, aW, rfl, rfl, rfl, bx, bz⟩
  refine fe Z (Sa (fk ak aV aW) Z (.there (.there (.there (.there .here)))) Z ?_)
  refine fb<|fc<|fa<|Em Z<|Eq Z (fG (cs := (ff (Result.mk 6 (-1) 0 false 0))) Z Z Z Z Z Z)<|Eq Z (fG (cs := (fF (Done.mk p1 (Result.mk 6 (-1) 0 false 0)))) Z Z Z Z Z Z)<|?_
  have aI : RowR fO K [(fF (Done.mk p1 (Result.mk 6 (-1) 0 false 0)))] [(Done.mk p1 (Result.mk 6 (-1) 0 false 0))] := RowR.cons Z (RowR.nil)
  refine fe Z (gh (T := fO) (rows := [(fF (Done.mk p1 (Result.mk 6 (-1) 0 false 0)))]) (l := [(Done.mk p1 (Result.mk 6 (-1) 0 false 0))]) Z Z Z aI Z Z Z Z Z Z Z Z (fun bP => ?_))
  refine Ea Z<|fb<|?_
  refine fz (fun i a c => ∃ (N : SV) (av : ad9) (x : SV) (t : ad1) (y : SV) (u : ae0) (A : Int), [(3, (Vp d)), (6, (Vp e)), (9, (sv N))] = i ∧ (.blk e 60 (fk (f7.mk [] [] 0) fB fB)) :: (.blk d 60 (fk (f7.mk t u A) x y)) :: (.tok 67 6 [(sv N)]) :: G = c ∧ rA av t u A = some (h, q) ∧ Slr fO a (sv N) av ∧ Slr fH a (sv x) t ∧ Slr fJ a (sv y) u) ?_ ?_
  ·refine fc<|fa<|Ea Z<|fb<|fA<|?_
   refine fY (fun aU i a c => ∃ (R : SV) (af : ad9) (f : Int) (ai : SV) (P : ad1) (aj : SV) (Q : ae0) (ac : Int), [(3, (Vp d)), (5, (Vp j)), (6, (Vp e)), (9, (sv R)), (10, (Vi f))] = i ∧ (.blk e 60 (fk (f7.mk [] [] 0) fB fB)) :: (.blk j 51 (fj p2 C D)) :: (.blk d 60 (fk (f7.mk P Q ac) ai aj)) :: (.tok 67 6 [(sv R)]) :: G = c ∧ lp5 (sW p2) aU af f P Q ac = some (h, q) ∧ Slr fO a (sv R) af ∧ Slr fH a (sv ai) P ∧ Slr fJ a (sv aj) Q) BIG ?_ ?_
   ·refine Shift.settle (T := fO) .here aI Z ?_
    intro bW aF bD
    have bF := bx.mono aF
    refine Shift.settle (T := fH) (.there .here) bF Z ?_
    intro bX aG bE
    refine Pu5<|Pu5<|Pu5<|Re4<|Re4<|?_
    have bG := bD.mono aG
    have bH := (bz.mono aF).mono aG
    exact Sd ⟨_, by exact R5, bP, [(Done.mk p1 (Result.mk 6 (-1) 0 false 0))], 0, aV, ak.chans, aW, ak.waiting, ak.tick, Z, Z, H, bG, bE, bH⟩
   rintro aU _ bY _ b3 ⟨R, af, f, ai, P, aj, Q, ac, rfl, rfl, H, aN, aO, aP⟩
   obtain ⟨b8, au, rfl, a9, H⟩ := FV H
   unfold sW at H
   refine fc<|fc<|fa<|Em Z<|Ec Z<|fb<|?_
   refine fm Z ?_ ?_
   ·intro aa
    obtain ⟨aa, H⟩ := It aa H
    refine ft ?_
    refine fz (fun i a c => ∃ (ag : SV) (am : ad9) (an : SV) (ad : ad1) (ao : SV) (ae : ae0) (al : Int), [(3, (Vp d)), (5, (Vp j)), (6, (Vp e)), (9, (sv ag)), (10, (Vi f))] = i ∧ (.blk e 60 (fk (f7.mk [] [] 0) fB fB)) :: (.blk j 51 (fj p2 C D)) :: (.blk d 60 (fk (f7.mk ad ae al) an ao)) :: (.tok 67 6 [(sv ag)]) :: G = c ∧ vT f p2 au am ad ae al = some (h, q) ∧ Slr fO a (sv ag) am ∧ Slr fH a (sv an) ad ∧ Slr fJ a (sv ao) ae) ?_ ?_
    ·refine fA<|fc<|fa<|Ea Z<|fb<|fA<|?_
     refine fY (fun aT i a c => ∃ (w : SV) (J : ad9) (r : Int) (B : SV) (m : ad1) (o : SV) (n : ae0) (s : Int), [(3, (Vp d)), (5, (Vp j)), (6, (Vp e)), (9, (sv w)), (10, (Vi f)), (11, (Vi r))] = i ∧ (.blk e 60 (fk (f7.mk [] [] 0) fB fB)) :: (.blk j 51 (fj p2 C D)) :: (.blk d 60 (fk (f7.mk m n s) B o)) :: (.tok 67 6 [(sv w)]) :: G = c ∧ lp5 (ox f p2 au) aT J r m n s = some (h, q) ∧ Slr fO a (sv w) J ∧ Slr fH a (sv B) m ∧ Slr fJ a (sv o) n) BIG ?_ ?_
     ·exact Pu3<|Pu3<|Pu3<|Pu3<|Sd<|⟨_, by exact R6, R, af, 0, ai, P, aj, Q, ac, Z, Z, H, aN, aO, aP⟩
     rintro aT _ bQ _ b0 ⟨w, J, r, B, m, o, n, s, rfl, rfl, H, aq, ar, O⟩
     obtain ⟨b7, bN, rfl, aJ, H⟩ := FV H
     unfold ox at H
     refine fc<|fc<|fa<|Em Z<|EF 1 Z<|El (sv o) Z (Rb2 Z)<|Eq Z (ge (T := fJ) O Z Z)<|Ec Z<|fb<|?_
     refine fm Z ?_ ?_
     ·intro U
      obtain ⟨U, H⟩ := It U H
      refine ft<|fA<|fc<|fa<|EF 1 Z<|El (sv o) Z (Rb2 Z)<|Em Z<|?_
      obtain ⟨p, aQ, H⟩ := bnd H
      obtain ⟨b9, ba, a6⟩ := Slr.at O aQ
      obtain ⟨L, M, rfl, aL, aM⟩ := ba
      refine Eq Z (Qi (T := fJ) O aQ Z)<|EL 8 (f9 p L M) Z (Rdc.k a6 Z)<|?_
      refine fe Z (fD (cs := (f9 (gd.mk 0 (Op.mk 0 0 0 0 0 [] [])) fB fB)) Z Z Z Z (fun aB => ?_))
      refine fe Z (Sa (f9 p L M) Z .here Z ?_)
      refine fb<|fc<|fa<|EF 1 Z<|EL 7 (fj p.op L M) Z (Rb0 Z)<|EF 2 Z<|El (Vi p2.channel) Z (Rb2 Z)<|Em Z<|Ec Z<|?_
      obtain ⟨aZ, bI, H⟩ := bnd H
      refine fe Z (Ek Tryz.call74 Z (qz p.op L M p2.channel (dcd (f = 1)) aZ bI _ _ aL aM) ?_)
      rintro _ a2 _ z ⟨rfl, rfl⟩
      refine Ea Z<|fb<|fc<|fc<|fa<|Em Z<|Ec Z<|fb<|?_
      refine fm Z ?_ ?_
      ·intro V
       obtain ⟨V, H⟩ := It V H
       refine fc<|fa<|Em Z<|Er (wI (r + 1)) Z<|Ea Z<|fb<|f5<|Pu4<|Pu4<|Pu4<|Pu4<|Re4<|?_
       have bg := aq.mono z
       have bh := ar.mono z
       have bi := O.mono z
       exact Sd ⟨_, by exact R6, _, Nat.lt_succ_self _, w, J, (wI (r + 1)), B, m, o, n, s, Z, Z, (aJ ▸ H), bg, bh, bi⟩
      ·intro V
       obtain ⟨V, H⟩ := If V H
       refine ft<|fc<|fa<|EF 1 Z<|EL 7 (fj p.op L M) Z (Rb0 Z)<|Em Z<|?_
       obtain ⟨E, bJ, H⟩ := bnd H
       have bj := aL.mono z
       have bk := aM.mono z
       refine fe Z (Ek Tryz.call75 Z (nr p.op L M aZ E bJ _ _ bj bk) ?_)
       rintro _ _ _ - ⟨rfl, rfl, rfl⟩
       refine Eq Z (fG (cs := (ff (Result.mk 2 E 0 false 0))) Z Z Z Z Z Z) ?_
       refine fe Z (fD (cs := (ff (Result.mk 0 0 0 false 0))) Z Z Z Z (fun aC => ?_))
       refine fe Z (Sa (ff (Result.mk 2 E 0 false 0)) Z .here Z ?_)
       refine fb ?_
       refine fz (fun i a c => ∃ (ab : Int), [(3, (Vp d)), (5, (Vp j)), (6, (Vp e)), (9, (sv w)), (10, (Vi f)), (11, (Vi r)), (12, (Vp aB)), (14, (Vp aC))] = i ∧ a2 = a ∧ (.blk aC 38 (ff (Result.mk ab E 0 false 0))) :: (.blk aB 96 (f9 p L M)) :: (.blk e 60 (fk (f7.mk [] [] 0) fB fB)) :: (.blk j 51 (fj p2 C D)) :: (.blk d 60 (fk (f7.mk m n s) B o)) :: (.tok 67 6 [(sv w)]) :: G = c ∧ ow J f r E p p2 m n s au bN ab = some (h, q)) ?_ ?_
       ·refine fc<|fa<|Em Z<|Ec Z<|fb<|?_
        refine fm Z ?_ ?_
        ·intro W
         obtain ⟨W, H⟩ := It W H
         refine fa<|EF 0 Z<|?_
         refine fe Z (So [(Vi 5)] (ff (Result.mk 5 E 0 false 0)) Z .here Z ?_)
         exact fb<|Pu5<|Pu5<|Pu5<|Pu5<|Pu5<|Pu5<|Sd<|⟨_, by exact R8, 5, Z, Z, Z, H⟩
        ·intro W
         obtain ⟨W, H⟩ := If W H
         exact ft<|Pu5<|Pu5<|Pu5<|Pu5<|Pu5<|Pu5<|Sd<|⟨_, by exact R8, 2, Z, Z, Z, H⟩
       rintro _ _ _ - ⟨ab, rfl, rfl, rfl, H⟩
       unfold ow at H
       refine fc<|fa<|EL 3 (fk (f7.mk m n s) B o) Z (Rb4 Z)<|Em Z<|?_
       obtain ⟨S, bK, H⟩ := bnd H
       have bl := ar.mono z
       have bm := O.mono z
       refine fe Z (Ek Tryz.call76 Z (xE (f7.mk m n s) B o r S bK _ _ bl bm) ?_)
       rintro _ bR _ a5 ⟨ax, ay, rfl, rfl, bn, bo⟩
       refine fe Z (jN (vs := (fk S ax ay)) (all' := (fk S ax ay)) Z Z Z Z Z (.there (.there (.there (.there (.there .here))))) Z Z Z ?_)
       refine fb<|fa<|Em Z<|EF 0 Z<|El (Vi p.thread) Z (Rb2 Z)<|EL 5 (ff (Result.mk ab E 0 false 0)) Z (Rb1 Z)<|?_
       obtain ⟨a0, bL, H⟩ := bnd H
       have bp := (aq.mono z).mono a5
       refine fe Z (Ek Tryz.call77 Z (qA J w p.thread (Result.mk ab E 0 false 0) a0 bL _ _ bp) ?_)
       rintro _ bS _ aD ⟨bO, rfl, rfl, bq⟩
       refine Ea Z<|fb<|Pu6<|Pu6<|Pu6<|Re4<|Re4<|Re4<|Re4<|?_
       have br := bn.mono aD
       have bs := bo.mono aD
       exact Sd ⟨_, by exact R6, _, Nat.lt_succ_self _, bO, a0, r, ax, S.chans, ay, S.waiting, S.tick, Z, Z, (aJ ▸ H), bq, br, bs⟩
     ·intro U
      obtain ⟨U, H⟩ := If U H
      exact f5<|Pu3<|Pu3<|Pu3<|Pu3<|Sd<|⟨_, by exact R5, w, J, B, m, o, n, s, Z, Z, H, aq, ar, O⟩
    rintro _ bT _ b1 ⟨ag, am, an, ad, ao, ae, al, rfl, rfl, H, bd, be, bf⟩
    unfold vT at H
    exact fa<|Em Z<|Er (wI (f + 1)) Z<|Ea Z<|fb<|Pu3<|Pu3<|Pu3<|Pu3<|Sd<|⟨_, by exact R5, _, Nat.lt_succ_self _, ag, am, (wI (f + 1)), an, ad, ao, ae, al, Z, Z, (a9 ▸ H), bd, be, bf⟩
   ·intro aa
    obtain ⟨aa, H⟩ := If aa H
    exact f5<|Pu3<|Pu3<|Pu2<|Re3<|Sd<|⟨_, by exact R3, R, af, ai, P, aj, Q, ac, Z, Z, H, aN, aO, aP⟩
  rintro _ bU _ b2 ⟨N, av, x, t, y, u, A, rfl, rfl, H, bA, bB, bC⟩
  unfold rA at H
  refine fc<|fa<|EL 3 (fk (f7.mk t u A) x y) Z (Rb1 Z)<|Em Z<|?_
  refine fe Z (Sa (fk (f7.mk t u A) x y) Z .here Z ?_)
  refine Ea Z<|fb<|fx<|?_
  obtain ⟨a3, a4⟩ := ic H
  subst h q
  refine ⟨(.inl Z), [(.agg (fk (f7.mk t u A) x y).toArray), (sv N)], ⟨(.agg (fk (f7.mk t u A) x y).toArray), _, Z, ⟨_, 3, (fk (f7.mk t u A) x y), Z, Z, Z, Z, ⟨Z, Rb0 Z⟩, Z⟩, ⟨(sv N), _, Z, Z, Z⟩⟩, ?_⟩
  exact Pu2<|Re1<|Re1<|Sd<|⟨x, y, N, Z, Z, bB, bC, bA⟩
theorem yN (p0 : f7) (i a : SV) (p1 : Int) (p2 : Case) (f : Int) (H : oz p0 p1 p2 = some f) (K : Kp) (G : List Ent) (M : Slr fH K (sv i) p0.chans) (N : Slr fJ K (sv a) p0.waiting) :
  Fc Tryz.prog 80 #[(.agg (fk p0 i a).toArray), (Vi p1), (.agg (fl p2).toArray)] K (G) (fun v m b => v = (Vi f) ∧ G = b) := by
 refine fN Tryz.func80 Z Tryz.ntmps80 Tryz.results80 Z ?_
 unfold oz at H
 refine fc<|fa<|?_
 refine fe Z (fU (cs := (fk p0 i a)) Z Z Z (fun j => ?_))
 refine fe Z (fU (cs := (fl p2)) Z Z Z (fun l => ?_))
 refine Ea Z<|fb<|fc<|?_
 refine fz (fun g m b => ∃ (s : Bool), [(1, (Vi p1)), (3, (Vp j)), (5, (Vp l)), (18, (.bool s))] = g ∧ K = m ∧ (.blk l 108 (fl p2)) :: (.blk j 60 (fk p0 i a)) :: G = b ∧ rF p1 p2 p0 s = some f) ?_ ?_
 ·refine fa<|EF 1 Z<|El (Vi p2.channel) Z (Rb0 Z)<|Ec Z<|Em Z<|?_
  refine Ee Z ?_ ?_
  ·intro n
   obtain ⟨n, H⟩ := It n H
   exact Ez Z<|Ez Z<|Ez Z<|Ez Z<|Ez Z<|Ez Z<|Et Z<|fb<|Pu1<|Pu1<|Sd<|⟨_, by exact R4, true, Z, Z, Z, H⟩
  ·intro n
   obtain ⟨n, H⟩ := If n H
   exact VF 1 Z<|Vl (Vi p2.channel) Z (Rb0 Z)<|VF 0 Z<|Vl (sv i) Z (Rb1 Z)<|Vq Z (ge (T := fH) M Z Z)<|Vc Z<|Ef Z<|fb<|Pu1<|Pu1<|Sd<|⟨_, by exact R4, (dcd (p2.channel ≥ (p0.chans.length : Int))), Z, Z, Z, H⟩
 rintro _ _ _ - ⟨s, rfl, rfl, rfl, H⟩
 unfold rF at H
 refine fm Z ?_ ?_
 ·intro q
  have H := ift q H
  refine fc<|fa<|Ea Z<|fb<|fx<|?_
  obtain w := gq H
  subst f
  refine ⟨(.inl Z), [(Vi (-1))], ⟨(Vi (-1)), _, Z, Z, Z⟩, ?_⟩
  exact Re0<|Re0<|Sd<|⟨Z, Z⟩
 ·intro q
  have H := f0 (btf q) H
  refine ft ?_
  refine fz (fun g m b => [] = g ∧ G = b ∧ zW = some f) ?_ ?_
  ·refine fc<|fa<|Ea Z<|fb<|fA<|?_
   refine fY (fun z g m b => ∃ (e : Int), [(1, (Vi p1)), (3, (Vp j)), (5, (Vp l)), (7, (Vi e))] = g ∧ (.blk l 108 (fl p2)) :: (.blk j 60 (fk p0 i a)) :: G = b ∧ lp1 (rE p1 p2 p0) z e = some f) BIG ?_ ?_
   ·exact Pu1<|Pu1<|Sd<|⟨_, by exact R4, 0, Z, Z, H⟩
   rintro z _ W _ E ⟨e, rfl, rfl, H⟩
   obtain ⟨ai, V, rfl, L, H⟩ := lr H
   unfold rE at H
   refine fc<|fc<|fa<|Em Z<|EF 1 Z<|El (sv a) Z (Rb1 Z)<|?_
   have h := N.mono E
   refine Eq Z (ge (T := fJ) h Z Z)<|Ec Z<|fb<|?_
   refine fm Z ?_ ?_
   ·intro o
    obtain ⟨o, H⟩ := It o H
    refine ft<|fc<|fA<|?_
    refine fz (fun g m b => ∃ (t : Bool), [(1, (Vi p1)), (3, (Vp j)), (5, (Vp l)), (7, (Vi e)), (48, (.bool t))] = g ∧ (.blk l 108 (fl p2)) :: (.blk j 60 (fk p0 i a)) :: G = b ∧ rD p1 e p2 p0 V t = some f) ?_ ?_
    ·obtain ⟨u, p, H⟩ := bnd H
     rcases gY (!(dcd (u.thread = p1))) with x | x <;> revert x
     ·intro c
      have c := kT (iv (c))
      have H := f0 c H
      obtain ⟨C, y, H⟩ := bnd H
      obtain ⟨D, U, H⟩ := bnd H
      refine fw _ Z (Ic Mb0 (Ic Mb1 In0))<|JF 0 1 Z<|Jl 1 (sv a) Z (Rb1 Z)<|Jm 2 Z<|?_
      obtain ⟨aj, O, F⟩ := Slr.at h p
      obtain ⟨am, an, rfl, ae, af⟩ := O
      refine Jq 3 Z (Qi (T := fJ) h p Z)<|JF 4 0 Z<|Jl 5 (Vi u.thread) Z (Rdc.k F Z)<|Jm 6 Z<|Jc 7 Z<|Jm 8 Z<|Aw.known (d := 34) Z (lB (iE c))<|BF 9 1 Z<|Bl 10 (sv a) Z (Rb1 Z)<|Bm 11 Z<|?_
      obtain ⟨ak, P, I⟩ := Slr.at h y
      obtain ⟨A, B, rfl, R, S⟩ := P
      refine Bq 12 Z (Qi (T := fJ) h y Z)<|BF 13 1 Z<|BL 14 7 (fj C.op A B) Z (Rdc.k I Z)<|BF 15 1 Z<|Bl 16 (Vi p2.channel) Z (Rb0 Z)<|BF 17 0 Z<|Bl 18 (.bool p2.send) Z (Rb0 Z)<|Bq 19 Z (gf Z)<|?_
      refine gB 20 (by kernel_rfl) (kr Z Z Z Z Z ?_)
      refine Ek Tryz.call74 Z (qz C.op A B p2.channel (!(p2.send)) D U _ _ R S) ?_
      rintro _ X _ ab ⟨rfl, rfl⟩
      refine ⟨(Ic Mb0 (Ic Mb1 In0)), ?_⟩
      exact Bc 21 Z<|Jt 22 Z<|Ad<|Pu1<|Pu1<|Sd<|⟨_, by exact R5, (dcd (D ≥ 0)), Z, Z, H⟩
     ·intro c
      have c := kU (ir (c))
      have H := ift c H
      refine fw _ Z (Ic Mb0 (Ic Mb1 In0))<|JF 0 1 Z<|Jl 1 (sv a) Z (Rb1 Z)<|Jm 2 Z<|?_
      obtain ⟨al, Q, J⟩ := Slr.at h p
      obtain ⟨ao, ap, rfl, ag, ah⟩ := Q
      refine Jq 3 Z (Qi (T := fJ) h p Z)<|JF 4 0 Z<|Jl 5 (Vi u.thread) Z (Rdc.k J Z)<|Jm 6 Z<|Jc 7 Z<|Jm 8 Z<|Aw.known (d := 34) Z (lA (hX c))<|Jz 9 Z<|Jz 10 Z<|Jz 11 Z<|Jz 12 Z<|Jz 13 Z<|Jz 14 Z<|Jz 15 Z<|Jz 16 Z<|Jz 17 Z<|Jz 18 Z<|Jz 19 Z<|Jz 20 Z<|Jz 21 Z<|Jf 22 Z<|Ad<|?_
      exact Pu1<|Pu1<|Sd<|⟨_, by exact R5, false, Z, Z, H⟩
    rintro _ Y _ ac ⟨t, rfl, rfl, H⟩
    unfold rD at H
    refine fm Z ?_ ?_
    ·intro r
     have H := ift r H
     refine fc<|fa<|Em Z<|Ea Z<|fb<|fx<|?_
     obtain w := gq H
     subst f
     refine ⟨(.inl Z), [(Vi e)], ⟨(Vi e), _, Z, Z, Z⟩, ?_⟩
     exact Re0<|Re0<|Sd<|⟨Z, Z⟩
    ·intro r
     have H := f0 (btf r) H
     exact ft<|fa<|Em Z<|Er (wI (e + 1)) Z<|Ea Z<|fb<|Pu1<|Pu1<|Sd<|⟨_, by exact R4, _, Nat.lt_succ_self _, (wI (e + 1)), Z, Z, (L ▸ H)⟩
   ·intro o
    obtain ⟨o, H⟩ := If o H
    exact f5<|Re0<|Re0<|Sd<|⟨[], trivial, Z, Z, H⟩
  rintro _ aa _ ad ⟨rfl, rfl, H⟩
  unfold zW at H
  refine fc<|fa<|Ea Z<|fb<|fx<|?_
  obtain w := gq H
  subst f
  refine ⟨(.inl Z), [(Vi (-1))], ⟨(Vi (-1)), _, Z, Z, Z⟩, ?_⟩
  exact Sd ⟨Z, Z⟩
theorem yO (p0 : f7) (a b : SV) (p1 : Int) (p2 : Case) (c : Bool) (H : oC p0 p1 p2 = some c) (K : Kp) (G : List Ent) (f : Slr fH K (sv a) p0.chans) (i : Slr fJ K (sv b) p0.waiting) :
  Fc Tryz.prog 43 #[(.agg (fk p0 a b).toArray), (Vi p1), (.agg (fl p2).toArray)] K (G) (fun v l g => v = (.bool c) ∧ G = g) := by
 refine fN Tryz.func43 Z Tryz.ntmps43 Tryz.results43 Z ?_
 unfold oC at H
 refine fc<|fa<|?_
 refine fe Z (fU (cs := (fk p0 a b)) Z Z Z (fun n => ?_))
 refine fe Z (fU (cs := (fl p2)) Z Z Z (fun o => ?_))
 refine Ea Z<|fb<|fc<|fa<|EF 0 Z<|El (sv a) Z (Rb1 Z)<|EL 3 (fl p2) Z (Rb0 Z)<|?_
 obtain ⟨x19, j, H⟩ := bnd H
 refine fe Z (Ek Tryz.call79 Z (AZ p0.chans a p2 x19 j _ _ f) ?_)
 rintro _ _ _ - ⟨rfl, rfl, rfl⟩
 refine Em Z ?_
 refine Ee Z ?_ ?_
 ·intro d
  have H := ift d H
  refine Ez Z<|Ez Z<|Ez Z<|Ez Z<|Ez Z<|Et Z<|Ea Z<|fb<|fx<|?_
  obtain h := gq H
  subst c
  refine ⟨(.inl Z), [(.bool true)], ⟨(.bool true), _, Z, Z, Z⟩, ?_⟩
  exact Re0<|Re0<|Sd<|⟨Z, Z⟩
 ·intro d
  have H := f0 (btf d) H
  refine VL 3 (fk p0 a b) Z (Rb1 Z)<|Vm Z<|VL 3 (fl p2) Z (Rb0 Z)<|?_
  obtain ⟨e, k, H⟩ := bnd H
  refine hQ Z Z Z Z (Ek Tryz.call80 Z (yN p0 a b p1 p2 e k _ _ f i) ?_)
  rintro _ m _ p ⟨rfl, rfl⟩
  refine Vc Z<|Ef Z<|Ea Z<|fb<|fx<|?_
  obtain h := gq H
  subst c
  refine ⟨(.inl Z), [(.bool (dcd (e ≥ 0)))], ⟨(.bool (dcd (e ≥ 0))), _, Z, Z, Z⟩, ?_⟩
  exact Re0<|Re0<|Sd<|⟨Z, Z⟩
theorem DO (p0 : ad2) (g : SV) (p1 c : Int) (H : rC p0 p1 = some c) (K : Kp) (G : List Ent) (d : Slr Ty.i64 K (sv g) p0) :
  Fc Tryz.prog 121 #[(sv g), (Vi p1)] K (G) (fun v i h => v = (Vi c) ∧ K = i ∧ G = h) := by
 refine fN Tryz.func121 Z Tryz.ntmps121 Tryz.results121 Z ?_
 unfold rC at H
 refine fc<|fa<|Ea Z<|fb<|fc<|fc<|fa<|Em Z<|Em Z<|Eq Z (ge (T := Ty.i64) d Z Z)<|Ec Z<|fb<|?_
 refine fm Z ?_ ?_
 ·intro a
  obtain ⟨a, H⟩ := It a H
  refine fc<|fa<|Ea Z<|fb<|fx<|?_
  obtain e := gq H
  subst c
  refine ⟨(.inl Z), [(Vi 0)], ⟨(Vi 0), _, Z, Z, Z⟩, ?_⟩
  exact Sd ⟨Z, Z, Z⟩
 ·intro a
  obtain ⟨a, H⟩ := If a H
  refine ft<|fc<|fa<|Em Z<|Em Z<|?_
  obtain ⟨x12, f, H⟩ := bnd H
  obtain ⟨_, rfl, j⟩ := Slr.at d f
  refine Eq Z (Qi (T := Ty.i64) d f Z)<|El (Vi x12) Z (Rdc.k j Z)<|Em Z<|Er (wI (p1 + 1)) Z<|?_
  obtain ⟨x17, l, H⟩ := bnd H
  refine Eq Z (Dj l Z Z)<|Ea Z<|fb<|fc<|fc<|fa<|Em Z<|Ec Z<|fb<|?_
  refine fm Z ?_ ?_
  ·intro b
   obtain ⟨b, H⟩ := It b H
   refine fa<|Em Z<|Em Z<|Er (wI (p1 + 1)) Z<|Er (wI (x17 + (wI (p1 + 1)))) Z<|Ea Z<|fb<|fc<|fa<|Em Z<|Ea Z<|fb<|fx<|?_
   obtain e := gq H
   subst c
   refine ⟨(.inl Z), [(Vi (wI (x17 + (wI (p1 + 1)))))], ⟨(Vi (wI (x17 + (wI (p1 + 1))))), _, Z, Z, Z⟩, ?_⟩
   exact Sd ⟨Z, Z, Z⟩
  ·intro b
   obtain ⟨b, H⟩ := If b H
   refine ft<|fc<|fa<|Em Z<|Ea Z<|fb<|fx<|?_
   obtain e := gq H
   subst c
   refine ⟨(.inl Z), [(Vi x17)], ⟨(Vi x17), _, Z, Z, Z⟩, ?_⟩
   exact Sd ⟨Z, Z, Z⟩
theorem FM (p0 : Int) (p1 : ad2) (k : SV) (h : ad2) (H : yj p0 p1 = some h) (K : Kp) (G : List Ent) (ag : Slr Ty.i64 K (sv k) p1) :
  Fc Tryz.prog 106 #[(Vi p0), (sv k)] K (G) (fun v b c => ∃ (S : SV) (R : List (List Value)), v = (sv S) ∧ (.row (sv S) 3 1 R.flatten) :: G = c ∧ RowR Ty.i64 b R h) := by
 refine fN Tryz.func106 Z Tryz.ntmps106 Tryz.results106 Z ?_
 unfold yj at H
 refine fc<|fa<|Ea Z<|fb<|fc<|?_
 refine fz (fun g b c => ∃ (F : Bool), [(0, (Vi p0)), (1, (sv k)), (16, (.bool F))] = g ∧ K = b ∧ G = c ∧ qJ p0 p1 F = some h) ?_ ?_
 ·refine fa<|Em Z<|Ec Z<|Em Z<|?_
  refine Ee Z ?_ ?_
  ·intro n
   obtain ⟨n, H⟩ := It n H
   exact Ez Z<|Ez Z<|Et Z<|fb<|Sd<|⟨_, by exact R3, true, Z, Z, Z, H⟩
  ·intro n
   obtain ⟨n, H⟩ := If n H
   exact Vm Z<|Vc Z<|Ef Z<|fb<|Sd<|⟨_, by exact R3, (dcd (p0 > 20)), Z, Z, Z, H⟩
 rintro _ _ _ - ⟨F, rfl, rfl, rfl, H⟩
 unfold qJ at H
 refine fm Z ?_ ?_
 ·intro A
  have H := ift A H
  refine fc<|fa<|Ea Z<|fb<|fx<|?_
  obtain V := gq H
  subst h
  refine ⟨(.inl Z), [(sv fB)], ⟨(sv fB), _, Z, Z, Z⟩, ?_⟩
  have X : RowR Ty.i64 K [] [] := RowR.nil
  exact Shift.nilRow 3 1<|Sd<|⟨fB, ([] : List (List Value)), Z, Z, X⟩
 ·intro A
  have H := f0 (btf A) H
  refine ft<|fc<|fa<|Em Z<|?_
  obtain ⟨aq, an, H⟩ := bnd H
  refine fe Z (jw (T := Ty.i64) (r := [(Vi 0)]) Z Z Z an Z Z Z Z Z Z Z Z Z Z (fun f ap Y ay => ?_))
  refine Ea Z<|fb<|?_
  refine fz (fun g b c => ∃ (x : ad2) (y : List (List Value)), [(0, (Vi p0)), (1, (sv k)), (5, (sv f))] = g ∧ (.row (sv f) 3 1 y.flatten) :: G = c ∧ ve p0 p1 x = some h ∧ RowR Ty.i64 b y x) ?_ ?_
  ·refine fc<|fa<|Ea Z<|fb<|fA<|?_
   refine fY (fun n207 g b c => ∃ (m : ad2) (s : List (List Value)) (a : Int), [(0, (Vi p0)), (1, (sv k)), (5, (sv f)), (6, (Vi a))] = g ∧ K = b ∧ (.row (sv f) 3 1 s.flatten) :: G = c ∧ lp2 (vf p0 p1) n207 m a = some h ∧ RowR Ty.i64 b s m) BIG ?_ ?_
   ·exact Sd ⟨_, by exact R4, aq, ap, 0, Z, Z, Z, H, Y⟩
   rintro n207 _ _ _ - ⟨m, s, a, rfl, rfl, rfl, H, q⟩
   obtain ⟨aB, az, rfl, ae, H⟩ := jC H
   unfold vf at H
   refine fc<|fc<|fa<|Em Z<|Em Z<|Ec Z<|fb<|?_
   refine fm Z ?_ ?_
   ·intro o
    obtain ⟨o, H⟩ := It o H
    refine ft<|fc<|fA<|fa<|Em Z<|Em Z<|Em Z<|?_
    obtain ⟨aI, L, H⟩ := bnd H
    obtain ⟨aD, B, ah⟩ := RowR.at q L
    obtain rfl := ah
    refine Eq Z (gP (T := Ty.i64) Mb0 q B (fR L).1 Z Z Z Z Z) ?_
    refine fe Z (gX (T := Ty.i64) (vs := [(Vi a)]) (r' := [(Vi a)]) (l' := (gb m a a)) Z Z Z Z Z .here q B Z Z Z (RowR.set a q Z) (fun ab => ?_))
    have au := iV B (v := [(Vi a)])
    exact fb<|fa<|Em Z<|Er (wI (a + 1)) Z<|Ea Z<|fb<|Sd<|⟨_, by exact R4, _, Nat.lt_succ_self _, (gb m a a), (s.set a.toNat [(Vi a)]), (wI (a + 1)), Z, Z, Z, (ae ▸ H), ab⟩
   ·intro o
    obtain ⟨o, H⟩ := If o H
    exact f5<|Sd<|⟨_, by exact R3, m, s, Z, Z, H, q⟩
  rintro _ U _ W ⟨x, y, rfl, rfl, H, aa⟩
  unfold ve at H
  refine fz (fun g b c => ∃ (E : ad2) (z : List (List Value)), [(5, (sv f))] = g ∧ (.row (sv f) 3 1 z.flatten) :: G = c ∧ zV E = some h ∧ RowR Ty.i64 b z E) ?_ ?_
  ·refine fc<|fa<|Em Z<|Er (wI (p0 - 1)) Z<|Ea Z<|fb<|fA<|?_
   refine fY (fun Q g b c => ∃ (j : ad2) (t : List (List Value)) (e : Int), [(1, (sv k)), (5, (sv f)), (7, (Vi e))] = g ∧ U = b ∧ (.row (sv f) 3 1 t.flatten) :: G = c ∧ lp2 (vd p1) Q j e = some h ∧ RowR Ty.i64 b t j) BIG ?_ ?_
   ·exact Sd ⟨_, by exact R3, x, y, (wI (p0 - 1)), Z, Z, Z, H, aa⟩
   rintro Q _ _ _ - ⟨j, t, e, rfl, rfl, rfl, H, d⟩
   obtain ⟨aC, aA, rfl, af, H⟩ := jC H
   unfold vd at H
   refine fc<|fc<|fa<|Em Z<|Ec Z<|fb<|?_
   refine fm Z ?_ ?_
   ·intro p
    obtain ⟨p, H⟩ := It p H
    refine ft<|fc<|fA<|fc<|fa<|Em Z<|Em Z<|?_
    obtain ⟨u, ao, H⟩ := bnd H
    have am := ag.mono W
    refine fe Z (Ek Tryz.call121 Z (DO p1 k e u ao _ _ am) ?_)
    rintro _ _ _ - ⟨rfl, rfl, rfl⟩
    refine Ea Z<|fb<|fc<|?_
    obtain ⟨l, M, H⟩ := bnd H
    obtain ⟨i, N, H⟩ := bnd H
    refine fw _ Z (Ic Mb0 In0)<|Jm 0 Z<|Jm 1 Z<|?_
    obtain ⟨aE, I, ai⟩ := RowR.at d M
    obtain rfl := ai
    refine Jq 2 Z (gP (T := Ty.i64) Mb0 d I (fR M).1 Z Z Z Z Z)<|Jl 3 (Vi l) Z (ib (T := Ty.i64) Mb0 d I Z Z)<|Jm 4 Z<|Jm 5 Z<|?_
    obtain ⟨aF, J, aj⟩ := RowR.at d N
    obtain rfl := aj
    refine Jq 6 Z (gP (T := Ty.i64) Mb0 d J (fR N).1 Z Z Z Z Z)<|Jl 7 (Vi i) Z (ib (T := Ty.i64) Mb0 d J Z Z)<|Ja 8 Z<|Ja 9 Z<|Ad<|fa<|Em Z<|Em Z<|Em Z<|Em Z<|Em Z<|Em Z<|?_
    obtain ⟨aJ, O, H⟩ := bnd H
    obtain ⟨aG, C, ak⟩ := RowR.at d O
    obtain rfl := ak
    refine Eq Z (gP (T := Ty.i64) Mb0 d C (fR O).1 Z Z Z Z Z) ?_
    refine fe Z (gX (T := Ty.i64) (vs := [(Vi i)]) (r' := [(Vi i)]) (l' := (gb j e i)) Z Z Z Z Z .here d C Z Z Z (RowR.set e d Z) (fun w => ?_))
    have av := iV C (v := [(Vi i)])
    obtain ⟨aK, P, H⟩ := bnd H
    obtain ⟨aH, D, al⟩ := RowR.at w P
    obtain rfl := al
    refine Eq Z (gP (T := Ty.i64) Mb0 w D (fR P).1 Z Z Z Z Z) ?_
    refine fe Z (gX (T := Ty.i64) (vs := [(Vi l)]) (r' := [(Vi l)]) (l' := (gb (gb j e i) u l)) Z Z Z Z Z .here w D Z Z Z (RowR.set u w Z) (fun ad => ?_))
    have aw := iV D (v := [(Vi l)])
    exact fb<|fa<|Em Z<|Er (wI (e - 1)) Z<|Ea Z<|fb<|Sd<|⟨_, by exact R3, _, Nat.lt_succ_self _, (gb (gb j e i) u l), ((t.set e.toNat [(Vi i)]).set u.toNat [(Vi l)]), (wI (e - 1)), Z, Z, Z, (af ▸ H), ad⟩
   ·intro p
    obtain ⟨p, H⟩ := If p H
    exact f5<|Sd<|⟨_, by exact R1, j, t, Z, Z, H, d⟩
  rintro _ ar _ ax ⟨E, z, rfl, rfl, H, ac⟩
  unfold zV at H
  refine fc<|fa<|Em Z<|Ea Z<|fb<|fx<|?_
  obtain V := gq H
  subst h
  refine ⟨(.inl Z), [(sv f)], ⟨(sv f), _, Z, Z, Z⟩, ?_⟩
  exact Sd ⟨f, z, Z, Z, ac⟩
theorem FH (p0 : Op) (b a : SV) (d : ad2) (H : sD p0 = some d) (K : Kp) (G : List Ent) (i : Slr fW K (sv b) p0.cases) (j : Slr Ty.i64 K (sv a) p0.draws) :
  Fc Tryz.prog 78 #[(.agg (fj p0 b a).toArray)] K (G) (fun v h g => ∃ (f : SV) (e : List (List Value)), v = (sv f) ∧ (.row (sv f) 3 1 e.flatten) :: G = g ∧ RowR Ty.i64 h e d) := by
 refine fN Tryz.func78 Z Tryz.ntmps78 Tryz.results78 Z ?_
 unfold sD at H
 refine fc<|fa<|?_
 refine fe Z (fU (cs := (fj p0 b a)) Z Z Z (fun o => ?_))
 refine Ea Z<|fb<|fc<|fa<|EF 5 Z<|El (sv b) Z (Rb0 Z)<|Eq Z (ge (T := fW) i Z Z)<|EF 6 Z<|El (sv a) Z (Rb0 Z)<|?_
 obtain ⟨x10, l, H⟩ := bnd H
 refine fe rfl (Ek Tryz.call106 Z (FM (p0.cases.length : Int) p0.draws a x10 l _ _ j) ?_)
 rintro _ n _ q ⟨c, m, rfl, rfl, k⟩
 refine Ea Z<|fb<|fx<|?_
 obtain p := gq H
 subst d
 refine ⟨(.inl Z), [(sv c)], ⟨(sv c), _, Z, Z, Z⟩, ?_⟩
 exact Re1<|Sd<|⟨c, m, Z, Z, k⟩
theorem DR (p0 : f7) (b c : SV) (p1 : Int) (p2 : Op) (a d : SV) (e : Int) (H : rH p0 p1 p2 = some e) (K : Kp) (G : List Ent) (L : Slr fH K (sv b) p0.chans) (M : Slr fJ K (sv c) p0.waiting) (t : Slr fW K (sv a) p2.cases) (N : Slr Ty.i64 K (sv d) p2.draws) :
  Fc Tryz.prog 42 #[(.agg (fk p0 b c).toArray), (Vi p1), (.agg (fj p2 a d).toArray)] K (G) (fun v q f => v = (Vi e) ∧ G = f) := by
 refine fN Tryz.func42 Z Tryz.ntmps42 Tryz.results42 Z ?_
 unfold rH at H
 refine fc<|fa<|?_
 refine fe Z (fU (cs := (fk p0 b c)) Z Z Z (fun r => ?_))
 refine fe Z (fU (cs := (fj p2 a d)) Z Z Z (fun s => ?_))
 refine Ea Z<|fb<|fc<|fa<|EL 7 (fj p2 a d) Z (Rb0 Z)<|?_
 obtain ⟨D, V, H⟩ := bnd H
 refine fe Z (Ek Tryz.call78 Z (FH p2 a d D V _ _ t N) ?_)
 rintro _ ad _ n ⟨B, W, rfl, rfl, Q⟩
 refine Ea Z<|fb<|?_
 refine fz (fun l q f => [] = l ∧ G = f ∧ zX = some e) ?_ ?_
 ·refine fc<|fa<|Ea Z<|fb<|fA<|?_
  refine fY (fun n261 l q f => ∃ (i : Int), [(1, (Vi p1)), (3, (Vp r)), (5, (Vp s)), (7, (sv B)), (8, (Vi i))] = l ∧ (.blk s 51 (fj p2 a d)) :: (.blk r 60 (fk p0 b c)) :: (.row (sv B) 3 1 W.flatten) :: G = f ∧ lp1 (rG p1 D p2 p0) n261 i = some e) BIG ?_ ?_
  ·exact Pu2<|Pu2<|Sd<|⟨_, by exact R5, 0, Z, Z, H⟩
  rintro n261 _ aa _ j ⟨i, rfl, rfl, H⟩
  obtain ⟨ag, af, rfl, J, H⟩ := lr H
  unfold rG at H
  refine fc<|fc<|fa<|Em Z<|Em Z<|?_
  have h := Q.mono j
  refine Eq Z (lh (T := Ty.i64) Mb2 h Z Z Z)<|Ec Z<|fb<|?_
  refine fm Z ?_ ?_
  ·intro g
   obtain ⟨g, H⟩ := It g H
   refine ft<|fc<|fA<|fc<|?_
   obtain ⟨X, y, H⟩ := bnd H
   obtain ⟨C, z, H⟩ := bnd H
   obtain ⟨Y, U, H⟩ := bnd H
   refine fw _ Z (Ic Mb0 (Ic Mb1 (Ic Mb2 In0)))<|JL 0 3 (fk p0 b c) Z (Rb1 Z)<|Jm 1 Z<|JF 2 5 Z<|Jl 3 (sv a) Z (Rb0 Z)<|Jm 4 Z<|Jm 5 Z<|?_
   obtain ⟨ah, u, O⟩ := RowR.at h y
   obtain rfl := O
   refine Jq 6 Z (gP (T := Ty.i64) Mb2 h u (fR y).1 Z Z Z Z Z)<|Jl 7 (Vi X) Z (ib (T := Ty.i64) Mb2 h u Z Z)<|?_
   have x := (t.mono n).mono j
   obtain ⟨_, rfl, I⟩ := Slr.at x z
   refine Jq 8 Z (Qi (T := fW) x z Z)<|JL 9 3 (fl C) Z (Rdc.k I Z)<|?_
   refine Ao 10 Z ?_
   have R := (L.mono n).mono j
   have S := (M.mono n).mono j
   refine Ek Tryz.call43 Z (yO p0 b c p1 C Y U _ _ R S) ?_
   rintro _ ab _ F ⟨rfl, rfl⟩
   refine ⟨(Ic Mb0 (Ic Mb1 (Ic Mb2 In0))), ?_⟩
   refine Ad ?_
   refine fm Z ?_ ?_
   ·intro m
    have H := ift m H
    refine fc<|fa<|Em Z<|Em Z<|?_
    obtain ⟨p, A, H⟩ := bnd H
    have o := h.mono F
    obtain ⟨ai, w, P⟩ := RowR.at o A
    obtain rfl := P
    refine Eq Z (gP (T := Ty.i64) Mb2 o w (fR A).1 Z Z Z Z Z)<|El (Vi p) Z (ib (T := Ty.i64) Mb2 o w Z Z)<|Ea Z<|fb<|fx<|?_
    obtain E := gq H
    subst e
    refine ⟨(.inl Z), [(Vi p)], ⟨(Vi p), _, Z, Z, Z⟩, ?_⟩
    exact Re0<|Re0<|Re0<|Sd<|⟨Z, Z⟩
   ·intro m
    have H := f0 (btf m) H
    exact ft<|fa<|Em Z<|Er (wI (i + 1)) Z<|Ea Z<|fb<|Pu2<|Pu2<|Pu2<|Sd<|⟨_, by exact R5, _, Nat.lt_succ_self _, (wI (i + 1)), Z, Z, (J ▸ H)⟩
  ·intro g
   obtain ⟨g, H⟩ := If g H
   exact f5<|Re0<|Re0<|Re0<|Sd<|⟨[], trivial, Z, Z, H⟩
 rintro _ ac _ ae ⟨rfl, rfl, H⟩
 unfold zX at H
 refine fc<|fa<|Ea Z<|fb<|fx<|?_
 obtain E := gq H
 subst e
 refine ⟨(.inl Z), [(Vi (-1))], ⟨(Vi (-1)), _, Z, Z, Z⟩, ?_⟩
 exact Sd ⟨Z, Z⟩
theorem lI (p0 : f7) (d c : SV) (p1 : Int) (p2 : Op) (aA aB : SV) (p3 : Int) (p4 : Case) (h : f7) (u : ad9) (H : rI p0 p1 p2 p3 p4 = some (h, u)) (K : Kp) (G : List Ent) (x : Slr fH K (sv d) p0.chans) (C : Slr fJ K (sv c) p0.waiting) (ch : Slr fW K (sv aA) p2.cases) (ci : Slr Ty.i64 K (sv aB) p2.draws) :
  Fc Tryz.prog 45 #[(.agg (fk p0 d c).toArray), (Vi p1), (.agg (fj p2 aA aB).toArray), (Vi p3), (.agg (fl p4).toArray)] K (G) (fun v i B => ∃ (bZ b0 a8 : SV), v = (.tuple #[(.agg (fk h bZ b0).toArray), (sv a8)]) ∧ (.tok 67 6 [(sv a8)]) :: G = B ∧ Slr fH i (sv bZ) h.chans ∧ Slr fJ i (sv b0) h.waiting ∧ Slr fO i (sv a8) u) := by
 refine fN Tryz.func45 Z Tryz.ntmps45 Tryz.results45 Z ?_
 unfold rI at H
 refine fc<|fa<|?_
 refine fe Z (fU (cs := (fk p0 d c)) Z Z Z (fun V => ?_))
 refine fe Z (fU (cs := (fj p2 aA aB)) Z Z Z (fun ew => ?_))
 refine fe Z (fU (cs := (fl p4)) Z Z Z (fun W => ?_))
 refine fe Z (fD (cs := (fk (f7.mk [] [] 0) fB fB)) Z Z Z Z (fun E => ?_))
 refine Ea Z<|fb<|fc<|fa<|EF 0 Z<|El (sv d) Z (Rb3 Z)<|EF 1 Z<|El (Vi p4.channel) Z (Rb1 Z)<|?_
 obtain ⟨b, bQ, H⟩ := bnd H
 obtain ⟨eE, cj, cd⟩ := Slr.at x bQ
 obtain ⟨y, rfl, aG⟩ := cj
 refine Eq Z (Qi (T := fH) x bQ Z)<|EL 3 (fy b y) Z (Rdc.k cd Z)<|?_
 refine fe Z (fD (cs := (fy (fL.mk 0 [] false) fB)) Z Z Z Z (fun X => ?_))
 refine fe Z (Sa (fy b y) Z .here Z ?_)
 refine fb<|fc<|fa<|EL 7 (fj p2 aA aB) Z (Rb3 Z)<|Em Z<|?_
 obtain ⟨a, dL, H⟩ := bnd H
 refine fe Z (Ek Tryz.call75 Z (nr p2 aA aB p3 a dL _ _ ch ci) ?_)
 rintro _ _ _ - ⟨rfl, rfl, rfl⟩
 refine Ea Z<|fb<|fc<|fa<|EL 3 (fk p0 d c) Z (Rb4 Z)<|Em Z<|EL 3 (fl p4) Z (Rb2 Z)<|?_
 obtain ⟨U, dM, H⟩ := bnd H
 refine fe Z (Ek Tryz.call80 Z (yN p0 d c p1 p4 U dM _ _ x C) ?_)
 rintro _ w _ g ⟨rfl, rfl⟩
 refine Ea Z<|fb<|fc<|fc<|fa<|EF 0 Z<|El (.bool p4.send) Z (Rb2 Z)<|fb<|?_
 refine fm Z ?_ ?_
 ·intro aL
  have H := ift aL H
  refine fc<|fc<|fa<|EF 2 Z<|El (.bool b.closed) Z (Rb0 Z)<|fb<|?_
  refine fm Z ?_ ?_
  ·intro aM
   have H := ift aM H
   refine fc<|fa<|EL 3 (fk p0 d c) Z (Rb4 Z)<|Em Z<|Em Z<|Eq Z (fG (cs := (ff (Result.mk 5 a 0 false 0))) Z Z Z Z Z Z)<|Eq Z (fG (cs := (fF (Done.mk p1 (Result.mk 5 a 0 false 0)))) Z Z Z Z Z Z)<|?_
   have bu : RowR fO w [(fF (Done.mk p1 (Result.mk 5 a 0 false 0)))] [(Done.mk p1 (Result.mk 5 a 0 false 0))] := RowR.cons Z (RowR.nil)
   refine fe Z (gh (T := fO) (rows := [(fF (Done.mk p1 (Result.mk 5 a 0 false 0)))]) (l := [(Done.mk p1 (Result.mk 5 a 0 false 0))]) Z Z Z bu Z Z Z Z Z Z Z Z (fun a1 => ?_))
   refine fe Z (Sa (fk p0 d c) Z (.there (.there .here)) Z ?_)
   refine Ea Z<|fb<|fx<|?_
   obtain ⟨N, O⟩ := ic H
   subst h u
   refine ⟨(.inl Z), [(.agg (fk p0 d c).toArray), (sv a1)], ⟨(.agg (fk p0 d c).toArray), _, Z, ⟨_, 3, (fk p0 d c), Z, Z, Z, Z, ⟨Z, Rb2 Z⟩, Z⟩, ⟨(sv a1), _, Z, Z, Z⟩⟩, ?_⟩
   refine Shift.settle (T := fO) .here bu Z ?_
   intro ed bi cN
   refine Re1<|Re1<|Re1<|Re1<|Re1<|?_
   have cO := (x.mono g).mono bi
   have cP := (C.mono g).mono bi
   exact Sd ⟨d, c, a1, Z, Z, cO, cP, cN⟩
  ·intro aM
   have H := f0 (btf aM) H
   refine ft<|fc<|fa<|Em Z<|Em Z<|Eq Z (fG (cs := (ff (Result.mk 1 a 0 false 0))) Z Z Z Z Z Z)<|Eq Z (fG (cs := (fF (Done.mk p1 (Result.mk 1 a 0 false 0)))) Z Z Z Z Z Z)<|?_
   have aP : RowR fO w [(fF (Done.mk p1 (Result.mk 1 a 0 false 0)))] [(Done.mk p1 (Result.mk 1 a 0 false 0))] := RowR.cons Z (RowR.nil)
   refine fe Z (gh (T := fO) (rows := [(fF (Done.mk p1 (Result.mk 1 a 0 false 0)))]) (l := [(Done.mk p1 (Result.mk 1 a 0 false 0))]) Z Z Z aP Z Z Z Z Z Z Z Z (fun af => ?_))
   refine Ea Z<|fb<|fc<|fc<|fa<|Em Z<|Ec Z<|fb<|?_
   refine fm Z ?_ ?_
   ·intro ap
    obtain ⟨ap, H⟩ := It ap H
    refine fc<|fa<|EF 1 Z<|El (sv c) Z (Rb5 Z)<|Em Z<|?_
    obtain ⟨L, bR, H⟩ := bnd H
    have aR := C.mono g
    obtain ⟨eF, ck, ce⟩ := Slr.at aR bR
    obtain ⟨ag, ah, rfl, cQ, cR⟩ := ck
    refine Eq Z (Qi (T := fJ) aR bR Z)<|EL 8 (f9 L ag ah) Z (Rdc.k ce Z)<|?_
    refine fe Z (fD (cs := (f9 (gd.mk 0 (Op.mk 0 0 0 0 0 [] [])) fB fB)) Z Z Z Z (fun ex => ?_))
    refine fe Z (Sa (f9 L ag ah) Z .here Z ?_)
    refine fb<|fc<|?_
    obtain ⟨an, dN, H⟩ := bnd H
    obtain ⟨b4, dO, H⟩ := bnd H
    obtain ⟨a9, dP, H⟩ := bnd H
    obtain ⟨d2, dQ, H⟩ := bnd H
    refine fw _ Z (Ic Mb0 (Ic Mb2 (Ic Mb4 (Ic Mb5 (Ic Mb6 In0)))))<|JL 0 3 (fk p0 d c) Z (Rb4 Z)<|Jm 1 Z<|Jm 3 Z<|JF 4 0 Z<|Jl 5 (Vi L.thread) Z (Rb0 Z)<|JF 6 1 Z<|JL 7 7 (fj L.op ag ah) Z (Rb0 Z)<|JF 8 1 Z<|JL 9 7 (fj L.op ag ah) Z (Rb0 Z)<|JF 10 1 Z<|Jl 11 (Vi p4.channel) Z (Rb2 Z)<|JF 14 2 Z<|Jl 15 (.int .u64 p4.value) Z (Rb2 Z)<|?_
    refine Ao 2 Z ?_
    have cS := x.mono g
    refine Ek Tryz.call76 Z (xE p0 d c U an dN _ _ cS aR) ?_
    rintro _ ee _ aN ⟨ai, aj, rfl, rfl, cT, cU⟩
    refine ⟨(Ic Mb1 (Ic Mb3 (Ic Mb5 (Ic Mb6 (Ic Mb7 In0))))), ?_⟩
    refine Ao 12 Z ?_
    have bH := cQ.mono aN
    have bI := cR.mono aN
    refine Ek Tryz.call74 Z (qz L.op ag ah p4.channel false b4 dO _ _ bH bI) ?_
    rintro _ ef _ aw ⟨rfl, rfl⟩
    refine ⟨(Ic Mb1 (Ic Mb3 (Ic Mb5 (Ic Mb6 (Ic Mb7 In0))))), ?_⟩
    refine Ao 13 Z ?_
    have cV := bH.mono aw
    have cW := bI.mono aw
    refine Ek Tryz.call75 Z (nr L.op ag ah b4 a9 dP _ _ cV cW) ?_
    rintro _ _ _ - ⟨rfl, rfl, rfl⟩
    refine ⟨(Ic Mb1 (Ic Mb3 (Ic Mb5 (Ic Mb6 (Ic Mb7 In0))))), ?_⟩
    refine Jq 16 Z (fG (cs := (ff (Result.mk 2 a9 p4.value true 0))) Z Z Z Z Z Z) ?_
    refine Ao 17 Z ?_
    have cY := (aP.mono aN).mono aw
    refine OpW.shift (Shift.settle (T := fO) (.there (.there .here)) cY Z (fun eg bj cX => Sd ?_))
    refine Ek Tryz.call77 Z (qA [(Done.mk p1 (Result.mk 1 a 0 false 0))] af L.thread (Result.mk 2 a9 p4.value true 0) d2 dQ _ _ cX) ?_
    rintro _ eh _ bk ⟨a2, rfl, rfl, cZ⟩
    refine ⟨(Ic Mb2 (Ic Mb4 (Ic Mb6 (Ic Mb7 (Ic Mb8 In0))))), ?_⟩
    refine Ao 18 Z ?_
    refine jN (vs := (fk an ai aj)) (all' := (fk an ai aj)) Z Z Z Z Z (.there (.there (.there (.there (.there .here))))) Z Z Z ⟨(Ic Mb2 (Ic Mb4 (Ic Mb6 (Ic Mb7 (Ic Mb8 In0))))), ?_⟩
    refine Ja 19 Z<|Ad<|fx<|?_
    obtain ⟨N, O⟩ := ic H
    subst h u
    refine ⟨(.inl Z), [(.agg (fk an ai aj).toArray), (sv a2)], ⟨(.agg (fk an ai aj).toArray), _, Z, ⟨_, 3, (fk an ai aj), Z, Z, Z, Z, ⟨Z, Rb5 Z⟩, Z⟩, ⟨(sv a2), _, Z, Z, Z⟩⟩, ?_⟩
    refine Re1<|Re1<|Re1<|Re1<|Re1<|Re1<|Re1<|Re1<|?_
    have c0 := ((cT.mono aw).mono bj).mono bk
    have c1 := ((cU.mono aw).mono bj).mono bk
    exact Sd ⟨ai, aj, a2, Z, Z, c0, c1, cZ⟩
   ·intro ap
    obtain ⟨ap, H⟩ := If ap H
    refine ft ?_
    refine fz (fun M i B => ∃ (ak : SV) (ae : ad2), [(5, (Vp V)), (9, (Vp W)), (10, (Vp E)), (12, (Vp X)), (15, (sv af))] = M ∧ (.blk X 104 (fy (fL.mk b.capacity ae b.closed) ak)) :: (.blk E 60 (fk (f7.mk [] [] 0) fB fB)) :: (.blk W 108 (fl p4)) :: (.blk V 60 (fk p0 d c)) :: (.tok 36 1 [(sv ak)]) :: (.row (sv af) 67 6 [(fF (Done.mk p1 (Result.mk 1 a 0 false 0)))].flatten) :: G = B ∧ vU p1 a b p4 p0 ae = some (h, u) ∧ Slr Ty.u64 i (sv ak) ae) ?_ ?_
    ·obtain ⟨eT, aU, H⟩ := bnd H
     obtain ⟨ao, aV, H⟩ := bnd H
     refine fw _ Z (Ic Mb0 (Ic Mb2 (Ic Mb3 (Ic Mb4 (Ic Mb5 In0)))))<|JF 0 1 Z<|JF 3 2 Z<|Jl 4 (.int .u64 p4.value) Z (Rb2 Z)<|?_
     refine gW 1 5 (by kernel_rfl) ?_ ?_
     ·refine id (Jyq Z (gr (v := (sv y)) Z Z Z (Rb1 Z)) ⟨(Ic Mb0 (Ic Mb2 (Ic Mb3 (Ic Mb4 (Ic Mb5 In0))))), ?_⟩)
      refine gW 2 5 (by kernel_rfl) ?_ ?_
      ·refine id (Jy Z ?_)
       refine OpW.shift (Shift.nilTok1 36 1 (Sd ?_))
       have c3 := aG.mono g
       refine f8 (T := Ty.u64) (bytes := 8) (q := 0) Z Z Z (Slr.nil Ty.u64 _) Mb0 Z (SrcT.sl c3) aU Z Z Z Z Z Z Z Z (fun eM b7 eA c4 => ⟨_, .here, ⟨(Ic Mb1 (Ic Mb3 (Ic Mb4 (Ic Mb5 (Ic Mb6 In0))))), ?_⟩⟩)
       refine Ao 5 Z ?_
       have bv : RowR Ty.u64 b7 [[(.int .u64 p4.value)]] [p4.value] := RowR.cons Z (RowR.nil)
       refine gh (T := Ty.u64) (rows := [[(.int .u64 p4.value)]]) (l := [p4.value]) Z Z Z bv Z Z Z Z Z Z Z Z (fun eN => ⟨(Ic Mb2 (Ic Mb4 (Ic Mb5 (Ic Mb6 (Ic Mb7 In0))))), ?_⟩)
       refine Ao 6 Z ?_
       refine f8 (T := Ty.u64) (bytes := 8) (q := 0) Z Z Z c4 Mb1 Z (SrcT.row Mb0 bv Z) aV Z Z Z Z Z Z Z Z (fun a3 ei eB c5 => ⟨_, (.there .here), ⟨(Ic Mb2 (Ic Mb4 (Ic Mb5 (Ic Mb6 (Ic Mb7 In0))))), ?_⟩⟩)
       refine Aw.shift (Re0 (Sd ⟨(Ic Mb1 (Ic Mb3 (Ic Mb4 (Ic Mb5 (Ic Mb6 In0))))), ?_⟩))
       refine JF 7 1 Z ?_
       refine Ao 8 Z ?_
       refine So [(sv a3)] (fy (fL.mk b.capacity ao b.closed) a3) Z (.there (.there .here)) Z ⟨(Ic Mb1 (Ic Mb3 (Ic Mb4 (Ic Mb5 (Ic Mb6 In0))))), ?_⟩
       exact Ad<|Pu1<|Pu1<|Pu6<|Pu5<|Pu5<|Pu5<|Re6<|Sd<|⟨_, by exact R5, a3, ao, Z, Z, H, c5⟩
      ·refine id (Jy Z ?_)
       have bw : RowR Ty.u64 w [[(.int .u64 p4.value)]] [p4.value] := RowR.cons Z (RowR.nil)
       refine gh (T := Ty.u64) (rows := [[(.int .u64 p4.value)]]) (l := [p4.value]) Z Z Z bw Z Z Z Z Z Z Z Z (fun eO => ⟨(Ic Mb1 (Ic Mb3 (Ic Mb4 (Ic Mb5 (Ic Mb6 In0))))), ?_⟩)
       refine Ao 2 Z ?_
       refine OpW.shift (Shift.nilTok1 36 1 (Sd ?_))
       have c6 := aG.mono g
       refine f8 (T := Ty.u64) (bytes := 8) (q := 0) Z Z Z (Slr.nil Ty.u64 _) Mb0 Z (SrcT.sl c6) aU Z Z Z Z Z Z Z Z (fun eP ej b8 c7 => ⟨_, .here, ⟨(Ic Mb2 (Ic Mb4 (Ic Mb5 (Ic Mb6 (Ic Mb7 In0))))), ?_⟩⟩)
       refine Ao 6 Z ?_
       have c8 := bw.mono b8
       refine f8 (T := Ty.u64) (bytes := 8) (q := 0) Z Z Z c7 Mb0 Z (SrcT.row Mb1 c8 Z) aV Z Z Z Z Z Z Z Z (fun a4 ek eC c9 => ⟨_, .here, ⟨(Ic Mb2 (Ic Mb4 (Ic Mb5 (Ic Mb6 (Ic Mb7 In0))))), ?_⟩⟩)
       refine Aw.shift (Re1 (Sd ⟨(Ic Mb1 (Ic Mb3 (Ic Mb4 (Ic Mb5 (Ic Mb6 In0))))), ?_⟩))
       refine JF 7 1 Z ?_
       refine Ao 8 Z ?_
       refine So [(sv a4)] (fy (fL.mk b.capacity ao b.closed) a4) Z (.there (.there .here)) Z ⟨(Ic Mb1 (Ic Mb3 (Ic Mb4 (Ic Mb5 (Ic Mb6 In0))))), ?_⟩
       exact Ad<|Pu1<|Pu1<|Pu6<|Pu5<|Pu5<|Pu5<|Re6<|Sd<|⟨_, by exact R5, a4, ao, Z, Z, H, c9⟩
     ·refine id (Jy Z ?_)
      have bx : RowR Ty.u64 w [[(.int .u64 p4.value)]] [p4.value] := RowR.cons Z (RowR.nil)
      refine gh (T := Ty.u64) (rows := [[(.int .u64 p4.value)]]) (l := [p4.value]) Z Z Z bx Z Z Z Z Z Z Z Z (fun eQ => ⟨(Ic Mb1 (Ic Mb3 (Ic Mb4 (Ic Mb5 (Ic Mb6 In0))))), ?_⟩)
      refine gB 1 (by kernel_rfl) (Jyq Z (gr (v := (sv y)) Z Z Z (Rb2 Z)) ⟨(Ic Mb1 (Ic Mb3 (Ic Mb4 (Ic Mb5 (Ic Mb6 In0))))), ?_⟩)
      refine Ao 2 Z ?_
      refine OpW.shift (Shift.nilTok1 36 1 (Sd ?_))
      have da := aG.mono g
      refine f8 (T := Ty.u64) (bytes := 8) (q := 0) Z Z Z (Slr.nil Ty.u64 _) Mb0 Z (SrcT.sl da) aU Z Z Z Z Z Z Z Z (fun eR el b9 db => ⟨_, .here, ⟨(Ic Mb2 (Ic Mb4 (Ic Mb5 (Ic Mb6 (Ic Mb7 In0))))), ?_⟩⟩)
      refine Ao 6 Z ?_
      have dc := bx.mono b9
      refine f8 (T := Ty.u64) (bytes := 8) (q := 0) Z Z Z db Mb0 Z (SrcT.row Mb1 dc Z) aV Z Z Z Z Z Z Z Z (fun a5 em eD dd => ⟨_, .here, ⟨(Ic Mb2 (Ic Mb4 (Ic Mb5 (Ic Mb6 (Ic Mb7 In0))))), ?_⟩⟩)
      refine Aw.shift (Re1 (Sd ⟨(Ic Mb1 (Ic Mb3 (Ic Mb4 (Ic Mb5 (Ic Mb6 In0))))), ?_⟩))
      refine JF 7 1 Z ?_
      refine Ao 8 Z ?_
      refine So [(sv a5)] (fy (fL.mk b.capacity ao b.closed) a5) Z (.there (.there .here)) Z ⟨(Ic Mb1 (Ic Mb3 (Ic Mb4 (Ic Mb5 (Ic Mb6 In0))))), ?_⟩
      exact Ad<|Pu1<|Pu1<|Pu6<|Pu5<|Pu5<|Pu5<|Re6<|Sd<|⟨_, by exact R5, a5, ao, Z, Z, H, dd⟩
    rintro _ en _ aO ⟨ak, ae, rfl, rfl, H, c2⟩
    unfold vU at H
    refine fc<|fa<|EL 3 (fk p0 d c) Z (Rb3 Z)<|EF 1 Z<|El (Vi p4.channel) Z (Rb2 Z)<|EL 3 (fy (fL.mk b.capacity ae b.closed) ak) Z (Rb0 Z)<|?_
    obtain ⟨aC, dR, H⟩ := bnd H
    have de := (x.mono g).mono aO
    have df := (C.mono g).mono aO
    refine fe Z (Ek Tryz.call73 Z (nq p0 d c p4.channel (fL.mk b.capacity ae b.closed) ak aC dR _ _ de df c2) ?_)
    rintro _ _ _ - ⟨ay, eI, az, rfl, rfl, rfl, dg, dh⟩
    refine Em Z ?_
    refine fe Z (Sa (fk aC ay az) Z (.there (.there .here)) Z ?_)
    refine Ea Z<|fb<|fx<|?_
    obtain ⟨N, O⟩ := ic H
    subst h u
    refine ⟨(.inl Z), [(.agg (fk aC ay az).toArray), (sv af)], ⟨(.agg (fk aC ay az).toArray), _, Z, ⟨_, 3, (fk aC ay az), Z, Z, Z, Z, ⟨Z, Rb2 Z⟩, Z⟩, ⟨(sv af), _, Z, Z, Z⟩⟩, ?_⟩
    refine Shift.settle (T := fH) .here dg Z ?_
    intro eo bl di
    have dk := (aP.mono aO).mono bl
    refine Shift.settle (T := fO) (.there (.there (.there (.there (.there (.there .here)))))) dk Z ?_
    intro ep bm dj
    refine Pu6<|Re1<|Re1<|Re1<|Re1<|Re1<|Re1<|?_
    have dl := di.mono bm
    have dm := (dh.mono bl).mono bm
    exact Sd ⟨ay, az, af, Z, Z, dl, dm, dj⟩
 ·intro aL
  have H := f0 (btf aL) H
  refine ft<|fc<|fa<|Em Z<|Eq Z (fG (cs := (ff (Result.mk 2 a 0 false 0))) Z Z Z Z Z Z)<|?_
  refine fe Z (fD (cs := (ff (Result.mk 0 0 0 false 0))) Z Z Z Z (fun aF => ?_))
  refine fe Z (Sa (ff (Result.mk 2 a 0 false 0)) Z .here Z ?_)
  refine fb ?_
  refine fz (fun M i B => ∃ (f : Int) (e : Bool) (J : SV) (I : ad2), [(1, (Vi p1)), (5, (Vp V)), (9, (Vp W)), (10, (Vp E)), (12, (Vp X)), (14, (Vi U)), (17, (Vp aF))] = M ∧ w = i ∧ (.blk aF 38 (ff (Result.mk 2 a f e 0))) :: (.blk X 104 (fy (fL.mk b.capacity I b.closed) J)) :: (.blk E 60 (fk (f7.mk [] [] 0) fB fB)) :: (.blk W 108 (fl p4)) :: (.blk V 60 (fk p0 d c)) :: G = B ∧ sX p1 U a b p4 p0 f e I = some (h, u) ∧ Slr Ty.u64 i (sv J) I) ?_ ?_
  ·refine fc<|fa<|EF 1 Z<|El (sv y) Z (Rb1 Z)<|?_
   have ab := aG.mono g
   refine Eq Z (ge (T := Ty.u64) ab Z Z)<|Ec Z<|fb<|?_
   refine fm Z ?_ ?_
   ·intro aq
    obtain ⟨aq, H⟩ := It aq H
    refine fc<|fa<|EF 1 Z<|El (sv y) Z (Rb1 Z)<|?_
    obtain ⟨aD, bS, H⟩ := bnd H
    obtain ⟨_, rfl, cf⟩ := Slr.at ab bS
    refine Eq Z (Qi (T := Ty.u64) ab bS Z)<|El (.int .u64 aD) Z (Rdc.k cf Z)<|EF 2 Z<|?_
    refine fe Z (So [(.int .u64 aD)] (ff (Result.mk 2 a aD false 0)) Z .here Z ?_)
    refine EF 3 Z ?_
    refine fe Z (So [(.bool true)] (ff (Result.mk 2 a aD true 0)) Z .here Z ?_)
    refine fb<|fa<|EF 1 Z<|El (sv y) Z (Rb1 Z)<|?_
    obtain ⟨b5, bT, H⟩ := bnd H
    have dn := Slr.cutL ab bT
    refine Eq Z (lg (T := Ty.u64) ab bT Z Z Z Z Z)<|EF 1 Z<|?_
    refine fe Z (So [(sv (iR y 1 ((1 : Int).toNat) b.buffer.length))] (fy (fL.mk b.capacity b5 b.closed) (iR y 1 ((1 : Int).toNat) b.buffer.length)) Z (.there .here) Z ?_)
    exact fb<|Pu5<|Pu4<|Pu4<|Pu4<|Pu4<|Re5<|Sd<|⟨_, by exact R7, aD, true, (iR y 1 ((1 : Int).toNat) b.buffer.length), b5, Z, Z, Z, H, dn⟩
   ·intro aq
    obtain ⟨aq, H⟩ := If aq H
    refine fc<|fa<|Em Z<|Ec Z<|fb<|?_
    refine fm Z ?_ ?_
    ·intro ar
     obtain ⟨ar, H⟩ := It ar H
     refine fc<|fw _ Z (Ic Mb0 (Ic Mb1 (Ic Mb3 (Ic Mb4 (Ic Mb5 In0)))))<|JL 0 3 (fk p0 d c) Z (Rb4 Z)<|Jm 1 Z<|JL 2 5 (ff (Result.mk 2 a 0 false 0)) Z (Rb0 Z)<|Jq 3 Z (fG (cs := (fF (Done.mk p1 (Result.mk 2 a 0 false 0)))) Z Z Z Z Z Z)<|?_
     refine gW 4 5 (by kernel_rfl) ?_ ?_
     ·refine id (Jy Z ?_)
      have bz : RowR fO w [(fF (Done.mk p1 (Result.mk 2 a 0 false 0)))] [(Done.mk p1 (Result.mk 2 a 0 false 0))] := RowR.cons Z (RowR.nil)
      refine gh (T := fO) (rows := [(fF (Done.mk p1 (Result.mk 2 a 0 false 0)))]) (l := [(Done.mk p1 (Result.mk 2 a 0 false 0))]) Z Z Z bz Z Z Z Z Z Z Z Z (fun a6 => ⟨(Ic Mb1 (Ic Mb2 (Ic Mb4 (Ic Mb5 (Ic Mb6 In0))))), ?_⟩)
      refine Ao 5 Z ?_
      refine Sa (fk p0 d c) Z (.there (.there (.there .here))) Z ⟨(Ic Mb1 (Ic Mb2 (Ic Mb4 (Ic Mb5 (Ic Mb6 In0))))), ?_⟩
      refine Ja 6 Z<|Ad<|fx<|?_
      obtain ⟨N, O⟩ := ic H
      subst h u
      refine ⟨(.inl Z), [(.agg (fk p0 d c).toArray), (sv a6)], ⟨(.agg (fk p0 d c).toArray), _, Z, ⟨_, 3, (fk p0 d c), Z, Z, Z, Z, ⟨Z, Rb3 Z⟩, Z⟩, ⟨(sv a6), _, Z, Z, Z⟩⟩, ?_⟩
      refine Shift.settle (T := fO) .here bz Z ?_
      intro er bn dp
      refine Re1<|Re1<|Re1<|Re1<|Re1<|Re1<|?_
      have dq := (x.mono g).mono bn
      have dr := (C.mono g).mono bn
      exact Sd ⟨d, c, a6, Z, Z, dq, dr, dp⟩
     ·refine id (Jy Z ?_)
      refine Sa (fk p0 d c) Z (.there (.there .here)) Z ⟨(Ic Mb0 (Ic Mb1 (Ic Mb3 (Ic Mb4 (Ic Mb5 In0))))), ?_⟩
      refine Ao 4 Z ?_
      have bA : RowR fO w [(fF (Done.mk p1 (Result.mk 2 a 0 false 0)))] [(Done.mk p1 (Result.mk 2 a 0 false 0))] := RowR.cons Z (RowR.nil)
      refine gh (T := fO) (rows := [(fF (Done.mk p1 (Result.mk 2 a 0 false 0)))]) (l := [(Done.mk p1 (Result.mk 2 a 0 false 0))]) Z Z Z bA Z Z Z Z Z Z Z Z (fun a7 => ⟨(Ic Mb1 (Ic Mb2 (Ic Mb4 (Ic Mb5 (Ic Mb6 In0))))), ?_⟩)
      refine Ja 6 Z<|Ad<|fx<|?_
      obtain ⟨N, O⟩ := ic H
      subst h u
      refine ⟨(.inl Z), [(.agg (fk p0 d c).toArray), (sv a7)], ⟨(.agg (fk p0 d c).toArray), _, Z, ⟨_, 3, (fk p0 d c), Z, Z, Z, Z, ⟨Z, Rb3 Z⟩, Z⟩, ⟨(sv a7), _, Z, Z, Z⟩⟩, ?_⟩
      refine Shift.settle (T := fO) .here bA Z ?_
      intro es bo ds
      refine Re1<|Re1<|Re1<|Re1<|Re1<|Re1<|?_
      have dt := (x.mono g).mono bo
      have du := (C.mono g).mono bo
      exact Sd ⟨d, c, a7, Z, Z, dt, du, ds⟩
    ·intro ar
     obtain ⟨ar, H⟩ := If ar H
     exact ft<|Pu5<|Pu4<|Pu4<|Pu4<|Pu4<|Re5<|Sd<|⟨_, by exact R7, 0, false, y, b.buffer, Z, Z, Z, H, ab⟩
  rintro _ _ _ - ⟨f, e, J, I, rfl, rfl, rfl, H, aH⟩
  unfold sX at H
  refine fc<|fc<|fa<|Em Z<|Ec Z<|fb<|?_
  refine fm Z ?_ ?_
  ·intro au
   obtain ⟨au, H⟩ := It au H
   refine fz (fun M i B => ∃ (al : SV) (aW : List (List Value)) (R : SV) (P : ad1) (aX : List (List Value)) (S : SV) (Q : ae0) (ac : Int), [(10, (Vp E)), (11, (sv al))] = M ∧ w = i ∧ (.blk E 60 (fk (f7.mk P Q ac) R S)) :: (.row (sv al) 67 6 aW.flatten) :: (.row (sv R) 104 3 aX.flatten) :: G = B ∧ zY p1 a f e P Q ac = some (h, u) ∧ RowR fO i aW [(Done.mk p1 (Result.mk 2 a f e 0))] ∧ RowR fH i aX P ∧ Slr fJ i (sv S) Q) ?_ ?_
   ·obtain ⟨s, bU, H⟩ := bnd H
    refine fw _ Z (Ic Mb0 (Ic Mb1 (Ic Mb3 (Ic Mb4 In0))))<|JL 0 3 (fk p0 d c) Z (Rb3 Z)<|JF 1 1 Z<|Jl 2 (Vi p4.channel) Z (Rb2 Z)<|JL 3 3 (fy (fL.mk b.capacity I b.closed) J) Z (Rb1 Z)<|Jm 5 Z<|JL 6 5 (ff (Result.mk 2 a f e 0)) Z (Rb0 Z)<|Jq 7 Z (fG (cs := (fF (Done.mk p1 (Result.mk 2 a f e 0)))) Z Z Z Z Z Z)<|?_
    refine gW 4 8 (by kernel_rfl) ?_ ?_
    ·refine id (Jy Z ?_)
     have dw := x.mono g
     have dx := C.mono g
     refine Ek Tryz.call73 Z (nq p0 d c p4.channel (fL.mk b.capacity I b.closed) J s bU _ _ dw dx aH) ?_
     rintro _ _ _ - ⟨aI, bW, aJ, rfl, rfl, rfl, bJ, bK⟩
     refine ⟨(Ic Mb1 (Ic Mb2 (Ic Mb4 (Ic Mb5 In0)))), ?_⟩
     refine gW 8 9 (by kernel_rfl) ?_ ?_
     ·refine id (Jy Z ?_)
      have bB : RowR fO w [(fF (Done.mk p1 (Result.mk 2 a f e 0)))] [(Done.mk p1 (Result.mk 2 a f e 0))] := RowR.cons Z (RowR.nil)
      refine gh (T := fO) (rows := [(fF (Done.mk p1 (Result.mk 2 a f e 0)))]) (l := [(Done.mk p1 (Result.mk 2 a f e 0))]) Z Z Z bB Z Z Z Z Z Z Z Z (fun dZ => ⟨(Ic Mb2 (Ic Mb3 (Ic Mb5 (Ic Mb6 In0)))), ?_⟩)
      refine Ao 9 Z ?_
      refine Sa (fk s aI aJ) Z (.there (.there (.there (.there .here)))) Z ⟨(Ic Mb2 (Ic Mb3 (Ic Mb5 (Ic Mb6 In0)))), ?_⟩
      exact Ja 10 Z<|Ad<|Pu1<|Pu1<|Pu4<|Re3<|Re3<|Re3<|Re3<|Sd<|⟨_, by exact R2, dZ, [(fF (Done.mk p1 (Result.mk 2 a f e 0)))], aI, s.chans, bW, aJ, s.waiting, s.tick, Z, Z, Z, H, bB, bJ, bK⟩
     ·refine id (Jy Z ?_)
      refine Sa (fk s aI aJ) Z (.there (.there (.there .here))) Z ⟨(Ic Mb1 (Ic Mb2 (Ic Mb4 (Ic Mb5 In0)))), ?_⟩
      refine Ao 8 Z ?_
      have bC : RowR fO w [(fF (Done.mk p1 (Result.mk 2 a f e 0)))] [(Done.mk p1 (Result.mk 2 a f e 0))] := RowR.cons Z (RowR.nil)
      refine gh (T := fO) (rows := [(fF (Done.mk p1 (Result.mk 2 a f e 0)))]) (l := [(Done.mk p1 (Result.mk 2 a f e 0))]) Z Z Z bC Z Z Z Z Z Z Z Z (fun d0 => ⟨(Ic Mb2 (Ic Mb3 (Ic Mb5 (Ic Mb6 In0)))), ?_⟩)
      exact Ja 10 Z<|Ad<|Pu1<|Pu1<|Pu4<|Re3<|Re3<|Re3<|Re3<|Sd<|⟨_, by exact R2, d0, [(fF (Done.mk p1 (Result.mk 2 a f e 0)))], aI, s.chans, bW, aJ, s.waiting, s.tick, Z, Z, Z, H, bC, bJ, bK⟩
    ·refine id (Jy Z ?_)
     have bD : RowR fO w [(fF (Done.mk p1 (Result.mk 2 a f e 0)))] [(Done.mk p1 (Result.mk 2 a f e 0))] := RowR.cons Z (RowR.nil)
     refine gh (T := fO) (rows := [(fF (Done.mk p1 (Result.mk 2 a f e 0)))]) (l := [(Done.mk p1 (Result.mk 2 a f e 0))]) Z Z Z bD Z Z Z Z Z Z Z Z (fun d1 => ⟨(Ic Mb1 (Ic Mb2 (Ic Mb4 (Ic Mb5 In0)))), ?_⟩)
     refine Ao 4 Z ?_
     have dy := x.mono g
     have dz := C.mono g
     refine Ek Tryz.call73 Z (nq p0 d c p4.channel (fL.mk b.capacity I b.closed) J s bU _ _ dy dz aH) ?_
     rintro _ _ _ - ⟨bX, dU, bY, rfl, rfl, rfl, dA, dB⟩
     refine ⟨(Ic Mb2 (Ic Mb3 (Ic Mb5 (Ic Mb6 In0)))), ?_⟩
     refine Ao 9 Z ?_
     refine Sa (fk s bX bY) Z (.there (.there (.there (.there .here)))) Z ⟨(Ic Mb2 (Ic Mb3 (Ic Mb5 (Ic Mb6 In0)))), ?_⟩
     exact Ja 10 Z<|Ad<|Pu1<|Pu4<|Re3<|Re3<|Re3<|Re3<|Sd<|⟨_, by exact R2, d1, [(fF (Done.mk p1 (Result.mk 2 a f e 0)))], bX, s.chans, dU, bY, s.waiting, s.tick, Z, Z, Z, H, bD, dA, dB⟩
   rintro _ _ _ - ⟨al, aW, R, P, aX, S, Q, ac, rfl, rfl, rfl, H, ca, cb, dv⟩
   unfold zY at H
   refine fx ?_
   obtain ⟨N, O⟩ := ic H
   subst h u
   refine ⟨(.inl Z), [(.agg (fk (f7.mk P Q ac) R S).toArray), (sv al)], ⟨(.agg (fk (f7.mk P Q ac) R S).toArray), _, Z, ⟨_, 3, (fk (f7.mk P Q ac) R S), Z, Z, Z, Z, ⟨Z, Rb0 Z⟩, Z⟩, ⟨(sv al), _, Z, Z, Z⟩⟩, ?_⟩
   refine Shift.settle (T := fH) (.there (.there .here)) cb Z ?_
   intro et bp dC
   have dE := ca.mono bp
   refine Shift.settle (T := fO) (.there .here) dE Z ?_
   intro eu bq dD
   refine Pu1<|Re1<|Re1<|?_
   have dF := dC.mono bq
   have dG := (dv.mono bp).mono bq
   exact Sd ⟨R, S, al, Z, Z, dF, dG, dD⟩
  ·intro au
   obtain ⟨au, H⟩ := If au H
   refine ft<|fc<|fa<|EF 1 Z<|El (sv c) Z (Rb4 Z)<|Em Z<|?_
   obtain ⟨t, bV, H⟩ := bnd H
   have aS := C.mono g
   obtain ⟨eG, cl, cg⟩ := Slr.at aS bV
   obtain ⟨z, A, rfl, bL, bM⟩ := cl
   refine Eq Z (Qi (T := fJ) aS bV Z)<|EL 8 (f9 t z A) Z (Rdc.k cg Z)<|?_
   refine fe Z (fD (cs := (f9 (gd.mk 0 (Op.mk 0 0 0 0 0 [] [])) fB fB)) Z Z Z Z (fun bb => ?_))
   refine fe Z (Sa (f9 t z A) Z .here Z ?_)
   refine fb<|fc<|fa<|EF 1 Z<|EL 7 (fj t.op z A) Z (Rb0 Z)<|EF 1 Z<|El (Vi p4.channel) Z (Rb4 Z)<|?_
   obtain ⟨aE, dS, H⟩ := bnd H
   refine fe Z (Ek Tryz.call74 Z (qz t.op z A p4.channel true aE dS _ _ bL bM) ?_)
   rintro _ ev _ aa ⟨rfl, rfl⟩
   refine Ea Z<|fb<|fc<|fa<|EF 1 Z<|EL 7 (fj t.op z A) Z (Rb0 Z)<|?_
   obtain ⟨d3, dT, H⟩ := bnd H
   have aT := bL.mono aa
   have aQ := bM.mono aa
   refine fe Z (Ek Tryz.call44 Z (ln t.op z A d3 dT _ _ aT aQ) ?_)
   rintro _ d4 _ F ⟨eJ, rfl, rfl, bE⟩
   refine Em Z ?_
   obtain ⟨D, bN, H⟩ := bnd H
   obtain ⟨_, rfl, cc⟩ := Slr.at bE bN
   refine Eq Z (Qi (T := fW) bE bN Z)<|EF 2 Z<|El (.int .u64 D.value) Z (Rdc.k cc Z)<|Ea Z<|fb<|?_
   refine fz (fun M i B => ∃ (j : Int) (n : Bool) (ax : SV) (ad : ad2), [(1, (Vi p1)), (5, (Vp V)), (9, (Vp W)), (10, (Vp E)), (12, (Vp X)), (14, (Vi U)), (17, (Vp aF)), (18, (Vp bb)), (19, (Vi aE))] = M ∧ (.blk bb 96 (f9 t z A)) :: (.blk aF 38 (ff (Result.mk 2 a j n 0))) :: (.blk X 104 (fy (fL.mk b.capacity ad b.closed) ax)) :: (.blk E 60 (fk (f7.mk [] [] 0) fB fB)) :: (.blk W 108 (fl p4)) :: (.blk V 60 (fk p0 d c)) :: G = B ∧ oD p1 U aE t a b p4 p0 j n ad = some (h, u) ∧ Slr Ty.u64 i (sv ax) ad) ?_ ?_
   ·refine fc<|fa<|EF 3 Z<|El (.bool e) Z (Rb1 Z)<|fb<|?_
    refine fm Z ?_ ?_
    ·intro aK
     have H := ift aK H
     refine fa<|EF 1 Z<|El (sv J) Z (Rb2 Z)<|?_
     refine Ow.shift (Shift.nilTok1 36 1 (Sd ?_))
     obtain ⟨eS, dH, H⟩ := bnd H
     have cn := (aH.mono aa).mono F
     refine fe Z (f8 (T := Ty.u64) (bytes := 8) (q := 0) Z Z Z (Slr.nil Ty.u64 _) Mb0 Z (SrcT.sl cn) dH Z Z Z Z Z Z Z Z (fun eK b6 ey co => ⟨_, .here, ?_⟩))
     refine Em Z ?_
     have br : RowR Ty.u64 b6 [[(.int .u64 D.value)]] [D.value] := RowR.cons Z (RowR.nil)
     refine fe Z (gh (T := Ty.u64) (rows := [[(.int .u64 D.value)]]) (l := [D.value]) Z Z Z br Z Z Z Z Z Z Z Z (fun eL => ?_))
     obtain ⟨b1, dI, H⟩ := bnd H
     refine fe Z (f8 (T := Ty.u64) (bytes := 8) (q := 0) Z Z Z co Mb1 Z (SrcT.row Mb0 br Z) dI Z Z Z Z Z Z Z Z (fun aY d5 ez cp => ⟨_, (.there .here), ?_⟩))
     refine Ow.shift (Re0 (Sd ?_))
     refine EF 1 Z ?_
     refine fe Z (So [(sv aY)] (fy (fL.mk b.capacity b1 b.closed) aY) Z (.there (.there (.there .here))) Z ?_)
     exact fb<|Pu6<|Pu6<|Pu6<|Pu6<|Pu6<|Pu6<|Re6<|Sd<|⟨_, by exact R9, f, e, aY, b1, Z, Z, H, cp⟩
    ·intro aK
     have H := f0 (btf aK) H
     refine fa<|Em Z<|EF 2 Z<|?_
     refine fe Z (So [(.int .u64 D.value)] (ff (Result.mk 2 a D.value e 0)) Z (.there .here) Z ?_)
     refine EF 3 Z ?_
     refine fe Z (So [(.bool true)] (ff (Result.mk 2 a D.value true 0)) Z (.there .here) Z ?_)
     refine fb<|Pu5<|Pu5<|Pu5<|Pu5<|Pu5<|Pu5<|?_
     have cq := (aH.mono aa).mono F
     exact Sd ⟨_, by exact R9, D.value, true, J, I, Z, Z, H, cq⟩
   rintro _ d6 _ Y ⟨j, n, ax, ad, rfl, rfl, H, cm⟩
   unfold oD at H
   refine fc ?_
   obtain ⟨b2, dJ, H⟩ := bnd H
   obtain ⟨r, dK, H⟩ := bnd H
   refine fw _ Z (Ic Mb0 (Ic Mb1 (Ic Mb2 (Ic Mb3 (Ic Mb4 In0)))))<|Jm 1 Z<|JF 3 1 Z<|Jl 4 (Vi p4.channel) Z (Rb4 Z)<|JL 5 3 (fy (fL.mk b.capacity ad b.closed) ax) Z (Rb2 Z)<|?_
   refine gB 0 (by kernel_rfl) (Jyq Z (jj (m := 3) (cs := (fk p0 d c)) Z Z Z Z ⟨Z, Rb5 Z⟩) ⟨(Ic Mb0 (Ic Mb1 (Ic Mb2 (Ic Mb3 (Ic Mb4 In0))))), ?_⟩)
   refine Ao 2 Z ?_
   have cr := (((x.mono g).mono aa).mono F).mono Y
   have ct := ((aS.mono aa).mono F).mono Y
   refine Ek Tryz.call76 Z (xE p0 d c U b2 dJ _ _ cr ct) ?_
   rintro _ ba _ av ⟨dV, dW, rfl, rfl, cu, cv⟩
   refine ⟨(Ic Mb1 (Ic Mb2 (Ic Mb3 (Ic Mb4 (Ic Mb5 In0))))), ?_⟩
   refine Ao 6 Z ?_
   have cw := cm.mono av
   refine Ek Tryz.call73 Z (nq b2 dV dW p4.channel (fL.mk b.capacity ad b.closed) ax r dK _ _ cu cv cw) ?_
   rintro _ _ _ - ⟨o, eH, p, rfl, rfl, rfl, bF, bG⟩
   refine ⟨(Ic Mb2 (Ic Mb3 (Ic Mb4 (Ic Mb5 (Ic Mb6 In0))))), ?_⟩
   refine Ao 7 Z ?_
   refine jN (vs := (fk r o p)) (all' := (fk r o p)) Z Z Z Z Z (.there (.there (.there (.there (.there (.there (.there .here))))))) Z Z Z ⟨(Ic Mb2 (Ic Mb3 (Ic Mb4 (Ic Mb5 (Ic Mb6 In0))))), ?_⟩
   refine Ad<|fc<|?_
   obtain ⟨am, bO, H⟩ := bnd H
   obtain ⟨b3, bP, H⟩ := bnd H
   refine fw _ Z (Ic Mb0 (Ic Mb1 (Ic Mb2 (Ic Mb3 (Ic Mb4 (Ic Mb6 (Ic Mb7 In0)))))))<|JL 0 3 (fk r o p) Z (Rb6 Z)<|Jm 1 Z<|JL 2 5 (ff (Result.mk 2 a j n 0)) Z (Rb3 Z)<|Jq 3 Z (fG (cs := (fF (Done.mk p1 (Result.mk 2 a j n 0)))) Z Z Z Z Z Z)<|JF 5 0 Z<|Jl 6 (Vi t.thread) Z (Rb2 Z)<|JF 7 1 Z<|JL 8 7 (fj t.op z A) Z (Rb2 Z)<|Jm 9 Z<|?_
   refine gW 4 10 (by kernel_rfl) ?_ ?_
   ·refine id (Jy Z ?_)
    have bs : RowR fO ba [(fF (Done.mk p1 (Result.mk 2 a j n 0)))] [(Done.mk p1 (Result.mk 2 a j n 0))] := RowR.cons Z (RowR.nil)
    refine gh (T := fO) (rows := [(fF (Done.mk p1 (Result.mk 2 a j n 0)))]) (l := [(Done.mk p1 (Result.mk 2 a j n 0))]) Z Z Z bs Z Z Z Z Z Z Z Z (fun dX => ⟨(Ic Mb1 (Ic Mb2 (Ic Mb3 (Ic Mb4 (Ic Mb5 (Ic Mb7 (Ic Mb8 In0))))))), ?_⟩)
    refine Ao 10 Z ?_
    have cx := ((aT.mono F).mono Y).mono av
    have cy := ((aQ.mono F).mono Y).mono av
    refine Ek Tryz.call75 Z (nr t.op z A aE am bO _ _ cx cy) ?_
    rintro _ _ _ - ⟨rfl, rfl, rfl⟩
    refine ⟨(Ic Mb1 (Ic Mb2 (Ic Mb3 (Ic Mb4 (Ic Mb5 (Ic Mb7 (Ic Mb8 In0))))))), ?_⟩
    refine Jq 11 Z (fG (cs := (ff (Result.mk 1 am 0 false 0))) Z Z Z Z Z Z) ?_
    refine Ao 12 Z ?_
    refine OpW.shift (Shift.settle (T := fO) .here bs Z (fun d7 bc cz => Sd ?_))
    refine Ek Tryz.call77 Z (qA [(Done.mk p1 (Result.mk 2 a j n 0))] dX t.thread (Result.mk 1 am 0 false 0) b3 bP _ _ cz) ?_
    rintro _ d8 _ bd ⟨aZ, rfl, rfl, cA⟩
    refine ⟨(Ic Mb2 (Ic Mb3 (Ic Mb4 (Ic Mb5 (Ic Mb6 (Ic Mb8 (Ic Mb9 In0))))))), ?_⟩
    refine Ao 13 Z ?_
    refine jN (vs := (fk r o p)) (all' := (fk r o p)) Z Z Z Z Z (.there (.there (.there (.there (.there (.there (.there .here))))))) Z Z Z ⟨(Ic Mb2 (Ic Mb3 (Ic Mb4 (Ic Mb5 (Ic Mb6 (Ic Mb8 (Ic Mb9 In0))))))), ?_⟩
    refine Ja 14 Z<|Ad<|fx<|?_
    obtain ⟨N, O⟩ := ic H
    subst h u
    refine ⟨(.inl Z), [(.agg (fk r o p).toArray), (sv aZ)], ⟨(.agg (fk r o p).toArray), _, Z, ⟨_, 3, (fk r o p), Z, Z, Z, Z, ⟨Z, Rb7 Z⟩, Z⟩, ⟨(sv aZ), _, Z, Z, Z⟩⟩, ?_⟩
    have cC := (bF.mono bc).mono bd
    refine Shift.settle (T := fH) (.there (.there .here)) cC Z ?_
    intro d9 be cB
    refine Re1<|Re1<|Re1<|Re1<|Re1<|Re1<|Re1<|Re1<|Re1<|?_
    have cD := ((bG.mono bc).mono bd).mono be
    have cE := cA.mono be
    exact Sd ⟨o, p, aZ, Z, Z, cB, cD, cE⟩
   ·refine id (Jy Z ?_)
    have cF := ((aT.mono F).mono Y).mono av
    have cG := ((aQ.mono F).mono Y).mono av
    refine Ek Tryz.call75 Z (nr t.op z A aE am bO _ _ cF cG) ?_
    rintro _ _ _ - ⟨rfl, rfl, rfl⟩
    refine ⟨(Ic Mb0 (Ic Mb1 (Ic Mb2 (Ic Mb3 (Ic Mb4 (Ic Mb6 (Ic Mb7 In0))))))), ?_⟩
    refine Jq 11 Z (fG (cs := (ff (Result.mk 1 am 0 false 0))) Z Z Z Z Z Z) ?_
    refine Ao 4 Z ?_
    have bt : RowR fO ba [(fF (Done.mk p1 (Result.mk 2 a j n 0)))] [(Done.mk p1 (Result.mk 2 a j n 0))] := RowR.cons Z (RowR.nil)
    refine gh (T := fO) (rows := [(fF (Done.mk p1 (Result.mk 2 a j n 0)))]) (l := [(Done.mk p1 (Result.mk 2 a j n 0))]) Z Z Z bt Z Z Z Z Z Z Z Z (fun dY => ⟨(Ic Mb1 (Ic Mb2 (Ic Mb3 (Ic Mb4 (Ic Mb5 (Ic Mb7 (Ic Mb8 In0))))))), ?_⟩)
    refine Ao 12 Z ?_
    refine OpW.shift (Shift.settle (T := fO) .here bt Z (fun ea bf cH => Sd ?_))
    refine Ek Tryz.call77 Z (qA [(Done.mk p1 (Result.mk 2 a j n 0))] dY t.thread (Result.mk 1 am 0 false 0) b3 bP _ _ cH) ?_
    rintro _ eb _ bg ⟨a0, rfl, rfl, cI⟩
    refine ⟨(Ic Mb2 (Ic Mb3 (Ic Mb4 (Ic Mb5 (Ic Mb6 (Ic Mb8 (Ic Mb9 In0))))))), ?_⟩
    refine Ao 13 Z ?_
    refine jN (vs := (fk r o p)) (all' := (fk r o p)) Z Z Z Z Z (.there (.there (.there (.there (.there (.there (.there .here))))))) Z Z Z ⟨(Ic Mb2 (Ic Mb3 (Ic Mb4 (Ic Mb5 (Ic Mb6 (Ic Mb8 (Ic Mb9 In0))))))), ?_⟩
    refine Ja 14 Z<|Ad<|fx<|?_
    obtain ⟨N, O⟩ := ic H
    subst h u
    refine ⟨(.inl Z), [(.agg (fk r o p).toArray), (sv a0)], ⟨(.agg (fk r o p).toArray), _, Z, ⟨_, 3, (fk r o p), Z, Z, Z, Z, ⟨Z, Rb7 Z⟩, Z⟩, ⟨(sv a0), _, Z, Z, Z⟩⟩, ?_⟩
    have cK := (bF.mono bf).mono bg
    refine Shift.settle (T := fH) (.there (.there .here)) cK Z ?_
    intro ec bh cJ
    refine Re1<|Re1<|Re1<|Re1<|Re1<|Re1<|Re1<|Re1<|Re1<|?_
    have cL := ((bG.mono bf).mono bg).mono bh
    have cM := cI.mono bh
    exact Sd ⟨o, p, a0, Z, Z, cJ, cL, cM⟩
end Go.Hx
