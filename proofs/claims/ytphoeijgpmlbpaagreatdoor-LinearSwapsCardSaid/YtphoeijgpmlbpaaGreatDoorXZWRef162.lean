
import Derived.Test.YtphoeijgpmlbpaaGreatDoorXZM
import Derived.Test.YtphoeijgpmlbpaaGreatDoorXZWLinear2
import Derived.Test.YtphoeijgpmlbpaaGreatDoorXZWLaw171
import Derived.Test.YtphoeijgpmlbpaaGreatDoorXZWDraw
set_option linter.unusedVariables false
set_option linter.unusedSimpArgs false
namespace Go.Hx
open Go Go.Proofs
set_option maxRecDepth 10000
set_option maxHeartbeats 1000000
theorem Cc (j : Nat) (I : ae3) (y : SV) (F : ad6) (x : SV) (E : ae5) (u : SV) (D : af4) (t : SV) (C : ae0) (a : SV) (J : ad5) (b : SV) (h : Bool) (i : Bool) (L : ad8) (e : SV) (s : List (List Value)) (p1 : ad0) (ai : SV) (p2 : Int) (p3 : Int) (O : Bool) (H : rK I F E D C J h i L p1 p2 p3 = some O) (K : Kp) (G : List Ent) (aw : Slr (Ty.sl gK) K (sv y) I) (av : Slr f5 K (sv x) F) (au : Slr ib K (sv u) E) (ar : Slr (Ty.sl Ty.bool) K (sv t) D) (A : Slr Ty.bool K (sv a) C) (P : Slr fN K (sv b) J) (ax : RowR Ty.str K s L) (a4 : Slr fG K (sv ai) p1) :
  Fc Tryz.prog 54 #[(Vp j), (sv ai), (Vi p2), (Vi p3)] K ((.blk j 76 [(sv y), (sv x), (sv u), (sv t), (sv a), (sv b), (.bool h), (.bool i), (sv e)]) :: (.row (sv e) 9 1 s.flatten) :: G) (fun v U z => v = (.bool O) ∧ (.blk j 76 [(sv y), (sv x), (sv u), (sv t), (sv a), (sv b), (.bool h), (.bool i), (sv e)]) :: (.row (sv e) 9 1 s.flatten) :: G = z) := by
 refine fO Tryz.func54 rfl Tryz.ntmps54 Tryz.results54 rfl ?_
 unfold rK at H
 refine fc<|fa<|Ea Z<|fb<|fc<|fa<|Em Z<|Em Z<|Em Z<|?_
 obtain ⟨aH, a9, H⟩ := bnd H
 refine Ow.shift (Pu1 (Sd ?_))
 refine Ow.shift (Pu1 (Sd ?_))
 refine ff rfl (Ek Tryz.call52 Z (m8 j I y F x E u D t C a J b h i L e s p2 aH a9 _ _ aw av au ar A P ax) ?_)
 rintro _ _ _ - ⟨bd, be, rfl, rfl, rfl, a5, a6⟩
 refine Em Z<|Em Z<|?_
 obtain ⟨aI, ba, H⟩ := bnd H
 refine Ow.shift (Pu1 (Sd ?_))
 refine Ow.shift (Pu1 (Sd ?_))
 refine ff rfl (Ek Tryz.call52 Z (m8 j I y F x E u D t C a J b h i L e s p3 aI ba _ _ aw av au ar A P ax) ?_)
 rintro _ _ _ - ⟨bf, bg, rfl, rfl, rfl, a7, a8⟩
 obtain ⟨ap, bb, H⟩ := bnd H
 refine ff rfl (Ek Tryz.call86 Z (zn p1 ai aH bd be aI bf bg ap bb _ _ a4 a5 a6 a7 a8) ?_)
 rintro _ aq _ p ⟨af, rfl, rfl, g⟩
 refine Ea Z<|fb<|?_
 refine fz (fun V U z => [] = V ∧ (.blk j 76 [(sv y), (sv x), (sv u), (sv t), (sv a), (sv b), (.bool h), (.bool i), (sv e)]) :: (.row (sv e) 9 1 s.flatten) :: G = z ∧ vQ I F E D C J h i L = some O) ?_ ?_
 ·refine fc<|fa<|Ea Z<|fb<|fB<|?_
  refine f8 (fun aG V U z => ∃ (B : Int), [(0, (Vp j)), (2, (Vi p2)), (3, (Vi p3)), (9, (sv af)), (10, (Vi B))] = V ∧ aq = U ∧ (.blk j 76 [(sv y), (sv x), (sv u), (sv t), (sv a), (sv b), (.bool h), (.bool i), (sv e)]) :: (.tok 131 10 [(sv af)]) :: (.row (sv e) 9 1 s.flatten) :: G = z ∧ lp1 (vR p2 p3 ap I F E D C J h i L) aG B = some O) BIG ?_ ?_
  ·exact Pu2<|Pu1<|Pu2<|Sd<|⟨_, by exact R5, 0, rfl, rfl, rfl, H⟩
  rintro aG _ _ _ - ⟨B, rfl, rfl, rfl, H⟩
  obtain ⟨bj, bc, rfl, a3, H⟩ := nr H
  unfold vR at H
  refine fc<|fc<|fa<|Em Z<|Em Z<|Eq Z (ge (T := gv) g rfl rfl)<|Ec Z<|fb<|?_
  refine fm rfl ?_ ?_
  ·intro W
   obtain ⟨W, H⟩ := It W H
   refine ft<|fc<|fB<|?_
   refine fz (fun V U z => ∃ (ah : Bool), [(0, (Vp j)), (2, (Vi p2)), (3, (Vi p3)), (9, (sv af)), (10, (Vi B)), (72, (.bool ah))] = V ∧ aq = U ∧ (.blk j 76 [(sv y), (sv x), (sv u), (sv t), (sv a), (sv b), (.bool h), (.bool i), (sv e)]) :: (.tok 131 10 [(sv af)]) :: (.row (sv e) 9 1 s.flatten) :: G = z ∧ pJ p2 p3 ap B I F E D C J h i L bc ah = some O) ?_ ?_
   ·obtain ⟨S, l, H⟩ := bnd H
    rcases gQ (!(S)) with f | f <;> revert f
    ·intro c
     have c := ir c
     have H := f0 (btf c) H
     obtain ⟨aj, ad, H⟩ := bnd H
     rcases gQ (!(aj)) with f | f <;> revert f
     ·intro n
      have n := ir n
      have H := f0 (btf n) H
      refine fq _ rfl (Ic Mb0 (Ic Mb1 (Ic Mb2 In0)))<|Jm 0 Z<|Jq 1 Z (fD rfl)<|JF 2 4 Z<|Jl 3 (sv a) Z (Rb0 Z)<|Jm 4 Z<|?_
      have X := A.mono p
      obtain ⟨_, rfl, aK⟩ := Slr.at X l
      refine Jq 5 Z (Qi (T := Ty.bool) X l Z)<|Jl 6 (.bool S) Z (Rdc.k aK rfl)<|Jq 7 Z (gd rfl)<|Jm 8 Z<|Aw.known (d := 33) rfl (kp (c))<|Jz 9 Z<|Jz 10 Z<|Jz 11 Z<|Jz 12 Z<|Jz 13 Z<|Jz 14 Z<|Jz 15 Z<|Jz 16 Z<|Jz 17 Z<|Jz 18 Z<|Jz 19 Z<|Jz 20 Z<|Jz 21 Z<|Jt 22 Z<|Jm 23 Z<|Bm 24 Z<|Bq 25 Z (fD rfl)<|?_
      refine BF 26 4 Z<|Bl 27 (sv a) Z (Rb0 Z)<|Bm 28 Z<|?_
      obtain ⟨_, rfl, aL⟩ := Slr.at X ad
      refine Bq 29 Z (Qi (T := Ty.bool) X ad Z)<|Bl 30 (.bool aj) Z (Rdc.k aL rfl)<|Bq 31 Z (gd rfl)<|Bm 32 Z<|Aw.known (d := 57) rfl (kp (n))<|Jz 33 Z<|Jz 34 Z<|Jz 35 Z<|Jz 36 Z<|Jz 37 Z<|Jz 38 Z<|Jz 39 Z<|Jz 40 Z<|Jz 41 Z<|Jz 42 Z<|Jz 43 Z<|Jz 44 Z<|Jz 45 Z<|Bt 46 Z<|Jt 47 Z<|Ad<|Pu2<|?_
      exact Pu2<|Pu2<|Sd<|⟨_, by exact R6, true, rfl, rfl, rfl, H⟩
     ·intro n
      have n := iq n
      have H := ift n H
      obtain ⟨ak, aC, H⟩ := bnd H
      obtain ⟨al, aD, H⟩ := bnd H
      refine fq _ rfl (Ic Mb0 (Ic Mb1 (Ic Mb2 In0)))<|Jm 0 Z<|Jq 1 Z (fD rfl)<|JF 2 4 Z<|Jl 3 (sv a) Z (Rb0 Z)<|Jm 4 Z<|?_
      have Y := A.mono p
      obtain ⟨_, rfl, aM⟩ := Slr.at Y l
      refine Jq 5 Z (Qi (T := Ty.bool) Y l Z)<|Jl 6 (.bool S) Z (Rdc.k aM rfl)<|Jq 7 Z (gd rfl)<|Jm 8 Z<|Aw.known (d := 33) rfl (kp (c))<|Jz 9 Z<|Jz 10 Z<|Jz 11 Z<|Jz 12 Z<|Jz 13 Z<|Jz 14 Z<|Jz 15 Z<|Jz 16 Z<|Jz 17 Z<|Jz 18 Z<|Jz 19 Z<|Jz 20 Z<|Jz 21 Z<|Jt 22 Z<|Jm 23 Z<|Bm 24 Z<|Bq 25 Z (fD rfl)<|?_
      refine BF 26 4 Z<|Bl 27 (sv a) Z (Rb0 Z)<|Bm 28 Z<|?_
      obtain ⟨_, rfl, aN⟩ := Slr.at Y ad
      refine Bq 29 Z (Qi (T := Ty.bool) Y ad Z)<|Bl 30 (.bool aj) Z (Rdc.k aN rfl)<|Bq 31 Z (gd rfl)<|Bm 32 Z<|Aw.known (d := 57) rfl (kB (n))<|Bm 33 Z<|Bq 34 Z (fD rfl)<|BF 35 5 Z<|Bl 36 (sv b) Z (Rb0 Z)<|Bm 37 Z<|?_
      have ay := P.mono p
      obtain ⟨_, rfl, aO⟩ := Slr.at ay aC
      refine Bq 38 Z (Qi (T := fN) ay aC Z)<|BL 39 5 (fe ak) Z (Rdc.k aO rfl)<|Bm 40 Z<|Bm 41 Z<|?_
      obtain ⟨_, rfl, aP⟩ := Slr.at g aD
      exact Bq 42 Z (Qi (T := gv) g aD Z)<|Bq 43 Z (iD (q := 1) (m := 5) rfl rfl rfl rfl rfl (by decide) rfl (by decide))<|BL 44 5 (fe al.x1) Z (Rdc.k aP rfl)<|Bq 45 Z (jw rfl rfl (fun w => Result.eqrun ak al.x1 w) (by kernel_rfl))<|Bf 46 Z<|Jt 47 Z<|Ad<|Pu2<|Pu2<|Pu2<|Sd<|⟨_, by exact R6, (dcd (ak = al.x1)), rfl, rfl, rfl, H⟩
    ·intro c
     have c := iq c
     have H := ift c H
     obtain ⟨M, Q, H⟩ := bnd H
     obtain ⟨N, R, H⟩ := bnd H
     rcases gQ (dcd (M = N.x0)) with f | f <;> revert f
     ·intro r
      obtain ⟨r, H⟩ := It r H
      obtain ⟨am, ae, H⟩ := bnd H
      rcases gQ (!(am)) with f | f <;> revert f
      ·intro o
       have o := ir o
       have H := f0 (btf o) H
       refine fq _ rfl (Ic Mb0 (Ic Mb1 (Ic Mb2 In0)))<|Jm 0 Z<|Jq 1 Z (fD rfl)<|JF 2 4 Z<|Jl 3 (sv a) Z (Rb0 Z)<|Jm 4 Z<|?_
       have aa := A.mono p
       obtain ⟨_, rfl, aQ⟩ := Slr.at aa l
       refine Jq 5 Z (Qi (T := Ty.bool) aa l Z)<|Jl 6 (.bool S) Z (Rdc.k aQ rfl)<|Jq 7 Z (gd rfl)<|Jm 8 Z<|Aw.known (d := 33) rfl (kB (c))<|Bm 9 Z<|Bq 10 Z (fD rfl)<|BF 11 5 Z<|Bl 12 (sv b) Z (Rb0 Z)<|Bm 13 Z<|?_
       have az := P.mono p
       obtain ⟨_, rfl, aR⟩ := Slr.at az Q
       refine Bq 14 Z (Qi (T := fN) az Q Z)<|BL 15 5 (fe M) Z (Rdc.k aR rfl)<|Bm 16 Z<|Bm 17 Z<|?_
       obtain ⟨_, rfl, aS⟩ := Slr.at g R
       refine Bq 18 Z (Qi (T := gv) g R Z)<|Bq 19 Z (iD (q := 0) (m := 0) rfl rfl rfl rfl rfl (by decide) rfl (by decide))<|BL 20 5 (fe N.x0) Z (Rdc.k aS rfl)<|Bq 21 Z (jw rfl rfl (fun w => Result.eqrun M N.x0 w) (by kernel_rfl))<|Jf 22 Z<|Jm 23 Z<|Aw.known (d := 48) rfl (hZ r)<|Bm 24 Z<|Bq 25 Z (fD rfl)<|BF 26 4 Z<|Bl 27 (sv a) Z (Rb0 Z)<|Bm 28 Z<|?_
       obtain ⟨_, rfl, aT⟩ := Slr.at aa ae
       refine Bq 29 Z (Qi (T := Ty.bool) aa ae Z)<|Bl 30 (.bool am) Z (Rdc.k aT rfl)<|Bq 31 Z (gd rfl)<|Bm 32 Z<|Aw.known (d := 57) rfl (kp (o))<|Jz 33 Z<|Jz 34 Z<|Jz 35 Z<|Jz 36 Z<|Jz 37 Z<|Jz 38 Z<|Jz 39 Z<|Jz 40 Z<|Jz 41 Z<|Jz 42 Z<|Jz 43 Z<|Jz 44 Z<|Jz 45 Z<|Bt 46 Z<|Jt 47 Z<|Ad<|Pu2<|?_
       exact Pu2<|Pu2<|Sd<|⟨_, by exact R6, true, rfl, rfl, rfl, H⟩
      ·intro o
       have o := iq o
       have H := ift o H
       obtain ⟨an, aE, H⟩ := bnd H
       obtain ⟨ao, aF, H⟩ := bnd H
       refine fq _ rfl (Ic Mb0 (Ic Mb1 (Ic Mb2 In0)))<|Jm 0 Z<|Jq 1 Z (fD rfl)<|JF 2 4 Z<|Jl 3 (sv a) Z (Rb0 Z)<|Jm 4 Z<|?_
       have ab := A.mono p
       obtain ⟨_, rfl, aU⟩ := Slr.at ab l
       refine Jq 5 Z (Qi (T := Ty.bool) ab l Z)<|Jl 6 (.bool S) Z (Rdc.k aU rfl)<|Jq 7 Z (gd rfl)<|Jm 8 Z<|Aw.known (d := 33) rfl (kB (c))<|Bm 9 Z<|Bq 10 Z (fD rfl)<|BF 11 5 Z<|Bl 12 (sv b) Z (Rb0 Z)<|Bm 13 Z<|?_
       have ac := P.mono p
       obtain ⟨_, rfl, aV⟩ := Slr.at ac Q
       refine Bq 14 Z (Qi (T := fN) ac Q Z)<|BL 15 5 (fe M) Z (Rdc.k aV rfl)<|Bm 16 Z<|Bm 17 Z<|?_
       obtain ⟨_, rfl, aW⟩ := Slr.at g R
       refine Bq 18 Z (Qi (T := gv) g R Z)<|Bq 19 Z (iD (q := 0) (m := 0) rfl rfl rfl rfl rfl (by decide) rfl (by decide))<|BL 20 5 (fe N.x0) Z (Rdc.k aW rfl)<|Bq 21 Z (jw rfl rfl (fun w => Result.eqrun M N.x0 w) (by kernel_rfl))<|Jf 22 Z<|Jm 23 Z<|Aw.known (d := 48) rfl (hZ r)<|Bm 24 Z<|Bq 25 Z (fD rfl)<|BF 26 4 Z<|Bl 27 (sv a) Z (Rb0 Z)<|Bm 28 Z<|?_
       obtain ⟨_, rfl, aX⟩ := Slr.at ab ae
       refine Bq 29 Z (Qi (T := Ty.bool) ab ae Z)<|Bl 30 (.bool am) Z (Rdc.k aX rfl)<|Bq 31 Z (gd rfl)<|Bm 32 Z<|Aw.known (d := 57) rfl (kB (o))<|Bm 33 Z<|Bq 34 Z (fD rfl)<|BF 35 5 Z<|Bl 36 (sv b) Z (Rb0 Z)<|Bm 37 Z<|?_
       obtain ⟨_, rfl, aY⟩ := Slr.at ac aE
       refine Bq 38 Z (Qi (T := fN) ac aE Z)<|BL 39 5 (fe an) Z (Rdc.k aY rfl)<|Bm 40 Z<|Bm 41 Z<|?_
       obtain ⟨_, rfl, aZ⟩ := Slr.at g aF
       exact Bq 42 Z (Qi (T := gv) g aF Z)<|Bq 43 Z (iD (q := 1) (m := 5) rfl rfl rfl rfl rfl (by decide) rfl (by decide))<|BL 44 5 (fe ao.x1) Z (Rdc.k aZ rfl)<|Bq 45 Z (jw rfl rfl (fun w => Result.eqrun an ao.x1 w) (by kernel_rfl))<|Bf 46 Z<|Jt 47 Z<|Ad<|Pu2<|Pu2<|Pu2<|Sd<|⟨_, by exact R6, (dcd (an = ao.x1)), rfl, rfl, rfl, H⟩
     ·intro r
      obtain ⟨r, H⟩ := If r H
      refine fq _ rfl (Ic Mb0 (Ic Mb1 (Ic Mb2 In0)))<|Jm 0 Z<|Jq 1 Z (fD rfl)<|JF 2 4 Z<|Jl 3 (sv a) Z (Rb0 Z)<|Jm 4 Z<|?_
      have aA := A.mono p
      obtain ⟨_, rfl, a0⟩ := Slr.at aA l
      refine Jq 5 Z (Qi (T := Ty.bool) aA l Z)<|Jl 6 (.bool S) Z (Rdc.k a0 rfl)<|Jq 7 Z (gd rfl)<|Jm 8 Z<|Aw.known (d := 33) rfl (kB (c))<|Bm 9 Z<|Bq 10 Z (fD rfl)<|BF 11 5 Z<|Bl 12 (sv b) Z (Rb0 Z)<|Bm 13 Z<|?_
      have aB := P.mono p
      obtain ⟨_, rfl, a1⟩ := Slr.at aB Q
      refine Bq 14 Z (Qi (T := fN) aB Q Z)<|BL 15 5 (fe M) Z (Rdc.k a1 rfl)<|Bm 16 Z<|Bm 17 Z<|?_
      obtain ⟨_, rfl, a2⟩ := Slr.at g R
      refine Bq 18 Z (Qi (T := gv) g R Z)<|Bq 19 Z (iD (q := 0) (m := 0) rfl rfl rfl rfl rfl (by decide) rfl (by decide))<|BL 20 5 (fe N.x0) Z (Rdc.k a2 rfl)<|Bq 21 Z (jw rfl rfl (fun w => Result.eqrun M N.x0 w) (by kernel_rfl))<|Jf 22 Z<|Jm 23 Z<|Aw.known (d := 48) rfl (io r)<|Jz 24 Z<|Jz 25 Z<|Jz 26 Z<|Jz 27 Z<|Jz 28 Z<|Jz 29 Z<|Jz 30 Z<|Jz 31 Z<|Jz 32 Z<|gI 33 rfl (by kernel_rfl) (by kernel_rfl) (by kernel_rfl) rfl rfl rfl rfl rfl<|gI 34 rfl (by kernel_rfl) (by kernel_rfl) (by kernel_rfl) rfl rfl rfl rfl rfl<|gI 35 rfl (by kernel_rfl) (by kernel_rfl) (by kernel_rfl) rfl rfl rfl rfl rfl<|gI 36 rfl (by kernel_rfl) (by kernel_rfl) (by kernel_rfl) rfl rfl rfl rfl rfl<|gI 37 rfl (by kernel_rfl) (by kernel_rfl) (by kernel_rfl) rfl rfl rfl rfl rfl<|gI 38 rfl (by kernel_rfl) (by kernel_rfl) (by kernel_rfl) rfl rfl rfl rfl rfl<|?_
      exact gI 39 rfl (by kernel_rfl) (by kernel_rfl) (by kernel_rfl) rfl rfl rfl rfl rfl<|gI 40 rfl (by kernel_rfl) (by kernel_rfl) (by kernel_rfl) rfl rfl rfl rfl rfl<|gI 41 rfl (by kernel_rfl) (by kernel_rfl) (by kernel_rfl) rfl rfl rfl rfl rfl<|gI 42 rfl (by kernel_rfl) (by kernel_rfl) (by kernel_rfl) rfl rfl rfl rfl rfl<|gI 43 rfl (by kernel_rfl) (by kernel_rfl) (by kernel_rfl) rfl rfl rfl rfl rfl<|gI 44 rfl (by kernel_rfl) (by kernel_rfl) (by kernel_rfl) rfl rfl rfl rfl rfl<|gI 45 rfl (by kernel_rfl) (by kernel_rfl) (by kernel_rfl) rfl rfl rfl rfl rfl<|Jz 46 Z<|Jf 47 Z<|Ad<|Pu2<|Pu2<|Pu2<|Sd<|⟨_, by exact R6, false, rfl, rfl, rfl, H⟩
   rintro _ _ _ - ⟨ah, rfl, rfl, rfl, H⟩
   unfold pJ at H
   refine fm rfl ?_ ?_
   ·intro ag
    have H := ift ag H
    refine fc<|fa<|Ea Z<|fb<|fy<|?_
    obtain aJ := gm H
    subst O
    refine ⟨(.inl rfl), [(.bool true)], ⟨(.bool true), _, rfl, rfl, rfl⟩, ?_⟩
    exact Pu2<|Pu1<|Re2<|Sd<|⟨rfl, rfl⟩
   ·intro ag
    have H := f0 (btf ag) H
    exact ft<|fa<|Em Z<|Er (wI (B + 1)) Z<|Ea Z<|fb<|Pu2<|Pu2<|Pu2<|Sd<|⟨_, by exact R5, _, Nat.lt_succ_self _, (wI (B + 1)), rfl, rfl, rfl, (a3 ▸ H)⟩
  ·intro W
   obtain ⟨W, H⟩ := If W H
   exact ga<|Pu2<|Pu1<|Re2<|Sd<|⟨[], trivial, rfl, rfl, H⟩
 rintro _ bh _ bi ⟨rfl, rfl, H⟩
 unfold vQ at H
 refine fc<|fa<|Ea Z<|fb<|fy<|?_
 obtain aJ := gm H
 subst O
 refine ⟨(.inl rfl), [(.bool false)], ⟨(.bool false), _, rfl, rfl, rfl⟩, ?_⟩
 exact Pu1<|Pu1<|Sd<|⟨rfl, rfl⟩
theorem wm (fu : Nat) : ∀ (c : Nat) (i : ae3) (p : SV) (h : ad6) (o : SV) (g : ae5) (n : SV) (f : af4) (m : SV) (e : ae0) (l : SV) (j : ad5) (q : SV) (a : Bool) (b : Bool) (ad : ad8) (ah : SV) (af : List (List Value)) (p1 : ae0) (x : SV) (p2 : ad0) (y : SV) (r : Bool) (s : ad8) (H : pt fu i h g f e j a b ad p1 p2 = some (r, s)) (K : Kp) (G : List Ent) (aC : Slr (Ty.sl gK) K (sv p) i) (aB : Slr f5 K (sv o) h) (aA : Slr ib K (sv n) g) (az : Slr (Ty.sl Ty.bool) K (sv m) f) (ay : Slr Ty.bool K (sv l) e) (aD : Slr fN K (sv q) j) (am : RowR Ty.str K af ad) (aE : Slr Ty.bool K (sv x) p1) (aF : Slr fG K (sv y) p2),
  Fc Tryz.prog 26 #[(Vp c), (sv x), (sv y)] K ((.blk c 76 [(sv p), (sv o), (sv n), (sv m), (sv l), (sv q), (.bool a), (.bool b), (sv ah)]) :: (.row (sv ah) 9 1 af.flatten) :: G) (fun v u t => ∃ (bW : SV) (bU : List (List Value)), v = (.bool r) ∧ (.blk c 76 [(sv p), (sv o), (sv n), (sv m), (sv l), (sv q), (.bool a), (.bool b), (sv bW)]) :: (.row (sv bW) 9 1 bU.flatten) :: G = t ∧ RowR Ty.str u bU s) := by
 induction fu with
 | zero => intro c i p h o g n f m e l j q a b ad ah af p1 x p2 y r s H K G aC aB aA az ay aD am aE aF; cases H
 | succ fu ih =>
 intro c i p h o g n f m e l j q a b ad ah af p1 x p2 y r s H K G aC aB aA az ay aD am aE aF
 have H : rL (pt fu) i h g f e j a b ad p1 p2 = some (r, s) := H
 generalize pt fu = rc at H ih
 refine fO Tryz.func26 rfl Tryz.ntmps26 Tryz.results26 rfl ?_
 unfold rL at H
 refine fc<|fa<|Ea Z<|fb<|fc<|fc<|fa<|Em Z<|Em Z<|Em Z<|?_
 obtain ⟨dm, c3, H⟩ := bnd H
 refine Ow.shift (Pu1 (Sd ?_))
 refine Ow.shift (Pu1 (Sd ?_))
 refine ff rfl (Ek Tryz.call46 Z (B7 c i p h o g n f m e l j q a b ad ah af p1 x p2 y dm c3 _ _ aC aB aA az ay aD am aE aF) ?_)
 rintro _ dH _ D ⟨rfl, rfl⟩
 refine fb ?_
 refine fm rfl ?_ ?_
 ·intro aX
  have H := ift aX H
  refine fc<|fa<|Ea Z<|fb<|fy<|?_
  obtain ⟨ar, au⟩ := hX H
  subst r s
  refine ⟨(.inl rfl), [(.bool true)], ⟨(.bool true), _, rfl, rfl, rfl⟩, ?_⟩
  refine Pu1<|Pu1<|?_
  have cQ := am.mono D
  exact Sd ⟨ah, af, rfl, rfl, cQ⟩
 ·intro aX
  have H := f0 (btf aX) H
  refine ft<|fc<|fc<|fa<|Em Z<|Em Z<|Em Z<|?_
  obtain ⟨b7, c4, H⟩ := bnd H
  have bG := aE.mono D
  have bH := aF.mono D
  refine ff rfl (Ek Tryz.call48 Z (B8 p1 x p2 y b7 c4 _ _ bG bH) ?_)
  rintro _ dI _ J ⟨rfl, rfl⟩
  obtain ⟨dn, b8, c5, H⟩ := ix H
  refine Ow.shift (Pu1 (Sd ?_))
  refine Ow.shift (Pu1 (Sd ?_))
  have bI := (aC.mono D).mono J
  have bJ := (aB.mono D).mono J
  have bK := (aA.mono D).mono J
  have bL := (az.mono D).mono J
  have bM := (ay.mono D).mono J
  have bN := (aD.mono D).mono J
  have cR := (am.mono D).mono J
  refine ff rfl (Ek Tryz.call47 Z (B9 c i p h o g n f m e l j q a b ad ah af b7 dn b8 c5 _ _ bI bJ bK bL bM bN cR) ?_)
  rintro _ dJ _ V ⟨bV, bT, rfl, rfl, bO⟩
  refine fb ?_
  refine fm rfl ?_ ?_
  ·intro aY
   have H := ift aY H
   refine fc<|fa<|Ea Z<|fb<|fy<|?_
   obtain ⟨ar, au⟩ := hX H
   subst r s
   refine ⟨(.inl rfl), [(.bool false)], ⟨(.bool false), _, rfl, rfl, rfl⟩, ?_⟩
   exact Pu1<|Pu1<|Sd<|⟨bV, bT, rfl, rfl, bO⟩
  ·intro aY
   have H := f0 (btf aY) H
   refine ft ?_
   refine fz (fun z u t => ∃ (aO : SV) (a9 : ad8) (aL : List (List Value)), [] = z ∧ (.blk c 76 [(sv p), (sv o), (sv n), (sv m), (sv l), (sv q), (.bool a), (.bool b), (sv aO)]) :: (.row (sv aO) 9 1 aL.flatten) :: G = t ∧ vS i h g f e j a b rc a9 = some (r, s) ∧ RowR Ty.str u aL a9) ?_ ?_
   ·refine fc<|fa<|Ea Z<|fb<|fB<|?_
    refine f8 (fun bQ z u t => ∃ (d : Int) (Y : SV) (W : ad8) (X : List (List Value)), [(0, (Vp c)), (1, (sv x)), (2, (sv y)), (7, (Vi d))] = z ∧ (.blk c 76 [(sv p), (sv o), (sv n), (sv m), (sv l), (sv q), (.bool a), (.bool b), (sv Y)]) :: (.row (sv Y) 9 1 X.flatten) :: G = t ∧ lp2 (vW p1 p2 i h g f e j a b rc) bQ d W = some (r, s) ∧ RowR Ty.str u X W) BIG ?_ ?_
    ·exact Pu1<|Pu1<|Sd<|⟨_, by exact R4, 0, bV, b8, bT, rfl, rfl, H, bO⟩
    rintro bQ _ dp _ O ⟨d, Y, W, X, rfl, rfl, H, av⟩
    obtain ⟨dQ, ai, rfl, cd, H⟩ := jF H
    unfold vW at H
    refine fc<|fc<|fa<|Em Z<|Em Z<|?_
    have aG := ((bG.mono J).mono V).mono O
    refine Eq Z (ge (T := Ty.bool) aG rfl rfl)<|Ec Z<|fb<|?_
    refine fm rfl ?_ ?_
    ·intro aj
     obtain ⟨aj, H⟩ := It aj H
     refine ft ?_
     refine fz (fun z u t => ∃ (aP : SV) (aH : ad8) (aM : List (List Value)), [(0, (Vp c)), (1, (sv x)), (2, (sv y)), (7, (Vi d))] = z ∧ (.blk c 76 [(sv p), (sv o), (sv n), (sv m), (sv l), (sv q), (.bool a), (.bool b), (sv aP)]) :: (.row (sv aP) 9 1 aM.flatten) :: G = t ∧ oH p1 p2 d i h g f e j a b ai rc aH = some (r, s) ∧ RowR Ty.str u aM aH) ?_ ?_
     ·refine fB<|fc<|fc<|fa<|Em Z<|Em Z<|Em Z<|?_
      obtain ⟨di, cS, H⟩ := bnd H
      refine Ow.shift (Pu1 (Sd ?_))
      refine Ow.shift (Pu1 (Sd ?_))
      have bf := (bI.mono V).mono O
      have bg := (bJ.mono V).mono O
      have bh := (bK.mono V).mono O
      have bi := (bL.mono V).mono O
      have bj := (bM.mono V).mono O
      have bk := (bN.mono V).mono O
      refine ff rfl (Ek Tryz.call49 Z (xw c i p h o g n f m e l j q a b W Y X p1 x d di cS _ _ bf bg bh bi bj bk av aG) ?_)
      rintro _ dq _ A ⟨rfl, rfl⟩
      refine Eq Z (gd rfl)<|fb<|?_
      refine fm rfl ?_ ?_
      ·intro aa
       have aa := ir aa
       have H := f0 (btf aa) H
       refine ga<|Pu1<|Pu1<|?_
       have cg := av.mono A
       exact Sd ⟨_, by exact R4, Y, W, X, rfl, rfl, H, cg⟩
      ·intro aa
       have aa := iq aa
       have H := ift aa H
       refine ft<|fc<|fa<|Em Z<|Em Z<|Em Z<|?_
       obtain ⟨bc, cT, H⟩ := bnd H
       refine Ow.shift (Pu1 (Sd ?_))
       refine Ow.shift (Pu1 (Sd ?_))
       have aZ := bf.mono A
       have a0 := bg.mono A
       have a1 := bh.mono A
       have a2 := bi.mono A
       have a3 := bj.mono A
       have a4 := bk.mono A
       have bl := av.mono A
       have a5 := (((bH.mono J).mono V).mono O).mono A
       refine ff rfl (Ek Tryz.call50 Z (Cb c i p h o g n f m e l j q a b W Y X p2 y d bc cT _ _ aZ a0 a1 a2 a3 a4 bl a5) ?_)
       rintro _ dr _ w ⟨aQ, rfl, rfl, ch⟩
       refine Ea Z<|fb<|?_
       refine fz (fun z u t => ∃ (aR : SV) (aI : ad8) (aN : List (List Value)), [(0, (Vp c)), (1, (sv x)), (2, (sv y)), (7, (Vi d))] = z ∧ (.blk c 76 [(sv p), (sv o), (sv n), (sv m), (sv l), (sv q), (.bool a), (.bool b), (sv aR)]) :: (.row (sv aR) 9 1 aN.flatten) :: G = t ∧ vU p1 p2 d i h g f e j a b ai rc aI = some (r, s) ∧ RowR Ty.str u aN aI) ?_ ?_
       ·refine fc<|fa<|Ea Z<|fb<|fB<|?_
        refine f8 (fun bR z u t => ∃ (ab : Int) (ag : SV) (ac : ad8) (ae : List (List Value)), [(0, (Vp c)), (1, (sv x)), (2, (sv y)), (7, (Vi d)), (8, (sv aQ)), (9, (Vi ab))] = z ∧ (.blk c 76 [(sv p), (sv o), (sv n), (sv m), (sv l), (sv q), (.bool a), (.bool b), (sv ag)]) :: (.row (sv ag) 9 1 ae.flatten) :: (.tok 38 5 [(sv aQ)]) :: G = t ∧ lp2 (vV p1 p2 d bc i h g f e j a b ai rc) bR ab ac = some (r, s) ∧ RowR Ty.str u ae ac) BIG ?_ ?_
        ·refine Pu1<|Pu2<|Pu2<|?_
         have ci := bl.mono w
         exact Sd ⟨_, by exact R6, 0, Y, W, X, rfl, rfl, H, ci⟩
        rintro bR _ ds _ F ⟨ab, ag, ac, ae, rfl, rfl, H, aw⟩
        obtain ⟨dR, c6, rfl, ce, H⟩ := jF H
        unfold vV at H
        refine fc<|fc<|fa<|Em Z<|Em Z<|?_
        have a6 := ch.mono F
        refine Eq Z (ge (T := fN) a6 rfl rfl)<|Ec Z<|fb<|?_
        refine fm rfl ?_ ?_
        ·intro ak
         obtain ⟨ak, H⟩ := It ak H
         refine ft<|fc<|fB<|fc<|?_
         obtain ⟨bX, cU, H⟩ := bnd H
         obtain ⟨bY, bP, H⟩ := bnd H
         obtain ⟨bZ, dj, cV, H⟩ := ix H
         refine fq _ rfl (Ic Mb0 (Ic Mb1 (Ic Mb2 In0)))<|Jm 0 Z<|Jm 1 Z<|Jm 2 Z<|Jm 4 Z<|Jm 5 Z<|?_
         obtain ⟨_, rfl, cc⟩ := Slr.at a6 bP
         refine Jq 6 Z (Qi (T := fN) a6 bP Z)<|JL 7 5 (fe bY) Z (Rdc.k cc rfl)<|?_
         refine Ao 3 Z ?_
         refine OpW.shift (Pu1 (Sd ?_))
         refine OpW.shift (Pu1 (Sd ?_))
         have bm := (aZ.mono w).mono F
         have bn := (a0.mono w).mono F
         have bo := (a1.mono w).mono F
         have bp := (a2.mono w).mono F
         have bq := (a3.mono w).mono F
         have br := (a4.mono w).mono F
         refine Ek Tryz.call52 Z (m8 c i p h o g n f m e l j q a b ac ag ae d bX cU _ _ bm bn bo bp bq br aw) ?_
         rintro _ _ _ - ⟨da, db, rfl, rfl, rfl, cj, ck⟩
         refine ⟨(Ic Mb0 (Ic Mb1 (Ic Mb2 In0))), ?_⟩
         refine Ao 8 Z ?_
         have cl := (a5.mono w).mono F
         refine Ek Tryz.call51 Z (xq p2 y bX da db bY bZ dj cV _ _ cl cj ck) ?_
         rintro _ dt _ I ⟨dc, rfl, rfl, cm⟩
         refine ⟨(Ic Mb0 (Ic Mb1 (Ic Mb2 In0))), ?_⟩
         refine Jm 9 Z<|Jx 10 Z<|Jx 11 Z<|Ja 12 Z<|Ja 13 Z<|Ad<|?_
         refine fz (fun z u t => ∃ (ba : Bool) (ap : SV) (aJ : ad8) (an : List (List Value)), [(0, (Vp c)), (1, (sv x)), (2, (sv y)), (7, (Vi d)), (8, (sv aQ)), (9, (Vi ab)), (63, (.bool ba))] = z ∧ (.blk c 76 [(sv p), (sv o), (sv n), (sv m), (sv l), (sv q), (.bool a), (.bool b), (sv ap)]) :: (.row (sv ap) 9 1 an.flatten) :: (.tok 38 5 [(sv aQ)]) :: G = t ∧ sx p1 p2 d bc ab i h g f e j a b ai c6 rc ba aJ = some (r, s) ∧ RowR Ty.str u an aJ) ?_ ?_
         ·refine fa<|Em Z<|Em Z<|?_
          refine Ee Z ?_ ?_
          ·intro aS
           have H := ift aS H
           refine Vm Z<|Vm Z<|Vm Z<|?_
           obtain ⟨b0, cW, H⟩ := bnd H
           have cn := (((aG.mono A).mono w).mono F).mono I
           refine hY rfl rfl rfl rfl (Ek Tryz.call53 Z (wu p1 x d b0 cW _ _ cn) ?_)
           rintro _ _ _ - ⟨dd, dT, rfl, rfl, rfl, co⟩
           refine Vm Z ?_
           refine Ow.shift (Shift.settle (T := Ty.bool) .here co rfl (fun du P cp => Sd ?_))
           obtain ⟨b1, b2, cX, H⟩ := ix H
           refine Ow.shift (Pu2 (Sd ?_))
           refine Ow.shift (Pu2 (Sd ?_))
           have cq := (bm.mono I).mono P
           have cr := (bn.mono I).mono P
           have cs := (bo.mono I).mono P
           have ct := (bp.mono I).mono P
           have cu := (bq.mono I).mono P
           have cv := (br.mono I).mono P
           have cw := (aw.mono I).mono P
           have cx := cm.mono P
           refine hY rfl rfl rfl rfl (Ek Tryz.call26 Z (ih c i p h o g n f m e l j q a b ac ag ae b0 dd bZ dc b1 b2 cX _ _ cq cr cs ct cu cv cw cp cx) ?_)
           rintro _ dv _ dK ⟨de, c8, rfl, rfl, cy⟩
           exact Et Z<|fb<|Pu3<|Pu2<|Pu2<|Re3<|Sd<|⟨_, by exact R7, b1, de, b2, c8, rfl, rfl, H, cy⟩
          ·intro aS
           have H := f0 (btf aS) H
           refine Ez Z<|Ez Z<|Ez Z<|Ez Z<|Ez Z<|Ez Z<|Ef Z<|fb<|Pu2<|Pu2<|Pu2<|?_
           have cz := aw.mono I
           exact Sd ⟨_, by exact R7, false, ag, ac, ae, rfl, rfl, H, cz⟩
         rintro _ dw _ dL ⟨ba, ap, aJ, an, rfl, rfl, H, bd⟩
         unfold sx at H
         refine fm rfl ?_ ?_
         ·intro aT
          have H := ift aT H
          refine fc<|fa<|Ea Z<|fb<|fy<|?_
          obtain ⟨ar, au⟩ := hX H
          subst r s
          refine ⟨(.inl rfl), [(.bool true)], ⟨(.bool true), _, rfl, rfl, rfl⟩, ?_⟩
          exact Pu1<|Pu1<|Re2<|Sd<|⟨ap, an, rfl, rfl, bd⟩
         ·intro aT
          have H := f0 (btf aT) H
          exact ft<|fa<|Em Z<|Er (wI (ab + 1)) Z<|Ea Z<|fb<|Pu2<|Pu2<|Pu2<|Sd<|⟨_, by exact R6, _, Nat.lt_succ_self _, (wI (ab + 1)), ap, aJ, an, rfl, rfl, (ce ▸ H), bd⟩
        ·intro ak
         obtain ⟨ak, H⟩ := If ak H
         exact ga<|Pu1<|Pu1<|Re2<|Sd<|⟨_, by exact R4, ag, ac, ae, rfl, rfl, H, aw⟩
       rintro _ dx _ Q ⟨aR, aI, aN, rfl, rfl, H, cb⟩
       unfold vU at H
       refine fc<|fa<|Em Z<|Er (wI (d + 1)) Z<|Ea Z<|fb<|fB<|?_
       refine f8 (fun bS z u t => ∃ (E : Int) (N : SV) (L : ad8) (M : List (List Value)), [(0, (Vp c)), (1, (sv x)), (2, (sv y)), (7, (Vi d)), (12, (Vi E))] = z ∧ (.blk c 76 [(sv p), (sv o), (sv n), (sv m), (sv l), (sv q), (.bool a), (.bool b), (sv N)]) :: (.row (sv N) 9 1 M.flatten) :: G = t ∧ lp2 (vT p1 p2 d i h g f e j a b ai rc) bS E L = some (r, s) ∧ RowR Ty.str u M L) BIG ?_ ?_
       ·exact Pu1<|Pu1<|Sd<|⟨_, by exact R5, (wI (d + 1)), aR, aI, aN, rfl, rfl, H, cb⟩
       rintro bS _ dy _ R ⟨E, N, L, M, rfl, rfl, H, ax⟩
       obtain ⟨dS, c7, rfl, cf, H⟩ := jF H
       unfold vT at H
       refine fc<|fc<|fa<|Em Z<|Em Z<|?_
       have a7 := (((aG.mono A).mono w).mono Q).mono R
       refine Eq Z (ge (T := Ty.bool) a7 rfl rfl)<|Ec Z<|fb<|?_
       refine fm rfl ?_ ?_
       ·intro al
        obtain ⟨al, H⟩ := It al H
        refine ft<|fc<|fB<|?_
        refine fz (fun z u t => ∃ (bb : Bool) (aq : SV) (aK : ad8) (ao : List (List Value)), [(0, (Vp c)), (1, (sv x)), (2, (sv y)), (7, (Vi d)), (12, (Vi E)), (92, (.bool bb))] = z ∧ (.blk c 76 [(sv p), (sv o), (sv n), (sv m), (sv l), (sv q), (.bool a), (.bool b), (sv aq)]) :: (.row (sv aq) 9 1 ao.flatten) :: G = t ∧ pr p1 p2 d E i h g f e j a b ai c7 rc bb aK = some (r, s) ∧ RowR Ty.str u ao aK) ?_ ?_
        ·refine fa<|Em Z<|Em Z<|Em Z<|?_
         obtain ⟨dk, cY, H⟩ := bnd H
         refine Ow.shift (Pu1 (Sd ?_))
         refine Ow.shift (Pu1 (Sd ?_))
         have bs := ((aZ.mono w).mono Q).mono R
         have bt := ((a0.mono w).mono Q).mono R
         have bu := ((a1.mono w).mono Q).mono R
         have bv := ((a2.mono w).mono Q).mono R
         have bw := ((a3.mono w).mono Q).mono R
         have bx := ((a4.mono w).mono Q).mono R
         refine ff rfl (Ek Tryz.call49 Z (xw c i p h o g n f m e l j q a b L N M p1 x E dk cY _ _ bs bt bu bv bw bx ax a7) ?_)
         rintro _ dz _ B ⟨rfl, rfl⟩
         refine Em Z ?_
         refine Ee Z ?_ ?_
         ·intro aU
          have H := ift aU H
          refine Vm Z<|Vm Z<|Vm Z<|Vm Z<|?_
          obtain ⟨dl, cZ, H⟩ := bnd H
          refine Ow.shift (Pu1 (Sd ?_))
          refine Ow.shift (Pu1 (Sd ?_))
          have bz := bs.mono B
          have bA := bt.mono B
          have bB := bu.mono B
          have bC := bv.mono B
          have bD := bw.mono B
          have bE := bx.mono B
          have a8 := ax.mono B
          have bF := (((a5.mono w).mono Q).mono R).mono B
          refine hY rfl rfl rfl rfl (Ek Tryz.call54 Z (Cc c i p h o g n f m e l j q a b L N M p2 y d E dl cZ _ _ bz bA bB bC bD bE a8 bF) ?_)
          rintro _ dA _ C ⟨rfl, rfl⟩
          refine Et Z<|Em Z<|?_
          refine Ee Z ?_ ?_
          ·intro aV
           have H := ift aV H
           refine Vm Z<|Vm Z<|Vm Z<|?_
           obtain ⟨b3, c0, H⟩ := bnd H
           have cA := (a7.mono B).mono C
           refine hY rfl rfl rfl rfl (Ek Tryz.call53 Z (wu p1 x d b3 c0 _ _ cA) ?_)
           rintro _ _ _ - ⟨df, dU, rfl, rfl, rfl, cB⟩
           refine Vm Z ?_
           refine Ow.shift (Shift.settle (T := Ty.bool) .here cB rfl (fun dB S cC => Sd ?_))
           obtain ⟨b4, c1, H⟩ := bnd H
           refine hY rfl rfl rfl rfl (Ek Tryz.call53 Z (wu b3 df E b4 c1 _ _ cC) ?_)
           rintro _ _ _ - ⟨dg, dV, rfl, rfl, rfl, cD⟩
           refine Vm Z ?_
           refine Ow.shift (Shift.settle (T := Ty.bool) .here cD rfl (fun dC U cE => Sd ?_))
           obtain ⟨b5, b6, c2, H⟩ := ix H
           refine Ow.shift (Pu3 (Sd ?_))
           refine Ow.shift (Pu3 (Sd ?_))
           have cF := ((bz.mono C).mono S).mono U
           have cG := ((bA.mono C).mono S).mono U
           have cH := ((bB.mono C).mono S).mono U
           have cI := ((bC.mono C).mono S).mono U
           have cJ := ((bD.mono C).mono S).mono U
           have cK := ((bE.mono C).mono S).mono U
           have cL := ((a8.mono C).mono S).mono U
           have cM := ((bF.mono C).mono S).mono U
           refine hY rfl rfl rfl rfl (Ek Tryz.call26 Z (ih c i p h o g n f m e l j q a b L N M b4 dg p2 y b5 b6 c2 _ _ cF cG cH cI cJ cK cL cE cM) ?_)
           rintro _ dD _ dM ⟨dh, c9, rfl, rfl, cN⟩
           exact Et Z<|fb<|Pu1<|Pu1<|Re2<|Re2<|Sd<|⟨_, by exact R6, b5, dh, b6, c9, rfl, rfl, H, cN⟩
          ·intro aV
           have H := f0 (btf aV) H
           refine Ez Z<|Ez Z<|Ez Z<|Ez Z<|Ez Z<|Ez Z<|Ez Z<|Ez Z<|Ef Z<|fb<|Pu1<|Pu1<|?_
           have cO := a8.mono C
           exact Sd ⟨_, by exact R6, false, N, L, M, rfl, rfl, H, cO⟩
         ·intro aU
          have H := f0 (btf aU) H
          refine Ez Z<|Ez Z<|Ez Z<|Ez Z<|Ez Z<|Ef Z<|Em Z<|Ez Z<|Ez Z<|Ez Z<|Ez Z<|Ez Z<|Ez Z<|Ez Z<|Ez Z<|Ef Z<|fb<|Pu1<|Pu1<|?_
          have cP := ax.mono B
          exact Sd ⟨_, by exact R6, false, N, L, M, rfl, rfl, H, cP⟩
        rintro _ dE _ dN ⟨bb, aq, aK, ao, rfl, rfl, H, be⟩
        unfold pr at H
        refine fm rfl ?_ ?_
        ·intro aW
         have H := ift aW H
         refine fc<|fa<|Ea Z<|fb<|fy<|?_
         obtain ⟨ar, au⟩ := hX H
         subst r s
         refine ⟨(.inl rfl), [(.bool true)], ⟨(.bool true), _, rfl, rfl, rfl⟩, ?_⟩
         exact Pu1<|Pu1<|Sd<|⟨aq, ao, rfl, rfl, be⟩
        ·intro aW
         have H := f0 (btf aW) H
         exact ft<|fa<|Em Z<|Er (wI (E + 1)) Z<|Ea Z<|fb<|Pu1<|Pu1<|Sd<|⟨_, by exact R5, _, Nat.lt_succ_self _, (wI (E + 1)), aq, aK, ao, rfl, rfl, (cf ▸ H), be⟩
       ·intro al
        obtain ⟨al, H⟩ := If al H
        exact ga<|Pu1<|Pu1<|Sd<|⟨_, by exact R4, N, L, M, rfl, rfl, H, ax⟩
     rintro _ dF _ dO ⟨aP, aH, aM, rfl, rfl, H, ca⟩
     unfold oH at H
     exact fa<|Em Z<|Er (wI (d + 1)) Z<|Ea Z<|fb<|Pu1<|Pu1<|Sd<|⟨_, by exact R4, _, Nat.lt_succ_self _, (wI (d + 1)), aP, aH, aM, rfl, rfl, (cd ▸ H), ca⟩
    ·intro aj
     obtain ⟨aj, H⟩ := If aj H
     exact ga<|Pu1<|Pu1<|Sd<|⟨[], trivial, Y, W, X, rfl, rfl, H, av⟩
   rintro _ dG _ dP ⟨aO, a9, aL, rfl, rfl, H, b9⟩
   unfold vS at H
   refine fc<|fa<|Ea Z<|fb<|fy<|?_
   obtain ⟨ar, au⟩ := hX H
   subst r s
   refine ⟨(.inl rfl), [(.bool false)], ⟨(.bool false), _, rfl, rfl, rfl⟩, ?_⟩
   exact Pu1<|Pu1<|Sd<|⟨aO, aL, rfl, rfl, b9⟩
theorem wv (p0 : fP) (h : SV) (i : SV) (p1 : ae3) (X : SV) (p2 : ad6) (Y : SV) (B : Bool) (H : sy p0 p1 p2 = some B) (K : Kp) (G : List Ent) (E : Slr Ty.i64 K (sv h) p0.capacities) (F : Slr Ty.u64 K (sv i) p0.starts) (an : Slr (Ty.sl gK) K (sv X) p1) (ao : Slr f5 K (sv Y) p2) :
  Fc Tryz.prog 11 #[(.agg (fp p0 h i).toArray), (sv X), (sv Y)] K (G) (fun v K' C => v = (.bool B) ∧ G = C) := by
 refine fO Tryz.func11 rfl Tryz.ntmps11 Tryz.results11 rfl ?_
 unfold sy at H
 refine fc<|fa<|?_
 refine ff rfl (fU (cs := (fp p0 h i)) rfl rfl rfl (fun bn => ?_))
 refine Ea Z<|fb<|fc<|fa<|Em Z<|Em Z<|?_
 obtain ⟨s, t, u, w, x, y, z, A, a5, H⟩ := bnd8 H
 refine ff rfl (Ek Tryz.call25 Z (BZ p1 X p2 Y false false s t u w x y z A a5 _ _ an ao) ?_)
 rintro _ bc _ j ⟨D, R, S, q, U, V, W, rfl, rfl, I, J, o, L, M, N⟩
 refine Ea Z<|fb<|?_
 refine fz (fun ag K' C => ∃ (p : Bool), [(6, (.bool p))] = ag ∧ G = C ∧ vX p = some B) ?_ ?_
 ·obtain ⟨aa, O, H⟩ := bnd H
  obtain ⟨m, P, H⟩ := bnd H
  obtain ⟨n, ab, Q, H⟩ := ix H
  refine fq _ rfl (Ic Mb1 (Ic Mb2 (Ic Mb3 (Ic Mb4 (Ic Mb5 In0)))))<|Jm 0 Z<|Jm 1 Z<|Jq 2 Z (fD rfl)<|JF 3 2 Z<|JL 7 3 (fp p0 h i) Z (Rb4 Z)<|?_
  refine gU 4 8 (by kernel_rfl) ?_ ?_
  ·refine id (Jyq Z (gn (v := (sv q)) rfl rfl rfl (Rb0 Z)) ⟨(Ic Mb1 (Ic Mb2 (Ic Mb3 (Ic Mb4 (Ic Mb5 In0))))), ?_⟩)
   refine Jq 5 Z (ge (T := ib) o rfl rfl) ?_
   refine gU 6 8 (by kernel_rfl) ?_ ?_
   ·refine id (Jy Z ?_)
    refine jv (T := Ty.bool) (r := [(.bool false)]) rfl rfl rfl O rfl rfl rfl rfl rfl rfl rfl rfl rfl rfl (fun a6 bA ah bw => ⟨(Ic Mb2 (Ic Mb3 (Ic Mb4 (Ic Mb5 (Ic Mb6 In0))))), ?_⟩)
    refine Ao 8 Z ?_
    have ap := E.mono j
    have aq := F.mono j
    refine Ek Tryz.call27 Z (pU p0 h i m P _ _ ap aq) ?_
    rintro _ bd _ a ⟨a7, bB, rfl, rfl, ar⟩
    refine ⟨(Ic Mb4 (Ic Mb5 (Ic Mb6 (Ic Mb7 (Ic Mb8 In0))))), ?_⟩
    refine Ao 9 Z ?_
    have av := ah.mono a
    refine OpW.shift (Shift.settle (T := Ty.bool) (.there (.there .here)) av rfl (fun be b au => Sd ?_))
    have ax := ar.mono b
    refine OpW.shift (Shift.settle (T := fG) .here ax rfl (fun ad c aw => Sd ?_))
    have ai : RowR Ty.str ad [] [] := RowR.nil
    refine OpW.shift (Shift.nilRow 9 1 (Sd ?_))
    refine OpW.shift (Pu4 (Sd ?_))
    have ay := ((I.mono a).mono b).mono c
    have az := ((J.mono a).mono b).mono c
    have aA := ((o.mono a).mono b).mono c
    have aB := ((L.mono a).mono b).mono c
    have aC := ((M.mono a).mono b).mono c
    have aD := ((N.mono a).mono b).mono c
    have aE := au.mono c
    refine Ek Tryz.call26 Z (wm 100 D s R t S u q w U x V y W z A ([] : ad8) fA ([] : List (List Value)) aa a6 m a7 n ab Q _ _ ay az aA aB aC aD ai aE aw) ?_
    rintro _ bf _ bp ⟨bJ, bC, rfl, rfl, bt⟩
    refine ⟨(Ic Mb5 (Ic Mb6 (Ic Mb7 (Ic Mb8 (Ic Mb9 In0))))), ?_⟩
    exact Ja 10 Z<|Ad<|Re0<|Re0<|Re0<|Re0<|Re0<|Re0<|Re0<|Re0<|Re0<|Re0<|Sd<|⟨_, by exact R1, n, rfl, rfl, H⟩
   ·refine id (Jy Z ?_)
    have aF := E.mono j
    have aG := F.mono j
    refine Ek Tryz.call27 Z (pU p0 h i m P _ _ aF aG) ?_
    rintro _ bg _ k ⟨a8, bD, rfl, rfl, aH⟩
    refine ⟨(Ic Mb3 (Ic Mb4 (Ic Mb5 (Ic Mb6 (Ic Mb7 In0))))), ?_⟩
    refine Ao 6 Z ?_
    refine jv (T := Ty.bool) (r := [(.bool false)]) rfl rfl rfl O rfl rfl rfl rfl rfl rfl rfl rfl rfl rfl (fun a9 bE aj bx => ⟨(Ic Mb4 (Ic Mb5 (Ic Mb6 (Ic Mb7 (Ic Mb8 In0))))), ?_⟩)
    refine Ao 9 Z ?_
    refine OpW.shift (Shift.settle (T := Ty.bool) .here aj rfl (fun bh d aI => Sd ?_))
    have aK := aH.mono d
    refine OpW.shift (Shift.settle (T := fG) (.there .here) aK rfl (fun ae e aJ => Sd ?_))
    have ak : RowR Ty.str ae [] [] := RowR.nil
    refine OpW.shift (Shift.nilRow 9 1 (Sd ?_))
    refine OpW.shift (Pu4 (Sd ?_))
    have aL := ((I.mono k).mono d).mono e
    have aM := ((J.mono k).mono d).mono e
    have aN := ((o.mono k).mono d).mono e
    have aO := ((L.mono k).mono d).mono e
    have aP := ((M.mono k).mono d).mono e
    have aQ := ((N.mono k).mono d).mono e
    have aR := aI.mono e
    refine Ek Tryz.call26 Z (wm 100 D s R t S u q w U x V y W z A ([] : ad8) fA ([] : List (List Value)) aa a9 m a8 n ab Q _ _ aL aM aN aO aP aQ ak aR aJ) ?_
    rintro _ bi _ bq ⟨bK, bF, rfl, rfl, bu⟩
    refine ⟨(Ic Mb5 (Ic Mb6 (Ic Mb7 (Ic Mb8 (Ic Mb9 In0))))), ?_⟩
    exact Ja 10 Z<|Ad<|Re0<|Re0<|Re0<|Re0<|Re0<|Re0<|Re0<|Re0<|Re0<|Re0<|Sd<|⟨_, by exact R1, n, rfl, rfl, H⟩
  ·refine id (Jy Z ?_)
   have aS := E.mono j
   have aT := F.mono j
   refine Ek Tryz.call27 Z (pU p0 h i m P _ _ aS aT) ?_
   rintro _ bj _ l ⟨ba, bG, rfl, rfl, aU⟩
   refine ⟨(Ic Mb3 (Ic Mb4 (Ic Mb5 (Ic Mb6 (Ic Mb7 In0))))), ?_⟩
   refine gx 4 (by kernel_rfl) (Jyq Z (gn (v := (sv q)) rfl rfl rfl (Rb2 Z)) ⟨(Ic Mb3 (Ic Mb4 (Ic Mb5 (Ic Mb6 (Ic Mb7 In0))))), ?_⟩)
   refine Jq 5 Z (ge (T := ib) o rfl rfl) ?_
   refine Ao 6 Z ?_
   refine jv (T := Ty.bool) (r := [(.bool false)]) rfl rfl rfl O rfl rfl rfl rfl rfl rfl rfl rfl rfl rfl (fun bb bH al bz => ⟨(Ic Mb4 (Ic Mb5 (Ic Mb6 (Ic Mb7 (Ic Mb8 In0))))), ?_⟩)
   refine Ao 9 Z ?_
   refine OpW.shift (Shift.settle (T := Ty.bool) .here al rfl (fun bk f aV => Sd ?_))
   have aX := aU.mono f
   refine OpW.shift (Shift.settle (T := fG) (.there .here) aX rfl (fun af g aW => Sd ?_))
   have am : RowR Ty.str af [] [] := RowR.nil
   refine OpW.shift (Shift.nilRow 9 1 (Sd ?_))
   refine OpW.shift (Pu4 (Sd ?_))
   have aY := ((I.mono l).mono f).mono g
   have aZ := ((J.mono l).mono f).mono g
   have a0 := ((o.mono l).mono f).mono g
   have a1 := ((L.mono l).mono f).mono g
   have a2 := ((M.mono l).mono f).mono g
   have a3 := ((N.mono l).mono f).mono g
   have a4 := aV.mono g
   refine Ek Tryz.call26 Z (wm 100 D s R t S u q w U x V y W z A ([] : ad8) fA ([] : List (List Value)) aa bb m ba n ab Q _ _ aY aZ a0 a1 a2 a3 am a4 aW) ?_
   rintro _ bl _ br ⟨bL, bI, rfl, rfl, bv⟩
   refine ⟨(Ic Mb5 (Ic Mb6 (Ic Mb7 (Ic Mb8 (Ic Mb9 In0))))), ?_⟩
   exact Ja 10 Z<|Ad<|Re0<|Re0<|Re0<|Re0<|Re0<|Re0<|Re0<|Re0<|Re0<|Re0<|Sd<|⟨_, by exact R1, n, rfl, rfl, H⟩
 rintro _ bm _ bs ⟨p, rfl, rfl, H⟩
 unfold vX at H
 refine fy ?_
 obtain bo := gm H
 subst B
 refine ⟨(.inl rfl), [(.bool p)], ⟨(.bool p), _, rfl, rfl, rfl⟩, ?_⟩
 exact Sd ⟨rfl, rfl⟩
end Go.Hx
namespace Go.Hx
open Go Go.Proofs
set_option maxRecDepth 10000
set_option maxHeartbeats 1000000
theorem Ce (p0 : ad6) (C : SV) (p1 : ae3) (D : SV) (j : Bool) (H : rM p0 p1 = some j) (K : Kp) (G : List Ent) (R : Slr f5 K (sv C) p0) (o : Slr (Ty.sl gK) K (sv D) p1) :
  Fc Tryz.prog 13 #[(sv C), (sv D)] K (G) (fun v e f => v = (.bool j) ∧ G = f) := by
 refine fO Tryz.func13 rfl Tryz.ntmps13 Tryz.results13 rfl ?_
 unfold rM at H
 refine fc<|fa<|Ea Z<|fb<|fc<|fa<|Em Z<|Eq Z (ge (T := (Ty.sl gK)) o rfl rfl)<|?_
 obtain ⟨aV, aP, H⟩ := bnd H
 refine ff rfl (jv (T := Ty.i64) (r := [(Vi 0)]) rfl rfl rfl aP rfl rfl rfl rfl rfl rfl rfl rfl rfl rfl (fun t aR av a2 => ?_))
 refine Ea Z<|fb<|fc<|fa<|Em Z<|Eq Z (ge (T := (Ty.sl gK)) o rfl rfl)<|?_
 obtain ⟨aW, aQ, H⟩ := bnd H
 refine ff rfl (jv (T := Ty.bool) (r := [(.bool false)]) rfl rfl rfl aQ rfl rfl rfl rfl rfl rfl rfl rfl rfl rfl (fun u aS aw a3 => ?_))
 refine Ea Z<|fb<|?_
 refine fz (fun l e f => [] = l ∧ G = f ∧ vY = some j) ?_ ?_
 ·refine fc<|fa<|Ea Z<|fb<|fB<|?_
  refine f8 (fun ap l e f => ∃ (q : ad1) (z : List (List Value)) (s : ae0) (A : List (List Value)) (g : Int), [(0, (sv C)), (1, (sv D)), (5, (sv t)), (6, (sv u)), (7, (Vi g))] = l ∧ K = e ∧ (.row (sv t) 3 1 z.flatten) :: (.row (sv u) 4 1 A.flatten) :: G = f ∧ lp3 (vZ p0 p1) ap q s g = some j ∧ RowR Ty.i64 e z q ∧ RowR Ty.bool e A s) BIG ?_ ?_
  ·exact Pu1<|Sd<|⟨_, by exact R5, aV, aR, aW, aS, 0, rfl, rfl, rfl, H, av, aw⟩
  rintro ap _ _ _ - ⟨q, z, s, A, g, rfl, rfl, rfl, H, b, i⟩
  obtain ⟨a4, V, rfl, aB, H⟩ := xO H
  unfold vZ at H
  refine fc<|fc<|fa<|Em Z<|Em Z<|Eq Z (ge (T := f5) R rfl rfl)<|Ec Z<|fb<|?_
  refine fm rfl ?_ ?_
  ·intro E
   obtain ⟨E, H⟩ := It E H
   refine ft<|fc<|fB<|fc<|fa<|Em Z<|Em Z<|?_
   obtain ⟨a, am, H⟩ := bnd H
   obtain ⟨_, rfl, ay⟩ := Slr.at R am
   refine Eq Z (Qi (T := f5) R am Z)<|EL 8 (fJ a) Z (Rdc.k ay rfl)<|?_
   refine ff rfl (fC (cs := (fJ (Event.mk 0 0 false (Result.mk 0 0 0 false 0)))) rfl rfl rfl rfl (fun F => ?_))
   refine ff rfl (Sa (fJ a) Z .here Z ?_)
   refine fb<|fc<|fa<|EF 0 Z<|El (Vi a.thread) Z (Rb0 Z)<|Ea Z<|fb<|fc<|?_
   refine fz (fun l e f => ∃ (W : Bool), [(0, (sv C)), (1, (sv D)), (5, (sv t)), (6, (sv u)), (7, (Vi g)), (8, (Vp F)), (9, (Vi a.thread)), (53, (.bool W))] = l ∧ K = e ∧ (.blk F 40 (fJ a)) :: (.row (sv t) 3 1 z.flatten) :: (.row (sv u) 4 1 A.flatten) :: G = f ∧ pu p0 p1 q s g a V W = some j) ?_ ?_
   ·rcases gQ (dcd (a.thread < 0)) with c | c <;> revert c
    ·intro m
     obtain ⟨m, H⟩ := It m H
     refine fq _ rfl (Ic Mb0 (Ic Mb1 (Ic Mb2 In0)))<|Jm 0 Z<|Jc 1 Z<|Jm 2 Z<|Aw.known (d := 30) rfl (hZ m)<|Jz 3 Z<|Jz 4 Z<|Jz 5 Z<|Jz 6 Z<|Jt 7 Z<|Jm 8 Z<|Jz 9 Z<|Jz 10 Z<|Jz 11 Z<|Jz 12 Z<|Jz 13 Z<|Jz 14 Z<|Jz 15 Z<|Jt 16 Z<|Jm 17 Z<|Jz 18 Z<|Jz 19 Z<|?_
     exact Jz 20 Z<|Jz 21 Z<|Jz 22 Z<|Jz 23 Z<|Jz 24 Z<|Jt 25 Z<|Ad<|Pu2<|Pu2<|Pu2<|Sd<|⟨_, by exact R8, true, rfl, rfl, rfl, H⟩
    ·intro m
     obtain ⟨m, H⟩ := If m H
     rcases gQ (dcd (a.thread ≥ (p1.length : Int))) with c | c <;> revert c
     ·intro p
      obtain ⟨p, H⟩ := It p H
      refine fq _ rfl (Ic Mb0 (Ic Mb1 (Ic Mb2 In0)))<|Jm 0 Z<|Jc 1 Z<|Jm 2 Z<|Aw.known (d := 30) rfl (io m)<|Bm 3 Z<|Bm 4 Z<|Bq 5 Z (ge (T := (Ty.sl gK)) o rfl rfl)<|Bc 6 Z<|Jf 7 Z<|Jm 8 Z<|Aw.known (d := 36) rfl (hZ p)<|Jz 9 Z<|Jz 10 Z<|Jz 11 Z<|Jz 12 Z<|Jz 13 Z<|Jz 14 Z<|Jz 15 Z<|Jt 16 Z<|Jm 17 Z<|Jz 18 Z<|?_
      exact Jz 19 Z<|Jz 20 Z<|Jz 21 Z<|Jz 22 Z<|Jz 23 Z<|Jz 24 Z<|Jt 25 Z<|Ad<|Pu2<|Pu2<|Pu2<|Sd<|⟨_, by exact R8, true, rfl, rfl, rfl, H⟩
     ·intro p
      obtain ⟨p, H⟩ := If p H
      obtain ⟨Y, I, H⟩ := bnd H
      rcases gQ (!(dcd (a.op = Y))) with c | c <;> revert c
      ·intro n
       have n := ky (ir (n))
       have H := f0 n H
       refine fq _ rfl (Ic Mb0 (Ic Mb1 (Ic Mb2 In0)))<|Jm 0 Z<|Jc 1 Z<|Jm 2 Z<|Aw.known (d := 30) rfl (io m)<|Bm 3 Z<|Bm 4 Z<|Bq 5 Z (ge (T := (Ty.sl gK)) o rfl rfl)<|Bc 6 Z<|Jf 7 Z<|Jm 8 Z<|Aw.known (d := 36) rfl (io p)<|BF 9 1 Z<|Bl 10 (Vi a.op) Z (Rb0 Z)<|Bm 11 Z<|Bm 12 Z<|?_
       obtain ⟨a8, ad, aF⟩ := RowR.at b I
       obtain rfl := aF
       exact Bq 13 Z (gy (T := Ty.i64) Mb1 b ad (fK I).1 rfl rfl rfl rfl rfl)<|Bl 14 (Vi Y) Z (gP (T := Ty.i64) Mb1 b ad rfl rfl)<|Bc 15 Z<|Jf 16 Z<|Jm 17 Z<|Aw.known (d := 45) rfl (kp (io n))<|Jz 18 Z<|Jz 19 Z<|Jz 20 Z<|Jz 21 Z<|Jz 22 Z<|Jz 23 Z<|Jz 24 Z<|Jt 25 Z<|Ad<|Pu2<|Pu2<|Pu2<|Sd<|⟨_, by exact R8, true, rfl, rfl, rfl, H⟩
      ·intro n
       have n := kz (iq (n))
       have H := ift n H
       obtain ⟨aq, an, H⟩ := bnd H
       refine fq _ rfl (Ic Mb0 (Ic Mb1 (Ic Mb2 In0)))<|Jm 0 Z<|Jc 1 Z<|Jm 2 Z<|Aw.known (d := 30) rfl (io m)<|Bm 3 Z<|Bm 4 Z<|Bq 5 Z (ge (T := (Ty.sl gK)) o rfl rfl)<|Bc 6 Z<|Jf 7 Z<|Jm 8 Z<|Aw.known (d := 36) rfl (io p)<|BF 9 1 Z<|Bl 10 (Vi a.op) Z (Rb0 Z)<|Bm 11 Z<|Bm 12 Z<|?_
       obtain ⟨a9, ae, aG⟩ := RowR.at b I
       obtain rfl := aG
       refine Bq 13 Z (gy (T := Ty.i64) Mb1 b ae (fK I).1 rfl rfl rfl rfl rfl)<|Bl 14 (Vi Y) Z (gP (T := Ty.i64) Mb1 b ae rfl rfl)<|Bc 15 Z<|Jf 16 Z<|Jm 17 Z<|Aw.known (d := 45) rfl (kB (hZ n))<|BF 18 2 Z<|Bl 19 (.bool a.ret) Z (Rb0 Z)<|Bm 20 Z<|Bm 21 Z<|?_
       obtain ⟨ba, af, aH⟩ := RowR.at i an
       obtain rfl := aH
       exact Bq 22 Z (gy (T := Ty.bool) Mb2 i af (fK an).1 rfl rfl rfl rfl rfl)<|Bl 23 (.bool aq) Z (gP (T := Ty.bool) Mb2 i af rfl rfl)<|Bq 24 Z (EI rfl rfl rfl)<|Jf 25 Z<|Ad<|Pu2<|Pu2<|Pu2<|Sd<|⟨_, by exact R8, (!((a.ret == aq))), rfl, rfl, rfl, H⟩
   rintro _ _ _ - ⟨W, rfl, rfl, rfl, H⟩
   unfold pu at H
   refine fm rfl ?_ ?_
   ·intro O
    have H := ift O H
    refine fc<|fa<|Ea Z<|fb<|fy<|?_
    obtain ab := gm H
    subst j
    refine ⟨(.inl rfl), [(.bool false)], ⟨(.bool false), _, rfl, rfl, rfl⟩, ?_⟩
    exact Re0<|Re0<|Re0<|Sd<|⟨rfl, rfl⟩
   ·intro O
    have H := f0 (btf O) H
    refine ft<|fc<|?_
    refine fz (fun l e f => ∃ (X : Bool), [(0, (sv C)), (1, (sv D)), (5, (sv t)), (6, (sv u)), (7, (Vi g)), (8, (Vp F)), (9, (Vi a.thread)), (74, (.bool X))] = l ∧ K = e ∧ (.blk F 40 (fJ a)) :: (.row (sv t) 3 1 z.flatten) :: (.row (sv u) 4 1 A.flatten) :: G = f ∧ sA p0 p1 q s g a V X = some j) ?_ ?_
    ·rcases gQ (!(a.ret)) with c | c <;> revert c
     ·intro h
      have h := ir h
      have H := f0 (btf h) H
      obtain ⟨aa, J, H⟩ := bnd H
      obtain ⟨aX, L, H⟩ := bnd H
      rcases gQ (dcd (aa ≥ (aX.length : Int))) with c | c <;> revert c
      ·intro y
       obtain ⟨y, H⟩ := It y H
       refine fq _ rfl (Ic Mb0 (Ic Mb1 (Ic Mb2 In0)))<|JF 0 2 Z<|Jl 1 (.bool a.ret) Z (Rb0 Z)<|Jq 2 Z (gd rfl)<|Jm 3 Z<|Aw.known (d := 57) rfl (kp (h))<|Bm 4 Z<|Bm 5 Z<|?_
       obtain ⟨bb, ag, aI⟩ := RowR.at b J
       obtain rfl := aI
       refine Bq 6 Z (gy (T := Ty.i64) Mb1 b ag (fK J).1 rfl rfl rfl rfl rfl)<|Bl 7 (Vi aa) Z (gP (T := Ty.i64) Mb1 b ag rfl rfl)<|Bm 8 Z<|Bm 9 Z<|?_
       obtain ⟨bc, aJ, az⟩ := Slr.at o L
       obtain ⟨aT, rfl, aN⟩ := aJ
       exact Bq 10 Z (Qi (T := (Ty.sl gK)) o L Z)<|Bl 11 (sv aT) Z (Rdc.k az rfl)<|Bq 12 Z (ge (T := gK) aN rfl rfl)<|Bc 13 Z<|Bm 14 Z<|Aw.known (d := 68) rfl (hZ y)<|Jz 15 Z<|Jz 16 Z<|Jz 17 Z<|Jz 18 Z<|Bt 19 Z<|Jt 20 Z<|Ad<|Pu2<|Pu2<|Pu2<|Sd<|⟨_, by exact R8, true, rfl, rfl, rfl, H⟩
      ·intro y
       obtain ⟨y, H⟩ := If y H
       refine fq _ rfl (Ic Mb0 (Ic Mb1 (Ic Mb2 In0)))<|JF 0 2 Z<|Jl 1 (.bool a.ret) Z (Rb0 Z)<|Jq 2 Z (gd rfl)<|Jm 3 Z<|Aw.known (d := 57) rfl (kp (h))<|Bm 4 Z<|Bm 5 Z<|?_
       obtain ⟨bd, ah, aK⟩ := RowR.at b J
       obtain rfl := aK
       refine Bq 6 Z (gy (T := Ty.i64) Mb1 b ah (fK J).1 rfl rfl rfl rfl rfl)<|Bl 7 (Vi aa) Z (gP (T := Ty.i64) Mb1 b ah rfl rfl)<|Bm 8 Z<|Bm 9 Z<|?_
       obtain ⟨be, aL, aA⟩ := Slr.at o L
       obtain ⟨aU, rfl, aO⟩ := aL
       exact Bq 10 Z (Qi (T := (Ty.sl gK)) o L Z)<|Bl 11 (sv aU) Z (Rdc.k aA rfl)<|Bq 12 Z (ge (T := gK) aO rfl rfl)<|Bc 13 Z<|Bm 14 Z<|Aw.known (d := 68) rfl (io y)<|BF 15 3 Z<|BL 16 5 (fe a.result) Z (Rb0 Z)<|Bq 17 Z (fF (cs := (fe (Result.mk 0 0 0 false 0))) rfl rfl rfl rfl rfl rfl)<|Bq 18 Z (EJ rfl rfl (fun w => Result.eqrun a.result (Result.mk 0 0 0 false 0) w) (by kernel_rfl))<|Bf 19 Z<|Jt 20 Z<|Ad<|Pu2<|Pu2<|Pu2<|Sd<|⟨_, by exact R8, (!(dcd (a.result = (Result.mk 0 0 0 false 0)))), rfl, rfl, rfl, H⟩
     ·intro h
      have h := iq h
      have H := ift h H
      refine fq _ rfl (Ic Mb0 (Ic Mb1 (Ic Mb2 In0)))<|JF 0 2 Z<|Jl 1 (.bool a.ret) Z (Rb0 Z)<|Jq 2 Z (gd rfl)<|Jm 3 Z<|Aw.known (d := 57) rfl (kB (h))<|Jz 4 Z<|Jz 5 Z<|Jz 6 Z<|Jz 7 Z<|Jz 8 Z<|Jz 9 Z<|Jz 10 Z<|Jz 11 Z<|Jz 12 Z<|Jz 13 Z<|Jz 14 Z<|gI 15 rfl (by kernel_rfl) (by kernel_rfl) (by kernel_rfl) rfl rfl rfl rfl rfl<|gI 16 rfl (by kernel_rfl) (by kernel_rfl) (by kernel_rfl) rfl rfl rfl rfl rfl<|gI 17 rfl (by kernel_rfl) (by kernel_rfl) (by kernel_rfl) rfl rfl rfl rfl rfl<|gI 18 rfl (by kernel_rfl) (by kernel_rfl) (by kernel_rfl) rfl rfl rfl rfl rfl<|Jz 19 Z<|?_
      exact Jf 20 Z<|Ad<|Pu2<|Pu2<|Pu2<|Sd<|⟨_, by exact R8, false, rfl, rfl, rfl, H⟩
    rintro _ _ _ - ⟨X, rfl, rfl, rfl, H⟩
    unfold sA at H
    refine fm rfl ?_ ?_
    ·intro P
     have H := ift P H
     refine fc<|fa<|Ea Z<|fb<|fy<|?_
     obtain ab := gm H
     subst j
     refine ⟨(.inl rfl), [(.bool false)], ⟨(.bool false), _, rfl, rfl, rfl⟩, ?_⟩
     exact Re0<|Re0<|Re0<|Sd<|⟨rfl, rfl⟩
    ·intro P
     have H := f0 (btf P) H
     refine ft ?_
     refine fz (fun l e f => ∃ (M : ad1) (N : List (List Value)), [(0, (sv C)), (1, (sv D)), (5, (sv t)), (6, (sv u)), (7, (Vi g)), (9, (Vi a.thread))] = l ∧ K = e ∧ (.row (sv t) 3 1 N.flatten) :: (.row (sv u) 4 1 A.flatten) :: G = f ∧ oI p0 p1 s g a V M = some j ∧ RowR Ty.i64 e N M) ?_ ?_
     ·refine fc<|fa<|EF 2 Z<|El (.bool a.ret) Z (Rb0 Z)<|fb<|?_
      refine fm rfl ?_ ?_
      ·intro Q
       have H := ift Q H
       refine fa<|Em Z<|Em Z<|?_
       obtain ⟨x, ao, H⟩ := bnd H
       obtain ⟨bf, ai, aM⟩ := RowR.at b ao
       obtain rfl := aM
       refine Eq Z (gy (T := Ty.i64) Mb1 b ai (fK ao).1 rfl rfl rfl rfl rfl)<|El (Vi x) Z (gP (T := Ty.i64) Mb1 b ai rfl rfl)<|Er (wI (x + 1)) Z<|?_
       obtain ⟨bg, aj, H⟩ := bnd H
       obtain ⟨a5, S, aC⟩ := RowR.at b aj
       obtain rfl := aC
       refine Eq Z (gy (T := Ty.i64) Mb1 b S (fK aj).1 rfl rfl rfl rfl rfl) ?_
       refine ff rfl (gV (T := Ty.i64) (vs := [(Vi (wI (x + 1)))]) (r' := [(Vi (wI (x + 1)))]) (l' := (f6 q a.thread (wI (x + 1)))) rfl rfl rfl rfl rfl (.there .here) b S rfl rfl rfl (RowR.set a.thread b rfl) (fun ar => ?_))
       have aZ := iV S (v := [(Vi (wI (x + 1)))])
       exact fb<|Pu2<|Pu2<|Re2<|Sd<|⟨_, by exact R6, (f6 q a.thread (wI (x + 1))), (z.set a.thread.toNat [(Vi (wI (x + 1)))]), rfl, rfl, rfl, H, ar⟩
      ·intro Q
       have H := f0 (btf Q) H
       exact ft<|Pu2<|Pu2<|Re2<|Sd<|⟨_, by exact R6, q, z, rfl, rfl, rfl, H, b⟩
     rintro _ _ _ - ⟨M, N, rfl, rfl, rfl, H, ax⟩
     unfold oI at H
     refine fa<|Em Z<|Em Z<|Em Z<|Em Z<|?_
     obtain ⟨B, ak, H⟩ := bnd H
     obtain ⟨a6, ac, aD⟩ := RowR.at i ak
     obtain rfl := aD
     refine Eq Z (gy (T := Ty.bool) Mb1 i ac (fK ak).1 rfl rfl rfl rfl rfl)<|El (.bool B) Z (gP (T := Ty.bool) Mb1 i ac rfl rfl)<|Eq Z (gd rfl)<|?_
     obtain ⟨bh, al, H⟩ := bnd H
     obtain ⟨a7, U, aE⟩ := RowR.at i al
     obtain rfl := aE
     refine Eq Z (gy (T := Ty.bool) Mb1 i U (fK al).1 rfl rfl rfl rfl rfl) ?_
     refine ff rfl (gV (T := Ty.bool) (vs := [(.bool (!(B)))]) (r' := [(.bool (!(B)))]) (l' := (f6 s a.thread (!(B)))) rfl rfl rfl rfl rfl (.there .here) i U rfl rfl rfl (RowR.set a.thread i rfl) (fun au => ?_))
     have a0 := iV U (v := [(.bool (!(B)))])
     exact fb<|fa<|Em Z<|Er (wI (g + 1)) Z<|Ea Z<|fb<|Pu1<|Pu1<|Sd<|⟨_, by exact R5, _, Nat.lt_succ_self _, M, N, (f6 s a.thread (!(B))), (A.set a.thread.toNat [(.bool (!(B)))]), (wI (g + 1)), rfl, rfl, rfl, (aB ▸ H), ax, au⟩
  ·intro E
   obtain ⟨E, H⟩ := If E H
   exact ga<|Re0<|Re0<|Sd<|⟨[], trivial, rfl, rfl, H⟩
 rintro _ aY _ a1 ⟨rfl, rfl, H⟩
 unfold vY at H
 refine fc<|fa<|Ea Z<|fb<|fy<|?_
 obtain ab := gm H
 subst j
 refine ⟨(.inl rfl), [(.bool true)], ⟨(.bool true), _, rfl, rfl, rfl⟩, ?_⟩
 exact Sd ⟨rfl, rfl⟩
end Go.Hx
namespace Go.Hx
open Go Go.Proofs
set_option maxRecDepth 10000
set_option maxHeartbeats 1000000
theorem CE (p0 : ad1) (ax : SV) (p1 : Int) (p2 : Int) (p3 : Int) (I : Bool) (H : wb p0 p1 p2 p3 = some I) (K : Kp) (G : List Ent) (bp : Slr Ty.u8 K (sv ax) p0) (hT : mq K) :
  Fc Tryz.prog 4 #[(sv ax), (Vi p1), (Vi p2), (Vi p3)] K (G) (fun v w J => v = (.bool I) ∧ G = J) := by
 refine fO Tryz.func4 rfl Tryz.ntmps4 Tryz.results4 rfl ?_
 unfold wb at H
 refine fc<|fa<|Ea Z<|fb<|fc<|fc<|fa<|?_
 obtain ⟨bY, bS, H⟩ := bnd H
 refine ff rfl (Ek Tryz.call7 Z (CB  bY bS _ _ hT) ?_)
 rintro _ ca _ aq ⟨rfl, rfl⟩
 refine Eq Z (gd rfl)<|fb<|?_
 refine fm rfl ?_ ?_
 ·intro Q
  have Q := ir Q
  have H := f0 (btf Q) H
  refine fc<|fa<|Ea Z<|fb<|fy<|?_
  obtain ap := gm H
  subst I
  refine ⟨(.inl rfl), [(.bool false)], ⟨(.bool false), _, rfl, rfl, rfl⟩, ?_⟩
  exact Sd ⟨rfl, rfl⟩
 ·intro Q
  have Q := iq Q
  have H := ift Q H
  refine ft<|fc<|fa<|Em Z<|?_
  obtain ⟨a, m, bZ, bT, H⟩ := kO H
  have bK := bp.mono aq
  refine ff rfl (Ek Tryz.call8 Z (BA p0 ax 7 a m bZ bT _ _ bK) ?_)
  rintro _ ab _ aD ⟨c, e, h, al, cr, rfl, rfl, aY, aZ, bL, bM⟩
  refine Em Z<|Ex Z<|Ex Z<|Ex Z<|?_
  refine ff rfl (fC (cs := (fp (fP.mk [] [] 0) fA fA)) rfl rfl rfl rfl (fun N => ?_))
  refine ff rfl (Sa (fp a c e) Z .here Z ?_)
  refine Ea Z<|Ea Z<|fb<|fc<|fa<|Em Z<|?_
  have bj : RowR f5 ab [] [] := RowR.nil
  refine Ow.shift (Shift.nilRow 40 8 (Sd ?_))
  obtain ⟨b0, bU, H⟩ := bnd H
  refine ff rfl (gW (T := f5) (bytes := 64) rfl rfl rfl Mb0 bj (SrcT.sl bM) bU rfl rfl rfl rfl rfl rfl rfl rfl (fun i bX bk => ⟨_, .here, ?_⟩))
  refine Ea Z<|fb<|?_
  refine fz (fun P w J => ∃ (D : ad6) (aw : List (List Value)), [(3, (Vi p3)), (9, (Vp N)), (10, (sv h)), (12, (sv i))] = P ∧ (.blk N 27 (fp a c e)) :: (.row (sv i) 40 8 aw.flatten) :: (.tok 3 1 [(sv c)]) :: (.tok 36 1 [(sv e)]) :: (.row (sv h) 52 1 al.flatten) :: G = J ∧ v6 p3 m a D = some I ∧ RowR f5 w aw D) ?_ ?_
  ·refine fc<|fa<|Em Z<|Em Z<|Em Z<|Er (wI (p1 + 1)) Z<|?_
   have ag : RowR Ty.i64 ab [[(Vi p1)], [(Vi p2)], [(Vi (wI (p1 + 1)))]] [p1, p2, wI (p1 + 1)] := RowR.cons rfl (RowR.cons rfl (RowR.cons rfl (RowR.nil)))
   refine ff rfl (gg (T := Ty.i64) (rows := [[(Vi p1)], [(Vi p2)], [(Vi (wI (p1 + 1)))]]) (l := [p1, p2, wI (p1 + 1)]) rfl rfl rfl ag rfl rfl rfl rfl rfl rfl rfl rfl (fun aa => ?_))
   refine Eq Z (lx (T := Ty.i64) Mb0 ag rfl rfl rfl)<|Em Z<|fb<|fB<|?_
   refine f8 (fun bc P w J => ∃ (k : ad6) (O : List (List Value)) (M : Int), [(3, (Vi p3)), (9, (Vp N)), (10, (sv h)), (12, (sv i)), (33, (sv aa)), (34, (Vi ([p1, p2, wI (p1 + 1)].length : Int))), (35, (Vi M))] = P ∧ ab = w ∧ (.blk N 27 (fp a c e)) :: (.row (sv i) 40 8 O.flatten) :: (.row (sv aa) 3 1 [[(Vi p1)], [(Vi p2)], [(Vi (wI (p1 + 1)))]].flatten) :: (.tok 3 1 [(sv c)]) :: (.tok 36 1 [(sv e)]) :: (.row (sv h) 52 1 al.flatten) :: G = J ∧ lp2 (wa p3 m p1 p2 a) bc k M = some I ∧ RowR f5 w O k) BIG ?_ ?_
   ·exact Pu5<|Pu5<|Pu5<|Pu3<|Pu4<|Pu5<|Re6<|Sd<|⟨_, by exact R7, b0, bX, 0, rfl, rfl, rfl, H, bk⟩
   rintro bc _ _ _ - ⟨k, O, M, rfl, rfl, rfl, H, b⟩
   obtain ⟨cj, bb, rfl, bo, H⟩ := jF H
   unfold wa at H
   refine fc<|fa<|Ec Z<|fb<|fc<|?_
   refine fm rfl ?_ ?_
   ·intro ad
    obtain ⟨ad, H⟩ := It ad H
    refine ft ?_
    refine fz (fun P w J => ∃ (ak : ad6) (am : List (List Value)), [(3, (Vi p3)), (9, (Vp N)), (10, (sv h)), (12, (sv i)), (33, (sv aa)), (34, (Vi ([p1, p2, wI (p1 + 1)].length : Int))), (35, (Vi M))] = P ∧ ab = w ∧ (.blk N 27 (fp a c e)) :: (.row (sv i) 40 8 am.flatten) :: (.row (sv aa) 3 1 [[(Vi p1)], [(Vi p2)], [(Vi (wI (p1 + 1)))]].flatten) :: (.tok 3 1 [(sv c)]) :: (.tok 36 1 [(sv e)]) :: (.row (sv h) 52 1 al.flatten) :: G = J ∧ sB p3 m p1 p2 M a bb ak = some I ∧ RowR f5 w am ak) ?_ ?_
    ·refine fB<|fc<|fa<|?_
     obtain ⟨be, a4, H⟩ := bnd H
     obtain ⟨ck, aF, bq⟩ := RowR.at ag a4
     obtain rfl := bq
     refine Eq Z (gy (T := Ty.i64) Mb2 ag aF (fK a4).1 rfl rfl rfl rfl rfl)<|El (Vi be) Z (gP (T := Ty.i64) Mb2 ag aF rfl rfl)<|Ea Z<|fb<|fc<|fa<|Em Z<|Eq Z (lx (T := f5) Mb1 b rfl rfl rfl)<|Ec Z<|fb<|?_
     refine fm rfl ?_ ?_
     ·intro ae
      obtain ⟨ae, H⟩ := It ae H
      refine fc<|fa<|Em Z<|Em Z<|Eq Z (lx (T := f5) Mb1 b rfl rfl rfl)<|Er (wI ((k.length : Int) - 1)) Z<|?_
      obtain ⟨j, bV, H⟩ := bnd H
      refine ff rfl (Ek Tryz.call12 Z (zp be (wI ((k.length : Int) - 1)) j bV _ _ ) ?_)
      rintro _ _ _ - ⟨rfl, rfl, rfl⟩
      refine Ea Z<|fb<|fc<|?_
      obtain ⟨b1, a5, H⟩ := bnd H
      obtain ⟨b2, a6, H⟩ := bnd H
      refine fq _ rfl (Ic Mb0 (Ic Mb1 (Ic Mb2 (Ic Mb3 (Ic Mb4 (Ic Mb5 In0))))))<|Jm 0 Z<|Jm 1 Z<|?_
      obtain ⟨cl, aG, br⟩ := RowR.at b a5
      obtain rfl := br
      refine Jq 2 Z (gy (T := f5) Mb1 b aG (fK a5).1 rfl rfl rfl rfl rfl)<|JF 3 0 Z<|Jl 4 (Vi b1.thread) Z (gP (T := f5) Mb1 b aG rfl rfl)<|Jm 5 Z<|Jm 6 Z<|Jr 7 (wI (j + 1)) Z<|?_
      obtain ⟨cm, aH, bs⟩ := RowR.at b a6
      obtain rfl := bs
      refine Jq 8 Z (gy (T := f5) Mb1 b aH (fK a6).1 rfl rfl rfl rfl rfl)<|JF 9 0 Z<|Jl 10 (Vi b2.thread) Z (gP (T := f5) Mb1 b aH rfl rfl)<|Jc 11 Z<|Ad<|?_
      refine fm rfl ?_ ?_
      ·intro R
       have R := ky (ir (R))
       have H := f0 R H
       refine fz (fun P w J => ∃ (an : Nat) (ao : Nat) (n : Int) (o : Int) (t : Bool) (p : Int) (q : Int) (r : Int) (u : Bool) (s : Int) (x : Int) (y : Int) (E : Bool) (z : Int) (A : Int) (B : Int) (F : Bool) (C : Int), [(3, (Vi p3)), (9, (Vp N)), (10, (sv h)), (12, (sv i)), (15, (Vi j)), (16, (Vp an)), (17, (Vp ao)), (33, (sv aa)), (34, (Vi ([p1, p2, wI (p1 + 1)].length : Int))), (35, (Vi M))] = P ∧ ab = w ∧ (.blk ao 40 (fJ (Event.mk n o t (Result.mk p q r u s)))) :: (.blk an 40 (fJ (Event.mk x y E (Result.mk z A B F C)))) :: (.blk N 27 (fp a c e)) :: (.row (sv i) 40 8 O.flatten) :: (.row (sv aa) 3 1 [[(Vi p1)], [(Vi p2)], [(Vi (wI (p1 + 1)))]].flatten) :: (.tok 3 1 [(sv c)]) :: (.tok 36 1 [(sv e)]) :: (.row (sv h) 52 1 al.flatten) :: G = J ∧ v8 p3 m k j p1 p2 M a bb n o t p q r u s x y E z A B F C = some I) ?_ ?_
       ·obtain ⟨f, a7, H⟩ := bnd H
        obtain ⟨g, a8, H⟩ := bnd H
        refine fq _ rfl (Ic Mb0 (Ic Mb1 (Ic Mb2 (Ic Mb3 (Ic Mb4 (Ic Mb5 In0))))))<|Jm 0 Z<|Jm 1 Z<|?_
        obtain ⟨cn, aI, bt⟩ := RowR.at b a7
        obtain rfl := bt
        refine Jq 2 Z (gy (T := f5) Mb1 b aI (fK a7).1 rfl rfl rfl rfl rfl)<|JL 3 8 (fJ f) Z (gP (T := f5) Mb1 b aI rfl rfl)<|Jm 4 Z<|Jm 5 Z<|Jr 6 (wI (j + 1)) Z<|?_
        obtain ⟨co, aJ, bu⟩ := RowR.at b a8
        obtain rfl := bu
        refine Jq 7 Z (gy (T := f5) Mb1 b aJ (fK a8).1 rfl rfl rfl rfl rfl)<|JL 8 8 (fJ g) Z (gP (T := f5) Mb1 b aJ rfl rfl)<|?_
        refine gU 9 10 (by kernel_rfl) ?_ ?_
        ·refine id (Jy Z ?_)
         refine fC (cs := (fJ (Event.mk 0 0 false (Result.mk 0 0 0 false 0)))) rfl rfl rfl rfl (fun bf => ⟨(Ic Mb1 (Ic Mb2 (Ic Mb3 (Ic Mb4 (Ic Mb5 (Ic Mb6 In0)))))), ?_⟩)
         refine Ao 10 Z ?_
         refine fC (cs := (fJ (Event.mk 0 0 false (Result.mk 0 0 0 false 0)))) rfl rfl rfl rfl (fun bg => ⟨(Ic Mb2 (Ic Mb3 (Ic Mb4 (Ic Mb5 (Ic Mb6 (Ic Mb7 In0)))))), ?_⟩)
         refine Ao 11 Z ?_
         refine Sa (fJ f) Z (.there .here) Z ⟨(Ic Mb2 (Ic Mb3 (Ic Mb4 (Ic Mb5 (Ic Mb6 (Ic Mb7 In0)))))), ?_⟩
         refine Ao 12 Z ?_
         refine Sa (fJ g) Z .here Z ⟨(Ic Mb2 (Ic Mb3 (Ic Mb4 (Ic Mb5 (Ic Mb6 (Ic Mb7 In0)))))), ?_⟩
         exact Ad<|Pu7<|Pu7<|Pu7<|Pu7<|Pu7<|Pu7<|Pu7<|Pu7<|Sd<|⟨_, by exact R10, bf, bg, g.thread, g.op, g.ret, g.result.kind, g.result.case_, g.result.value, g.result.ok, g.result.number, f.thread, f.op, f.ret, f.result.kind, f.result.case_, f.result.value, f.result.ok, f.result.number, rfl, rfl, rfl, H⟩
        ·refine id (Jy Z ?_)
         refine fC (cs := (fJ (Event.mk 0 0 false (Result.mk 0 0 0 false 0)))) rfl rfl rfl rfl (fun bh => ⟨(Ic Mb1 (Ic Mb2 (Ic Mb3 (Ic Mb4 (Ic Mb5 (Ic Mb6 In0)))))), ?_⟩)
         refine Ao 9 Z ?_
         refine fC (cs := (fJ (Event.mk 0 0 false (Result.mk 0 0 0 false 0)))) rfl rfl rfl rfl (fun bi => ⟨(Ic Mb2 (Ic Mb3 (Ic Mb4 (Ic Mb5 (Ic Mb6 (Ic Mb7 In0)))))), ?_⟩)
         refine Ao 11 Z ?_
         refine Sa (fJ f) Z .here Z ⟨(Ic Mb2 (Ic Mb3 (Ic Mb4 (Ic Mb5 (Ic Mb6 (Ic Mb7 In0)))))), ?_⟩
         refine Ao 12 Z ?_
         refine Sa (fJ g) Z (.there .here) Z ⟨(Ic Mb2 (Ic Mb3 (Ic Mb4 (Ic Mb5 (Ic Mb6 (Ic Mb7 In0)))))), ?_⟩
         exact Ad<|Pu7<|Pu7<|Pu7<|Pu7<|Pu7<|Pu7<|Pu6<|Pu7<|Sd<|⟨_, by exact R10, bi, bh, g.thread, g.op, g.ret, g.result.kind, g.result.case_, g.result.value, g.result.ok, g.result.number, f.thread, f.op, f.ret, f.result.kind, f.result.case_, f.result.value, f.result.ok, f.result.number, rfl, rfl, rfl, H⟩
       rintro _ _ _ - ⟨an, ao, n, o, t, p, q, r, u, s, x, y, E, z, A, B, F, C, rfl, rfl, rfl, H⟩
       unfold v8 at H
       obtain ⟨ct, a9, H⟩ := bnd H
       obtain ⟨cu, ba, H⟩ := bnd H
       refine fq _ rfl (Ic Mb0 (Ic Mb1 (Ic Mb2 (Ic Mb4 (Ic Mb5 (Ic Mb6 (Ic Mb7 In0)))))))<|Jm 0 Z<|Jm 1 Z<|Jm 2 Z<|Jm 3 Z<|Jr 4 (wI (j + 1)) Z<|JL 5 8 (fJ (Event.mk n o t (Result.mk p q r u s))) Z (Rb0 Z)<|JL 6 8 (fJ (Event.mk x y E (Result.mk z A B F C))) Z (Rb1 Z)<|?_
       obtain ⟨cp, ar, bv⟩ := RowR.at b a9
       obtain rfl := bv
       refine gx 7 (by kernel_rfl) (Jyq Z (gy (T := f5) Mb3 b ar (fK a9).1 rfl rfl rfl rfl rfl) ⟨(Ic Mb0 (Ic Mb1 (Ic Mb2 (Ic Mb4 (Ic Mb5 (Ic Mb6 (Ic Mb7 In0))))))), ?_⟩)
       refine Ao 8 Z ?_
       refine gV (T := f5) (vs := (fJ (Event.mk n o t (Result.mk p q r u s)))) (r' := (fJ (Event.mk n o t (Result.mk p q r u s)))) (l' := (f6 k j (Event.mk n o t (Result.mk p q r u s)))) rfl rfl rfl rfl rfl (.there (.there (.there .here))) b ar rfl rfl rfl (RowR.set j b rfl) (fun aj => ⟨(Ic Mb0 (Ic Mb1 (Ic Mb2 (Ic Mb4 (Ic Mb5 (Ic Mb6 (Ic Mb7 In0))))))), ?_⟩)
       have cf := iV ar (v := (fJ (Event.mk n o t (Result.mk p q r u s))))
       obtain ⟨cq, au, bw⟩ := RowR.at aj ba
       obtain rfl := bw
       refine gx 9 (by kernel_rfl) (Jyq Z (gy (T := f5) Mb3 aj au (fK ba).1 rfl rfl rfl rfl rfl) ⟨(Ic Mb0 (Ic Mb1 (Ic Mb2 (Ic Mb4 (Ic Mb5 (Ic Mb6 (Ic Mb7 In0))))))), ?_⟩)
       refine Ao 10 Z ?_
       refine gV (T := f5) (vs := (fJ (Event.mk x y E (Result.mk z A B F C)))) (r' := (fJ (Event.mk x y E (Result.mk z A B F C)))) (l' := (f6 (f6 k j (Event.mk n o t (Result.mk p q r u s))) (wI (j + 1)) (Event.mk x y E (Result.mk z A B F C)))) rfl rfl rfl rfl rfl (.there (.there (.there .here))) aj au rfl rfl rfl (RowR.set (wI (j + 1)) aj rfl) (fun bn => ⟨(Ic Mb0 (Ic Mb1 (Ic Mb2 (Ic Mb4 (Ic Mb5 (Ic Mb6 (Ic Mb7 In0))))))), ?_⟩)
       have cg := iV au (v := (fJ (Event.mk x y E (Result.mk z A B F C))))
       exact Ad<|Pu7<|Pu7<|Pu7<|Pu7<|Pu7<|Pu7<|Re6<|Re6<|Sd<|⟨_, by exact R7, (f6 (f6 k j (Event.mk n o t (Result.mk p q r u s))) (wI (j + 1)) (Event.mk x y E (Result.mk z A B F C))), ((O.set j.toNat (fJ (Event.mk n o t (Result.mk p q r u s)))).set (wI (j + 1)).toNat (fJ (Event.mk x y E (Result.mk z A B F C)))), rfl, rfl, rfl, H, bn⟩
      ·intro R
       have R := kz (iq (R))
       have H := ift R H
       exact ft<|Pu5<|Pu5<|Pu5<|Pu5<|Pu5<|Pu5<|Sd<|⟨_, by exact R7, k, O, rfl, rfl, rfl, H, b⟩
     ·intro ae
      obtain ⟨ae, H⟩ := If ae H
      exact ft<|Pu5<|Pu5<|Pu5<|Pu5<|Pu5<|Pu5<|Sd<|⟨_, by exact R7, k, O, rfl, rfl, rfl, H, b⟩
    rintro _ _ _ - ⟨ak, am, rfl, rfl, rfl, H, bm⟩
    unfold sB at H
    exact fa<|Er (wI (M + 1)) Z<|Em Z<|fb<|Pu5<|Pu5<|Pu5<|Pu5<|Pu5<|Pu5<|Sd<|⟨_, by exact R7, _, Nat.lt_succ_self _, ak, am, (wI (M + 1)), rfl, rfl, rfl, (bo ▸ H), bm⟩
   ·intro ad
    obtain ⟨ad, H⟩ := If ad H
    exact ga<|Pu5<|Pu5<|Pu5<|Pu4<|Pu4<|Re5<|Sd<|⟨_, by exact R4, k, O, rfl, rfl, H, b⟩
  rintro _ cb _ U ⟨D, aw, rfl, rfl, H, bl⟩
  unfold v6 at H
  refine fc<|fc<|fa<|Em Z<|Em Z<|?_
  refine Ow.shift (Shift.settle (T := f5) (.there .here) bl rfl (fun cc V bN => Sd ?_))
  have bO := (bL.mono U).mono V
  refine Ow.shift (Shift.settle (T := (Ty.sl gK)) (.there (.there (.there (.there .here)))) bO rfl (fun cd W av => Sd ?_))
  obtain ⟨b3, bW, H⟩ := bnd H
  have a0 := bN.mono W
  refine ff rfl (Ek Tryz.call13 Z (Ce D i m h b3 bW _ _ a0 av) ?_)
  rintro _ ce _ L ⟨rfl, rfl⟩
  refine Eq Z (gd rfl)<|fb<|?_
  refine fm rfl ?_ ?_
  ·intro S
   have S := ir S
   have H := f0 (btf S) H
   refine fc<|fa<|Ea Z<|fb<|fy<|?_
   obtain ap := gm H
   subst I
   refine ⟨(.inl rfl), [(.bool false)], ⟨(.bool false), _, rfl, rfl, rfl⟩, ?_⟩
   exact Re0<|Re0<|Re0<|Re0<|Re0<|Sd<|⟨rfl, rfl⟩
  ·intro S
   have S := iq S
   have H := ift S H
   refine ft<|fc<|fa<|Em Z<|Em Z<|Em Z<|?_
   have X := a0.mono L
   refine Eq Z (ge (T := f5) X rfl rfl)<|Er (wI ((D.length : Int) + 1)) Z<|?_
   obtain ⟨aC, bP, H⟩ := bnd H
   refine ff rfl (Ek Tryz.call12 Z (zp p3 (wI ((D.length : Int) + 1)) aC bP _ _ ) ?_)
   rintro _ _ _ - ⟨rfl, rfl, rfl⟩
   obtain ⟨bd, a1, H⟩ := bnd H
   have bx := Slr.cut X a1
   refine Eq Z (sG (T := f5) X a1 rfl rfl rfl rfl)<|Ea Z<|fb<|fc<|?_
   obtain ⟨ay, a2, H⟩ := bnd H
   obtain ⟨az, a3, H⟩ := bnd H
   rcases gQ (ay == az) with aE | aE <;> revert aE
   ·intro ac
    have H := ift ac H
    obtain ⟨aA, bQ, H⟩ := bnd H
    obtain ⟨aB, bR, H⟩ := bnd H
    refine fq _ rfl (Ic Mb0 (Ic Mb1 (Ic Mb2 (Ic Mb3 (Ic Mb4 In0)))))<|JL 0 3 (fp a c e) Z (Rb0 Z)<|Jm 1 Z<|Jm 2 Z<|JL 4 3 (fp a c e) Z (Rb0 Z)<|Jm 5 Z<|Jm 6 Z<|?_
    refine Ao 3 Z ?_
    have aK := (((aY.mono U).mono V).mono W).mono L
    have aL := (((aZ.mono U).mono V).mono W).mono L
    have aM := av.mono L
    have aN := (((((hT.mono aq).mono aD).mono U).mono V).mono W).mono L
    refine Ek Tryz.call9 Z (m6 a c e m h D i ay a2 _ _ aK aL aM X aN) ?_
    rintro _ b4 _ Y ⟨rfl, rfl⟩
    refine ⟨(Ic Mb0 (Ic Mb1 (Ic Mb2 (Ic Mb3 (Ic Mb4 In0))))), ?_⟩
    refine Ao 7 Z ?_
    have aO := aK.mono Y
    have aP := aL.mono Y
    have aQ := aM.mono Y
    have bz := X.mono Y
    refine Ek Tryz.call11 Z (wv a c e m h D i az a3 _ _ aO aP aQ bz) ?_
    rintro _ b5 _ af ⟨rfl, rfl⟩
    refine ⟨(Ic Mb0 (Ic Mb1 (Ic Mb2 (Ic Mb3 (Ic Mb4 In0))))), ?_⟩
    refine Jq 8 Z (oK rfl rfl rfl)<|Jm 9 Z<|Aw.known (d := 98) rfl (ac)<|BL 10 3 (fp a c e) Z (Rb0 Z)<|Bm 11 Z<|Bm 12 Z<|BL 14 3 (fp a c e) Z (Rb0 Z)<|Bm 15 Z<|Bm 16 Z<|?_
    refine gx 13 (by kernel_rfl) (jK rfl rfl rfl rfl rfl ?_)
    have aR := aO.mono af
    have aS := aP.mono af
    have aT := aQ.mono af
    have aU := (bx.mono Y).mono af
    have bA := (aN.mono Y).mono af
    refine Ek Tryz.call9 Z (m6 a c e m h bd (jo i 8 0 aC.toNat) aA bQ _ _ aR aS aT aU bA) ?_
    rintro _ b6 _ ah ⟨rfl, rfl⟩
    refine ⟨(Ic Mb0 (Ic Mb1 (Ic Mb2 (Ic Mb3 (Ic Mb4 In0))))), ?_⟩
    refine gx 17 (by kernel_rfl) (jK rfl rfl rfl rfl rfl ?_)
    have bB := aR.mono ah
    have bC := aS.mono ah
    have bD := aT.mono ah
    have bE := aU.mono ah
    refine Ek Tryz.call11 Z (wv a c e m h bd (jo i 8 0 aC.toNat) aB bR _ _ bB bC bD bE) ?_
    rintro _ b7 _ ch ⟨rfl, rfl⟩
    refine ⟨(Ic Mb0 (Ic Mb1 (Ic Mb2 (Ic Mb3 (Ic Mb4 In0))))), ?_⟩
    refine Bq 18 Z (oK rfl rfl rfl)<|Jt 19 Z<|Ja 20 Z<|Ad<|fy<|?_
    obtain ap := gm H
    subst I
    refine ⟨(.inl rfl), [(.bool (aA == aB))], ⟨(.bool (aA == aB)), _, rfl, rfl, rfl⟩, ?_⟩
    exact Re0<|Re0<|Re0<|Re0<|Re0<|Sd<|⟨rfl, rfl⟩
   ·intro ac
    have H := f0 (btf ac) H
    refine fq _ rfl (Ic Mb0 (Ic Mb1 (Ic Mb2 (Ic Mb3 (Ic Mb4 In0)))))<|JL 0 3 (fp a c e) Z (Rb0 Z)<|Jm 1 Z<|Jm 2 Z<|JL 4 3 (fp a c e) Z (Rb0 Z)<|Jm 5 Z<|Jm 6 Z<|?_
    refine Ao 3 Z ?_
    have aV := (((aY.mono U).mono V).mono W).mono L
    have aW := (((aZ.mono U).mono V).mono W).mono L
    have aX := av.mono L
    have bF := (((((hT.mono aq).mono aD).mono U).mono V).mono W).mono L
    refine Ek Tryz.call9 Z (m6 a c e m h D i ay a2 _ _ aV aW aX X bF) ?_
    rintro _ b8 _ ai ⟨rfl, rfl⟩
    refine ⟨(Ic Mb0 (Ic Mb1 (Ic Mb2 (Ic Mb3 (Ic Mb4 In0))))), ?_⟩
    refine Ao 7 Z ?_
    have bG := aV.mono ai
    have bH := aW.mono ai
    have bI := aX.mono ai
    have bJ := X.mono ai
    refine Ek Tryz.call11 Z (wv a c e m h D i az a3 _ _ bG bH bI bJ) ?_
    rintro _ b9 _ ci ⟨rfl, rfl⟩
    refine ⟨(Ic Mb0 (Ic Mb1 (Ic Mb2 (Ic Mb3 (Ic Mb4 In0))))), ?_⟩
    refine Jq 8 Z (oK rfl rfl rfl)<|Jm 9 Z<|Aw.known (d := 98) rfl (ac)<|Jz 10 Z<|Jz 11 Z<|Jz 12 Z<|Jz 13 Z<|Jz 14 Z<|Jz 15 Z<|Jz 16 Z<|Jz 17 Z<|Jz 18 Z<|Jf 19 Z<|Ja 20 Z<|Ad<|fy<|?_
    obtain ap := gm H
    subst I
    refine ⟨(.inl rfl), [(.bool false)], ⟨(.bool false), _, rfl, rfl, rfl⟩, ?_⟩
    exact Re0<|Re0<|Re0<|Re0<|Re0<|Sd<|⟨rfl, rfl⟩
end Go.Hx
