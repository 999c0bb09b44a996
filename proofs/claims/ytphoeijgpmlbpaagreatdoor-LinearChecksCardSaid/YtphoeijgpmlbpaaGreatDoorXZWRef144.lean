
import Derived.Test.YtphoeijgpmlbpaaGreatDoorXZM
import Derived.Test.YtphoeijgpmlbpaaGreatDoorXZWRef153
import Derived.Test.YtphoeijgpmlbpaaGreatDoorXZWLaw17
import Derived.Test.YtphoeijgpmlbpaaGreatDoorXZWHistory
set_option linter.unusedVariables false
set_option linter.unusedSimpArgs false
namespace Go.Hx
open Go Go.Proofs
set_option maxRecDepth 10000
set_option maxHeartbeats 1000000
theorem DF (p0 : ad0) (h : SV) (p1 : af0) (j : SV) (c : Bool) (H : zh p0 p1 = some c) (K : Kp) (G : List Ent) (ai : Slr fK K (sv h) p0) (aj : Slr fR K (sv j) p1) :
  Fc Tryz.prog 82 #[(sv h), (sv j)] K (G) (fun v l a => v = (.bool c) ∧ G = a) := by
 refine fN Tryz.func82 rfl Tryz.ntmps82 Tryz.results82 rfl ?_
 unfold zh at H
 refine fc<|fa<|Ea Z<|fb<|?_
 refine fA (fun e l a => [] = e ∧ G = a ∧ zj = some c) ?_ ?_
 ·refine fc<|fa<|Ea Z<|fb<|fC<|?_
  refine ga (fun M e l a => ∃ (b : Int), [(0, (sv h)), (1, (sv j)), (5, (Vi b))] = e ∧ G = a ∧ lp1 (zm p0 p1) M b = some c) BIG ?_ ?_
  ·exact Sd ⟨_, by exact R3, 0, rfl, rfl, H⟩
  rintro M _ aK _ C ⟨b, rfl, rfl, H⟩
  obtain ⟨aZ, x, rfl, ah, H⟩ := oe H
  unfold zm at H
  refine fc<|fc<|fa<|Em Z<|Em Z<|?_
  have p := aj.mono C
  refine Eq Z (gp (T := fR) p rfl rfl)<|Ec Z<|fb<|?_
  refine fp rfl ?_ ?_
  ·intro n
   obtain ⟨n, H⟩ := It n H
   refine fy ?_
   refine fA (fun e l a => [(0, (sv h)), (1, (sv j)), (5, (Vi b))] = e ∧ G = a ∧ zk p0 p1 b x = some c) ?_ ?_
   ·refine fC<|fc<|fc<|fa<|Em Z<|Em Z<|Em Z<|?_
    obtain ⟨X, J, H⟩ := bnd H
    obtain ⟨a6, aq, af⟩ := Slr.at p J
    obtain ⟨R, S, rfl, ay, az⟩ := aq
    refine Eq Z (Qi (T := fR) p J Z)<|EF 1 Z<|EL 7 (fj X.op R S) Z (Rdc.k af rfl)<|?_
    obtain ⟨aE, aC, H⟩ := bnd H
    have E := ai.mono C
    refine ff rfl (Ek Tryz.call84 Z (yf p0 h X.op R S aE aC _ _ E ay az) ?_)
    rintro _ aL _ w ⟨bf, rfl, rfl, aA⟩
    refine Eq Z (gp (T := fM) aA rfl rfl)<|Ec Z<|fb<|?_
    refine fp rfl ?_ ?_
    ·intro o
     obtain ⟨o, H⟩ := It o H
     refine fc<|fa<|Ea Z<|fb<|fz<|?_
     obtain B := gu H
     subst c
     refine ⟨(by first|exact .inl rfl|exact .inr rfl), [(.bool true)], ⟨(.bool true), _, rfl, rfl, rfl⟩, ?_⟩
     exact Re0<|Sd<|⟨rfl, rfl⟩
    ·intro o
     obtain ⟨o, H⟩ := If o H
     refine fy<|fc<|fa<|Ea Z<|fb<|fC<|?_
     refine ga (fun L e l a => ∃ (i : Int), [(0, (sv h)), (1, (sv j)), (5, (Vi b)), (6, (Vi i))] = e ∧ G = a ∧ lp1 (zl p0 p1 b x) L i = some c) BIG ?_ ?_
     ·exact Re0<|Sd<|⟨_, by exact R4, 0, rfl, rfl, H⟩
     rintro L _ aF _ u ⟨i, rfl, rfl, H⟩
     obtain ⟨aY, aD, rfl, ag, H⟩ := oe H
     unfold zl at H
     refine fc<|fc<|fa<|Em Z<|Em Z<|Ec Z<|fb<|?_
     refine fp rfl ?_ ?_
     ·intro m
      obtain ⟨m, H⟩ := It m H
      refine fy<|fc<|fC<|?_
      refine fA (fun e l a => ∃ (y : Bool), [(0, (sv h)), (1, (sv j)), (5, (Vi b)), (6, (Vi i)), (51, (.bool y))] = e ∧ G = a ∧ vo p0 p1 b i x aD y = some c) ?_ ?_
      ·obtain ⟨z, r, H⟩ := bnd H
       obtain ⟨A, s, H⟩ := bnd H
       rcases ic (!(dcd (z.thread = A.thread))) with D | D <;> revert D
       ·intro f
        have f := lO (iC (f))
        have H := f5 f H
        obtain ⟨U, F, H⟩ := bnd H
        obtain ⟨V, I, H⟩ := bnd H
        obtain ⟨W, aB, H⟩ := bnd H
        refine fx _ rfl In0<|Jm 0 Z<|Jm 1 Z<|?_
        have g := (p.mono w).mono u
        obtain ⟨a0, ak, Y⟩ := Slr.at g r
        obtain ⟨a7, a8, rfl, aQ, aR⟩ := ak
        refine Jq 2 Z (Qi (T := fR) g r Z)<|JF 3 0 Z<|Jl 4 (Vi z.thread) Z (Rdc.k Y rfl)<|Jm 5 Z<|Jm 6 Z<|?_
        obtain ⟨a1, al, aa⟩ := Slr.at g s
        obtain ⟨a9, ba, rfl, aS, aT⟩ := al
        refine Jq 7 Z (Qi (T := fR) g s Z)<|JF 8 0 Z<|Jl 9 (Vi A.thread) Z (Rdc.k aa rfl)<|Jc 10 Z<|Jm 11 Z<|Aw.known (d := 38) rfl (lT (iV f))<|Bm 12 Z<|Bm 13 Z<|Bm 14 Z<|?_
        obtain ⟨a2, am, ab⟩ := Slr.at g F
        obtain ⟨N, O, rfl, ar, au⟩ := am
        refine Bq 15 Z (Qi (T := fR) g F Z)<|BF 16 1 Z<|BL 17 7 (fj U.op N O) Z (Rdc.k ab rfl)<|Bm 18 Z<|Bm 19 Z<|?_
        obtain ⟨a3, an, ac⟩ := Slr.at g I
        obtain ⟨P, Q, rfl, av, aw⟩ := an
        refine Bq 20 Z (Qi (T := fR) g I Z)<|BF 21 1 Z<|BL 22 7 (fj V.op P Q) Z (Rdc.k ac rfl)<|?_
        refine gG 23 (by kernel_rfl) (kE rfl rfl rfl rfl rfl ?_)
        have ax := (E.mono w).mono u
        refine Ek Tryz.call108 Z (DD p0 h U.op N O V.op P Q W aB _ _ ax ar au av aw) ?_
        rintro _ aG _ aM ⟨rfl, rfl⟩
        refine ⟨In0, ?_⟩
        exact Jt 24 Z<|Ad<|Sd<|⟨_, by exact R5, W, rfl, rfl, H⟩
       ·intro f
        have f := lP (iz (f))
        have H := ift f H
        refine fx _ rfl In0<|Jm 0 Z<|Jm 1 Z<|?_
        have q := (p.mono w).mono u
        obtain ⟨a4, ao, ad⟩ := Slr.at q r
        obtain ⟨bb, bc, rfl, aU, aV⟩ := ao
        refine Jq 2 Z (Qi (T := fR) q r Z)<|JF 3 0 Z<|Jl 4 (Vi z.thread) Z (Rdc.k ad rfl)<|Jm 5 Z<|Jm 6 Z<|?_
        obtain ⟨a5, ap, ae⟩ := Slr.at q s
        obtain ⟨bd, be, rfl, aW, aX⟩ := ap
        exact Jq 7 Z (Qi (T := fR) q s Z)<|JF 8 0 Z<|Jl 9 (Vi A.thread) Z (Rdc.k ae rfl)<|Jc 10 Z<|Jm 11 Z<|Aw.known (d := 38) rfl (lS (iv f))<|Jz 12 Z<|Jz 13 Z<|Jz 14 Z<|Jz 15 Z<|Jz 16 Z<|Jz 17 Z<|Jz 18 Z<|Jz 19 Z<|Jz 20 Z<|Jz 21 Z<|Jz 22 Z<|Jz 23 Z<|Jf 24 Z<|Ad<|Sd<|⟨_, by exact R5, false, rfl, rfl, H⟩
      rintro _ aH _ aN ⟨y, rfl, rfl, H⟩
      unfold vo at H
      refine fp rfl ?_ ?_
      ·intro t
       have H := ift t H
       refine fc<|fa<|Ea Z<|fb<|fz<|?_
       obtain B := gu H
       subst c
       refine ⟨(by first|exact .inl rfl|exact .inr rfl), [(.bool true)], ⟨(.bool true), _, rfl, rfl, rfl⟩, ?_⟩
       exact Sd ⟨rfl, rfl⟩
      ·intro t
       have H := f5 (btf t) H
       exact fy<|fa<|Em Z<|Er (wI (i + 1)) Z<|Ea Z<|fb<|Sd<|⟨_, by exact R4, _, Nat.lt_succ_self _, (wI (i + 1)), rfl, rfl, (ag ▸ H)⟩
     ·intro m
      obtain ⟨m, H⟩ := If m H
      exact ge<|Sd<|⟨_, by exact R3, rfl, rfl, H⟩
   rintro _ aI _ aO ⟨rfl, rfl, H⟩
   unfold zk at H
   exact fa<|Em Z<|Er (wI (b + 1)) Z<|Ea Z<|fb<|Sd<|⟨_, by exact R3, _, Nat.lt_succ_self _, (wI (b + 1)), rfl, rfl, (ah ▸ H)⟩
  ·intro n
   obtain ⟨n, H⟩ := If n H
   exact ge<|Sd<|⟨[], trivial, rfl, rfl, H⟩
 rintro _ aJ _ aP ⟨rfl, rfl, H⟩
 unfold zj at H
 refine fc<|fa<|Ea Z<|fb<|fz<|?_
 obtain B := gu H
 subst c
 refine ⟨(by first|exact .inl rfl|exact .inr rfl), [(.bool false)], ⟨(.bool false), _, rfl, rfl, rfl⟩, ?_⟩
 exact Sd ⟨rfl, rfl⟩
end Go.Hx
namespace Go.Hx
open Go Go.Proofs
set_option maxRecDepth 10000
set_option maxHeartbeats 1000000
theorem DG (d : Nat) (B : ae4) (s : SV) (A : ad6) (r : SV) (z : ae5) (g : SV) (y : af4) (p : SV) (x : ae1) (f : SV) (C : ad5) (t : SV) (c : Bool) (a : Bool) (D : ad8) (b : SV) (o : List (List Value)) (p1 : ae1) (M : SV) (p2 : ad0) (E : SV) (h : Bool) (H : sD B A z y x C c a D p1 p2 = some h) (K : Kp) (G : List Ent) (aC : Slr (Ty.sl hQ) K (sv s) B) (aB : Slr f7 K (sv r) A) (aA : Slr io K (sv g) z) (az : Slr (Ty.sl Ty.bool) K (sv p) y) (ab : Slr Ty.bool K (sv f) x) (aD : Slr fM K (sv t) C) (aE : RowR Ty.str K o D) (U : Slr Ty.bool K (sv M) p1) (aF : Slr fK K (sv E) p2) :
  Fc Tryz.prog 46 #[(Vp d), (sv M), (sv E)] K ((.blk d 76 [(sv s), (sv r), (sv g), (sv p), (sv f), (sv t), (.bool c), (.bool a), (sv b)]) :: (.row (sv b) 9 1 o.flatten) :: G) (fun v i e => v = (.bool h) ∧ (.blk d 76 [(sv s), (sv r), (sv g), (sv p), (sv f), (sv t), (.bool c), (.bool a), (sv b)]) :: (.row (sv b) 9 1 o.flatten) :: G = e) := by
 refine fN Tryz.func46 rfl Tryz.ntmps46 Tryz.results46 rfl ?_
 unfold sD at H
 refine fc<|fa<|Ea Z<|fb<|?_
 refine fA (fun j i e => [(0, (Vp d)), (1, (sv M)), (2, (sv E))] = j ∧ (.blk d 76 [(sv s), (sv r), (sv g), (sv p), (sv f), (sv t), (.bool c), (.bool a), (sv b)]) :: (.row (sv b) 9 1 o.flatten) :: G = e ∧ wF p1 p2 B A z y x C c a D = some h) ?_ ?_
 ·refine fc<|fa<|Ea Z<|fb<|fC<|?_
  refine ga (fun n248 j i e => ∃ (J : Int), [(0, (Vp d)), (1, (sv M)), (2, (sv E)), (7, (Vi J))] = j ∧ K = i ∧ (.blk d 76 [(sv s), (sv r), (sv g), (sv p), (sv f), (sv t), (.bool c), (.bool a), (sv b)]) :: (.row (sv b) 9 1 o.flatten) :: G = e ∧ lp1 (wG p1 p2 B A z y x C c a D) n248 J = some h) BIG ?_ ?_
  ·exact Pu1<|Pu1<|Sd<|⟨_, by exact R4, 0, rfl, rfl, rfl, H⟩
  rintro n248 _ _ _ - ⟨J, rfl, rfl, rfl, H⟩
  obtain ⟨a6, aU, rfl, ay, H⟩ := oe H
  unfold wG at H
  refine fc<|fc<|fa<|Em Z<|Em Z<|Eq Z (gp (T := Ty.bool) U rfl rfl)<|Ec Z<|fb<|?_
  refine fp rfl ?_ ?_
  ·intro P
   obtain ⟨P, H⟩ := It P H
   refine fy<|fc<|fC<|?_
   refine fA (fun j i e => ∃ (af : Bool), [(0, (Vp d)), (1, (sv M)), (2, (sv E)), (7, (Vi J)), (29, (.bool af))] = j ∧ K = i ∧ (.blk d 76 [(sv s), (sv r), (sv g), (sv p), (sv f), (sv t), (.bool c), (.bool a), (sv b)]) :: (.row (sv b) 9 1 o.flatten) :: G = e ∧ tn p1 p2 J B A z y x C c a D aU af = some h) ?_ ?_
   ·refine fa<|Em Z<|Eq Z (fD rfl)<|EF 4 Z<|El (sv f) Z (Rb0 Z)<|Em Z<|?_
    obtain ⟨aW, ak, H⟩ := bnd H
    obtain ⟨_, rfl, au⟩ := Slr.at ab ak
    refine Eq Z (Qi (T := Ty.bool) ab ak Z)<|El (.bool aW) Z (Rdc.k au rfl)<|Em Z<|?_
    refine Ee Z ?_ ?_
    ·intro Y
     have H := ift Y H
     refine Vm Z<|Vm Z<|?_
     obtain ⟨ap, al, H⟩ := bnd H
     obtain ⟨_, rfl, av⟩ := Slr.at U al
     exact Vq Z (Qi (T := Ty.bool) U al Z)<|Vl (.bool ap) Z (Rdc.k av rfl)<|Vq Z (gg rfl)<|Et Z<|fb<|Pu1<|Pu1<|Sd<|⟨_, by exact R5, (!(ap)), rfl, rfl, rfl, H⟩
    ·intro Y
     have H := f5 (btf Y) H
     exact Ez Z<|Ez Z<|Ez Z<|Ez Z<|Ez Z<|Ef Z<|fb<|Pu1<|Pu1<|Sd<|⟨_, by exact R5, false, rfl, rfl, rfl, H⟩
   rintro _ _ _ - ⟨af, rfl, rfl, rfl, H⟩
   unfold tn at H
   refine fp rfl ?_ ?_
   ·intro aa
    have H := ift aa H
    refine fc<|fa<|Ea Z<|fb<|fz<|?_
    obtain ah := gu H
    subst h
    refine ⟨(by first|exact .inl rfl|exact .inr rfl), [(.bool false)], ⟨(.bool false), _, rfl, rfl, rfl⟩, ?_⟩
    exact Pu1<|Pu1<|Sd<|⟨rfl, rfl⟩
   ·intro aa
    have H := f5 (btf aa) H
    exact fy<|fa<|Em Z<|Er (wI (J + 1)) Z<|Ea Z<|fb<|Pu1<|Pu1<|Sd<|⟨_, by exact R4, _, Nat.lt_succ_self _, (wI (J + 1)), rfl, rfl, rfl, (ay ▸ H)⟩
  ·intro P
   obtain ⟨P, H⟩ := If P H
   exact ge<|Pu1<|Pu1<|Sd<|⟨_, by exact R3, rfl, rfl, H⟩
 rintro _ aZ _ n ⟨rfl, rfl, H⟩
 unfold wF at H
 refine fc<|fc<|fa<|Em Z<|Eq Z (fD rfl)<|EF 7 Z<|El (.bool a) Z (Rb0 Z)<|Eq Z (gg rfl)<|fb<|?_
 refine fp rfl ?_ ?_
 ·intro F
  have F := iC F
  have H := f5 (btf F) H
  refine fc<|fa<|Ea Z<|fb<|fz<|?_
  obtain ah := gu H
  subst h
  refine ⟨(by first|exact .inl rfl|exact .inr rfl), [(.bool true)], ⟨(.bool true), _, rfl, rfl, rfl⟩, ?_⟩
  exact Pu1<|Pu1<|Sd<|⟨rfl, rfl⟩
 ·intro F
  have F := iz F
  have H := ift F H
  refine fy<|fc<|fa<|Ea Z<|fb<|?_
  refine fA (fun j i e => ∃ (S : SV) (V : af0), [(2, (sv E)), (8, (sv S))] = j ∧ (.blk d 76 [(sv s), (sv r), (sv g), (sv p), (sv f), (sv t), (.bool c), (.bool a), (sv b)]) :: (.tok 96 8 [(sv S)]) :: (.row (sv b) 9 1 o.flatten) :: G = e ∧ zz p2 B A z y x C c a D V = some h ∧ Slr fR i (sv S) V) ?_ ?_
  ·refine fc<|fa<|Ea Z<|fb<|fC<|?_
   refine ga (fun ao j i e => ∃ (L : SV) (R : af0) (w : Int), [(0, (Vp d)), (1, (sv M)), (2, (sv E)), (8, (sv L)), (9, (Vi w))] = j ∧ (.blk d 76 [(sv s), (sv r), (sv g), (sv p), (sv f), (sv t), (.bool c), (.bool a), (sv b)]) :: (.tok 96 8 [(sv L)]) :: (.row (sv b) 9 1 o.flatten) :: G = e ∧ lp2 (zA p1 p2 B A z y x C c a D) ao R w = some h ∧ Slr fR i (sv L) R) BIG ?_ ?_
   ·exact Shift.nilTok1 96 8<|Pu2<|Pu1<|Pu2<|Sd<|⟨_, by exact R5, fB, ([] : af0), 0, rfl, rfl, H, (Slr.nil fR _)⟩
   rintro ao _ aq _ u ⟨L, R, w, rfl, rfl, H, ac⟩
   obtain ⟨a7, a5, rfl, aj, H⟩ := jR H
   unfold zA at H
   refine fc<|fc<|fa<|Em Z<|Em Z<|?_
   have aH := (U.mono n).mono u
   refine Eq Z (gp (T := Ty.bool) aH rfl rfl)<|Ec Z<|fb<|?_
   refine fp rfl ?_ ?_
   ·intro Q
    obtain ⟨Q, H⟩ := It Q H
    refine fy<|fc<|fC<|fc<|fa<|Em Z<|Eq Z (fD rfl)<|EF 4 Z<|El (sv f) Z (Rb0 Z)<|Em Z<|?_
    obtain ⟨aX, am, H⟩ := bnd H
    have ad := (ab.mono n).mono u
    obtain ⟨_, rfl, aw⟩ := Slr.at ad am
    refine Eq Z (Qi (T := Ty.bool) ad am Z)<|El (.bool aX) Z (Rdc.k aw rfl)<|Eq Z (gg rfl)<|fb<|?_
    refine fp rfl ?_ ?_
    ·intro I
     have I := iC I
     have H := f5 (btf I) H
     obtain ⟨N, an, H⟩ := bnd H
     obtain ⟨O, aR, H⟩ := bnd H
     obtain ⟨aY, aS, H⟩ := bnd H
     refine fx _ rfl (Ic Mb0 (Ic Mb2 In0))<|Jm 0 Z<|Jm 1 Z<|Jq 2 Z (fD rfl)<|JF 3 2 Z<|Jl 4 (sv g) Z (Rb0 Z)<|Jm 5 Z<|?_
     have ae := (aA.mono n).mono u
     obtain ⟨_, rfl, ax⟩ := Slr.at ae an
     refine Jq 6 Z (Qi (T := io) ae an Z)<|Jq 7 Z (iH (q := 0) (m := 0) rfl rfl rfl rfl rfl (by decide) rfl (by decide))<|Jl 8 (Vi N.x0) Z (Rdc.k ax rfl)<|Jm 9 Z<|Jm 10 Z<|?_
     refine Ao 11 Z ?_
     refine OpW.shift (Pu2 (Sd ?_))
     refine OpW.shift (Pu1 (Sd ?_))
     have aI := (aC.mono n).mono u
     have aJ := (aB.mono n).mono u
     have aK := (az.mono n).mono u
     have aL := (aD.mono n).mono u
     have aM := (aE.mono n).mono u
     refine Ek Tryz.call52 Z (nO d B s A r z g y p x f C t c a D b o w O aR _ _ aI aJ ae aK ad aL aM) ?_
     rintro _ _ _ - ⟨W, X, rfl, rfl, rfl, aN, aO⟩
     refine ⟨(Ic Mb0 (Ic Mb1 In0)), ?_⟩
     refine Jq 12 Z (fH (cs := (gi (gq.mk N.x0 O) W X)) rfl rfl rfl rfl rfl rfl) ?_
     refine Ao 13 Z ?_
     have ai : RowR fR aq [(gi (gq.mk N.x0 O) W X)] [(gq.mk N.x0 O)] := RowR.cons ⟨W, X, rfl, aN, aO⟩ (RowR.nil)
     refine gh (T := fR) (rows := [(gi (gq.mk N.x0 O) W X)]) (l := [(gq.mk N.x0 O)]) rfl rfl rfl ai rfl rfl rfl rfl rfl rfl rfl rfl (fun a8 => ⟨(Ic Mb1 (Ic Mb2 In0)), ?_⟩)
     refine Ao 14 Z ?_
     refine f6 (T := fR) (bytes := 96) (q := 0) rfl rfl rfl ac Mb3 rfl (SrcT.row Mb0 ai rfl) aS rfl rfl rfl rfl rfl rfl rfl rfl (fun aV a0 a3 aP => ⟨_, (.there (.there (.there .here))), ⟨(Ic Mb1 (Ic Mb2 In0)), ?_⟩⟩)
     refine Aw.shift (Re0 (Sd ⟨(Ic Mb0 (Ic Mb1 In0)), ?_⟩))
     exact Ja 15 Z<|Ad<|fa<|Em Z<|Er (wI (w + 1)) Z<|Ea Z<|fb<|Pu1<|Pu2<|Pu2<|Sd<|⟨_, by exact R5, _, Nat.lt_succ_self _, aV, aY, (wI (w + 1)), rfl, rfl, (aj ▸ H), aP⟩
    ·intro I
     have I := iz I
     have H := ift I H
     exact fy<|fa<|Em Z<|Er (wI (w + 1)) Z<|Ea Z<|fb<|Pu2<|Pu2<|Pu2<|Sd<|⟨_, by exact R5, _, Nat.lt_succ_self _, L, R, (wI (w + 1)), rfl, rfl, (aj ▸ H), ac⟩
   ·intro Q
    obtain ⟨Q, H⟩ := If Q H
    exact ge<|Pu2<|Pu2<|Pu2<|Sd<|⟨_, by exact R2, L, R, rfl, rfl, H, ac⟩
  rintro _ a1 _ ar ⟨S, V, rfl, rfl, H, aG⟩
  unfold zz at H
  refine fc<|fa<|Em Z<|Em Z<|?_
  obtain ⟨ag, aT, H⟩ := bnd H
  have aQ := (aF.mono n).mono ar
  refine ff rfl (Ek Tryz.call82 Z (DF p2 E V S ag aT _ _ aQ aG) ?_)
  rintro _ a2 _ a4 ⟨rfl, rfl⟩
  refine Eq Z (gg rfl)<|Ea Z<|fb<|fz<|?_
  obtain ah := gu H
  subst h
  refine ⟨(by first|exact .inl rfl|exact .inr rfl), [(.bool (!(ag)))], ⟨(.bool (!(ag))), _, rfl, rfl, rfl⟩, ?_⟩
  exact Pu2<|Pu1<|Re2<|Sd<|⟨rfl, rfl⟩
theorem yh (p0 : ad1) (p : SV) (o : List (List Value)) (p1 : Int) (g : ad1) (H : pi p0 p1 = some g) (K : Kp) (G : List Ent) (y : RowR Ty.u8 K o p0) :
  Fc Tryz.prog 83 #[(sv p), (.int .u64 p1)] K ((.row (sv p) 5 1 o.flatten) :: G) (fun v b e => ∃ (t : SV) (s : List (List Value)), v = (sv t) ∧ (.row (sv t) 5 1 s.flatten) :: G = e ∧ RowR Ty.u8 b s g) := by
 refine fN Tryz.func83 rfl Tryz.ntmps83 Tryz.results83 rfl ?_
 unfold pi at H
 refine fc<|fa<|Ea Z<|fb<|?_
 refine fA (fun m b e => ∃ (d : SV) (n : ad1) (j : List (List Value)), [(0, (sv d))] = m ∧ (.row (sv d) 5 1 j.flatten) :: G = e ∧ wH n = some g ∧ RowR Ty.u8 b j n) ?_ ?_
 ·refine fc<|fa<|Ea Z<|fb<|fC<|?_
  refine ga (fun n107 m b e => ∃ (k : SV) (h : ad1) (i : List (List Value)) (a : Int), [(0, (sv k)), (1, (.int .u64 p1)), (5, (Vi a))] = m ∧ K = b ∧ (.row (sv k) 5 1 i.flatten) :: G = e ∧ lp2 (wJ p1) n107 h a = some g ∧ RowR Ty.u8 b i h) BIG ?_ ?_
  ·exact Sd ⟨_, by exact R3, p, p0, o, 0, rfl, rfl, rfl, H, y⟩
  rintro n107 _ _ _ - ⟨k, h, i, a, rfl, rfl, rfl, H, q⟩
  obtain ⟨L, J, rfl, x, H⟩ := jR H
  unfold wJ at H
  refine fc<|fc<|fa<|Em Z<|Ec Z<|fb<|?_
  refine fp rfl ?_ ?_
  ·intro f
   obtain ⟨f, H⟩ := It f H
   refine fy<|fc<|fC<|fa<|Em Z<|Em Z<|Em Z<|Er (wI (8 * a)) Z<|Eq Z (kR (c := wU (wI (8 * a))) rfl rfl rfl rfl)<|?_
   obtain ⟨N, z, H⟩ := bnd H
   refine Eq Z (F8 (B8 z).1 rfl rfl)<|Eq Z (kR (c := wB (uA .u64 p1 (wU (wI (8 * a))))) rfl rfl rfl rfl)<|?_
   have r : RowR Ty.u8 K [[(.int .u8 (wB (uA .u64 p1 (wU (wI (8 * a))))))]] [wB (uA .u64 p1 (wU (wI (8 * a))))] := RowR.cons rfl (RowR.nil)
   refine ff rfl (gh (T := Ty.u8) (rows := [[(.int .u8 (wB (uA .u64 p1 (wU (wI (8 * a))))))]]) (l := [wB (uA .u64 p1 (wU (wI (8 * a))))]) rfl rfl rfl r rfl rfl rfl rfl rfl rfl rfl rfl (fun M => ?_))
   obtain ⟨D, A, H⟩ := bnd H
   refine ff rfl (gZ (T := Ty.u8) (bytes := 1) rfl rfl rfl Mb1 q (SrcT.row Mb0 r rfl) A rfl rfl rfl rfl rfl rfl rfl rfl (fun C B u => ⟨_, (.there .here), ?_⟩))
   refine Ow.shift (Re0 (Sd ?_))
   exact Ea Z<|fb<|fa<|Em Z<|Er (wI (a + 1)) Z<|Ea Z<|fb<|Sd<|⟨_, by exact R3, _, Nat.lt_succ_self _, C, D, B, (wI (a + 1)), rfl, rfl, rfl, (x ▸ H), u⟩
  ·intro f
   obtain ⟨f, H⟩ := If f H
   exact ge<|Sd<|⟨_, by exact R1, k, h, i, rfl, rfl, H, q⟩
 rintro _ E _ I ⟨d, n, j, rfl, rfl, H, w⟩
 unfold wH at H
 refine fc<|fa<|Em Z<|Ea Z<|fb<|fz<|?_
 obtain F := gu H
 subst g
 refine ⟨(by first|exact .inl rfl|exact .inr rfl), [(sv d)], ⟨(sv d), _, rfl, rfl, rfl⟩, ?_⟩
 exact Sd ⟨d, j, rfl, rfl, w⟩
theorem DI (p0 : ae1) (Y : SV) (p1 : ad0) (g : SV) (f : ByteArray) (H : sF p0 p1 = some f) (K : Kp) (G : List Ent) (Q : Slr Ty.bool K (sv Y) p0) (aY : Slr fK K (sv g) p1) :
  Fc Tryz.prog 48 #[(sv Y), (sv g)] K (G) (fun v a b => v = (.string f) ∧ G = b) := by
 refine fN Tryz.func48 rfl Tryz.ntmps48 Tryz.results48 rfl ?_
 unfold sF at H
 refine fc<|fa<|Ea Z<|fb<|fc<|fa<|Ea Z<|fb<|?_
 refine fA (fun d a b => ∃ (L : SV) (A : ad1) (E : List (List Value)), [(1, (sv g)), (5, (sv L))] = d ∧ (.row (sv L) 5 1 E.flatten) :: G = b ∧ sE p1 A = some f ∧ RowR Ty.u8 a E A) ?_ ?_
 ·refine fc<|fa<|Ea Z<|fb<|fC<|?_
  refine ga (fun aw d a b => ∃ (M : SV) (B : ad1) (F : List (List Value)) (h : Int), [(0, (sv Y)), (1, (sv g)), (5, (sv M)), (6, (Vi h))] = d ∧ K = a ∧ (.row (sv M) 5 1 F.flatten) :: G = b ∧ lp2 (wP p0 p1) aw B h = some f ∧ RowR Ty.u8 a F B) BIG ?_ ?_
  ·have aM : RowR Ty.u8 K [] [] := RowR.nil
   exact Shift.nilRow 5 1<|Sd<|⟨_, by exact R4, fB, ([] : ad1), ([] : List (List Value)), 0, rfl, rfl, rfl, H, aM⟩
  rintro aw _ _ _ - ⟨M, B, F, h, rfl, rfl, rfl, H, P⟩
  obtain ⟨bP, bM, rfl, ai, H⟩ := jR H
  unfold wP at H
  refine fc<|fc<|fa<|Em Z<|Em Z<|Eq Z (gp (T := Ty.bool) Q rfl rfl)<|Ec Z<|fb<|?_
  refine fp rfl ?_ ?_
  ·intro m
   obtain ⟨m, H⟩ := It m H
   refine fy<|fc<|fC<|fc<|fa<|Em Z<|Em Z<|?_
   obtain ⟨bv, ar, H⟩ := bnd H
   obtain ⟨_, rfl, aV⟩ := Slr.at Q ar
   refine Eq Z (Qi (T := Ty.bool) Q ar Z)<|El (.bool bv) Z (Rdc.k aV rfl)<|fb<|?_
   refine fp rfl ?_ ?_
   ·intro O
    have H := ift O H
    refine fa<|Em Z<|?_
    have ag : RowR Ty.u8 K [[(.int .u8 1)]] [1] := RowR.cons rfl (RowR.nil)
    refine ff rfl (gh (T := Ty.u8) (rows := [[(.int .u8 1)]]) (l := [1]) rfl rfl rfl ag rfl rfl rfl rfl rfl rfl rfl rfl (fun bX => ?_))
    obtain ⟨bw, bb, H⟩ := bnd H
    refine ff rfl (gZ (T := Ty.u8) (bytes := 1) rfl rfl rfl Mb1 P (SrcT.row Mb0 ag rfl) bb rfl rfl rfl rfl rfl rfl rfl rfl (fun bq bh aN => ⟨_, (.there .here), ?_⟩))
    refine Ow.shift (Re0 (Sd ?_))
    exact Ea Z<|fb<|fa<|Em Z<|Er (wI (h + 1)) Z<|Ea Z<|fb<|Sd<|⟨_, by exact R4, _, Nat.lt_succ_self _, bq, bw, bh, (wI (h + 1)), rfl, rfl, rfl, (ai ▸ H), aN⟩
   ·intro O
    have H := f5 (btf O) H
    refine fa<|Em Z<|?_
    have ah : RowR Ty.u8 K [[(.int .u8 0)]] [0] := RowR.cons rfl (RowR.nil)
    refine ff rfl (gh (T := Ty.u8) (rows := [[(.int .u8 0)]]) (l := [0]) rfl rfl rfl ah rfl rfl rfl rfl rfl rfl rfl rfl (fun bY => ?_))
    obtain ⟨bx, bc, H⟩ := bnd H
    refine ff rfl (gZ (T := Ty.u8) (bytes := 1) rfl rfl rfl Mb1 P (SrcT.row Mb0 ah rfl) bc rfl rfl rfl rfl rfl rfl rfl rfl (fun br bi aO => ⟨_, (.there .here), ?_⟩))
    refine Ow.shift (Re0 (Sd ?_))
    exact Ea Z<|fb<|fa<|Em Z<|Er (wI (h + 1)) Z<|Ea Z<|fb<|Sd<|⟨_, by exact R4, _, Nat.lt_succ_self _, br, bx, bi, (wI (h + 1)), rfl, rfl, rfl, (ai ▸ H), aO⟩
  ·intro m
   obtain ⟨m, H⟩ := If m H
   exact ge<|Sd<|⟨_, by exact R2, M, B, F, rfl, rfl, H, P⟩
 rintro _ bE _ aF ⟨L, A, E, rfl, rfl, H, aL⟩
 unfold sE at H
 refine fA (fun d a b => ∃ (X : SV) (S : ad1) (V : List (List Value)), [(5, (sv X))] = d ∧ (.row (sv X) 5 1 V.flatten) :: G = b ∧ wK S = some f ∧ RowR Ty.u8 a V S) ?_ ?_
 ·refine fc<|fa<|Ea Z<|fb<|fC<|?_
  refine ga (fun au d a b => ∃ (t : SV) (p : ad1) (r : List (List Value)) (e : Int), [(1, (sv g)), (5, (sv t)), (7, (Vi e))] = d ∧ (.row (sv t) 5 1 r.flatten) :: G = b ∧ lp2 (wO p1) au p e = some f ∧ RowR Ty.u8 a r p) BIG ?_ ?_
  ·exact Sd ⟨_, by exact R3, L, A, E, 0, rfl, rfl, H, aL⟩
  rintro au _ bz _ aD ⟨t, p, r, e, rfl, rfl, H, ac⟩
  obtain ⟨bN, x, rfl, aW, H⟩ := jR H
  unfold wO at H
  refine fc<|fc<|fa<|Em Z<|Em Z<|?_
  have n := (aY.mono aF).mono aD
  refine Eq Z (gp (T := fK) n rfl rfl)<|Ec Z<|fb<|?_
  refine fp rfl ?_ ?_
  ·intro i
   obtain ⟨i, H⟩ := It i H
   refine fy ?_
   refine fA (fun d a b => ∃ (I : SV) (y : ad1) (C : List (List Value)), [(1, (sv g)), (5, (sv I)), (7, (Vi e))] = d ∧ (.row (sv I) 5 1 C.flatten) :: G = b ∧ wL p1 e x y = some f ∧ RowR Ty.u8 a C y) ?_ ?_
   ·refine fC<|fc<|fa<|Em Z<|Em Z<|Em Z<|?_
    obtain ⟨ax, am, H⟩ := bnd H
    obtain ⟨bQ, aZ, aQ⟩ := Slr.at n am
    obtain ⟨bj, rfl, a3⟩ := aZ
    refine Eq Z (Qi (T := fK) n am Z)<|EF 1 Z<|El (sv bj) Z (Rdc.k aQ rfl)<|Eq Z (gp (T := Ty.u64) a3 rfl rfl)<|Eq Z (kR (c := wU (ax.buffer.length : Int)) rfl rfl rfl rfl)<|?_
    obtain ⟨ay, a6, H⟩ := bnd H
    refine ff rfl (Ek Tryz.call83 Z (yh p t r (wU (ax.buffer.length : Int)) ay a6 _ _ ac) ?_)
    rintro _ aa _ ab ⟨bk, bd, rfl, rfl, aj⟩
    refine Ea Z<|fb<|?_
    refine fA (fun d a b => ∃ (J : SV) (z : ad1) (D : List (List Value)), [(1, (sv g)), (5, (sv J)), (7, (Vi e))] = d ∧ aa = a ∧ (.row (sv J) 5 1 D.flatten) :: G = b ∧ pj p1 e x z = some f ∧ RowR Ty.u8 a D z) ?_ ?_
    ·refine fc<|fa<|Em Z<|Em Z<|?_
     obtain ⟨bs, an, H⟩ := bnd H
     have ak := n.mono ab
     obtain ⟨bR, a0, aR⟩ := Slr.at ak an
     obtain ⟨bU, rfl, bK⟩ := a0
     refine Eq Z (Qi (T := fK) ak an Z)<|EF 2 Z<|El (.bool bs.closed) Z (Rdc.k aR rfl)<|fb<|?_
     refine fp rfl ?_ ?_
     ·intro N
      have H := ift N H
      refine fa<|Em Z<|?_
      have ad : RowR Ty.u8 aa [[(.int .u8 1)]] [1] := RowR.cons rfl (RowR.nil)
      refine ff rfl (gh (T := Ty.u8) (rows := [[(.int .u8 1)]]) (l := [1]) rfl rfl rfl ad rfl rfl rfl rfl rfl rfl rfl rfl (fun bV => ?_))
      obtain ⟨bt, a7, H⟩ := bnd H
      refine ff rfl (gZ (T := Ty.u8) (bytes := 1) rfl rfl rfl Mb1 aj (SrcT.row Mb0 ad rfl) a7 rfl rfl rfl rfl rfl rfl rfl rfl (fun bl be aI => ⟨_, (.there .here), ?_⟩))
      refine Ow.shift (Re0 (Sd ?_))
      exact Ea Z<|fb<|Sd<|⟨_, by exact R3, bl, bt, be, rfl, rfl, rfl, H, aI⟩
     ·intro N
      have H := f5 (btf N) H
      exact fy<|Sd<|⟨_, by exact R3, bk, ay, bd, rfl, rfl, rfl, H, aj⟩
    rintro _ _ _ - ⟨J, z, D, rfl, rfl, rfl, H, aH⟩
    unfold pj at H
    refine fA (fun d a b => ∃ (W : SV) (R : ad1) (U : List (List Value)), [(1, (sv g)), (5, (sv W)), (7, (Vi e))] = d ∧ (.row (sv W) 5 1 U.flatten) :: G = b ∧ wM p1 e x R = some f ∧ RowR Ty.u8 a U R) ?_ ?_
    ·refine fc<|fa<|Ea Z<|fb<|fC<|?_
     refine ga (fun av d a b => ∃ (u : SV) (q : ad1) (s : List (List Value)) (o : Int), [(1, (sv g)), (5, (sv u)), (7, (Vi e)), (8, (Vi o))] = d ∧ (.row (sv u) 5 1 s.flatten) :: G = b ∧ lp2 (wN p1 e x) av q o = some f ∧ RowR Ty.u8 a s q) BIG ?_ ?_
     ·exact Sd ⟨_, by exact R4, J, z, D, 0, rfl, rfl, H, aH⟩
     rintro av _ bA _ aE ⟨u, q, s, o, rfl, rfl, H, ae⟩
     obtain ⟨bO, bL, rfl, aX, H⟩ := jR H
     unfold wN at H
     refine fc<|fc<|fa<|Em Z<|Em Z<|Em Z<|?_
     obtain ⟨bZ, ao, H⟩ := bnd H
     have w := (n.mono ab).mono aE
     obtain ⟨bS, a1, aS⟩ := Slr.at w ao
     obtain ⟨bm, rfl, a4⟩ := a1
     refine Eq Z (Qi (T := fK) w ao Z)<|EF 1 Z<|El (sv bm) Z (Rdc.k aS rfl)<|Eq Z (gp (T := Ty.u64) a4 rfl rfl)<|Ec Z<|fb<|?_
     refine fp rfl ?_ ?_
     ·intro j
      obtain ⟨j, H⟩ := It j H
      refine fy<|fc<|fC<|fa<|Em Z<|Em Z<|Em Z<|?_
      obtain ⟨b0, ap, H⟩ := bnd H
      obtain ⟨bT, a2, aT⟩ := Slr.at w ap
      obtain ⟨bn, rfl, al⟩ := a2
      refine Eq Z (Qi (T := fK) w ap Z)<|EF 1 Z<|El (sv bn) Z (Rdc.k aT rfl)<|Em Z<|?_
      obtain ⟨az, aq, H⟩ := bnd H
      obtain ⟨_, rfl, aU⟩ := Slr.at al aq
      refine Eq Z (Qi (T := Ty.u64) al aq Z)<|El (.int .u64 az) Z (Rdc.k aU rfl)<|?_
      obtain ⟨aA, a8, H⟩ := bnd H
      refine ff rfl (Ek Tryz.call83 Z (yh q u s az aA a8 _ _ ae) ?_)
      rintro _ bB _ bG ⟨bo, bf, rfl, rfl, a5⟩
      exact Ea Z<|fb<|fa<|Em Z<|Er (wI (o + 1)) Z<|Ea Z<|fb<|Sd<|⟨_, by exact R4, _, Nat.lt_succ_self _, bo, aA, bf, (wI (o + 1)), rfl, rfl, (aX ▸ H), a5⟩
     ·intro j
      obtain ⟨j, H⟩ := If j H
      exact ge<|Sd<|⟨_, by exact R3, u, q, s, rfl, rfl, H, ae⟩
    rintro _ aC _ bH ⟨W, R, U, rfl, rfl, H, aJ⟩
    unfold wM at H
    refine fa<|Em Z<|?_
    have af : RowR Ty.u8 aC [[(.int .u8 2)]] [2] := RowR.cons rfl (RowR.nil)
    refine ff rfl (gh (T := Ty.u8) (rows := [[(.int .u8 2)]]) (l := [2]) rfl rfl rfl af rfl rfl rfl rfl rfl rfl rfl rfl (fun bW => ?_))
    obtain ⟨bu, a9, H⟩ := bnd H
    refine ff rfl (gZ (T := Ty.u8) (bytes := 1) rfl rfl rfl Mb1 aJ (SrcT.row Mb0 af rfl) a9 rfl rfl rfl rfl rfl rfl rfl rfl (fun bp bg aK => ⟨_, (.there .here), ?_⟩))
    refine Ow.shift (Re0 (Sd ?_))
    exact Ea Z<|fb<|Sd<|⟨_, by exact R3, bp, bu, bg, rfl, rfl, H, aK⟩
   rintro _ bC _ bI ⟨I, y, C, rfl, rfl, H, aG⟩
   unfold wL at H
   exact fa<|Em Z<|Er (wI (e + 1)) Z<|Ea Z<|fb<|Sd<|⟨_, by exact R3, _, Nat.lt_succ_self _, I, y, C, (wI (e + 1)), rfl, rfl, (aW ▸ H), aG⟩
  ·intro i
   obtain ⟨i, H⟩ := If i H
   exact ge<|Sd<|⟨_, by exact R1, t, p, r, rfl, rfl, H, ac⟩
 rintro _ bD _ bJ ⟨X, S, V, rfl, rfl, H, aP⟩
 unfold wK at H
 refine fc<|fa<|Em Z<|?_
 obtain ⟨aB, ba, H⟩ := bnd H
 refine Eq Z (CQ Mb0 aP ba rfl rfl rfl rfl)<|Ea Z<|fb<|fz<|?_
 obtain bF := gu H
 subst f
 refine ⟨(by first|exact .inl rfl|exact .inr rfl), [(.string aB)], ⟨(.string aB), _, rfl, rfl, rfl⟩, ?_⟩
 exact Re0<|Sd<|⟨rfl, rfl⟩
theorem DJ (d : Nat) (z : ae4) (j : SV) (y : ad6) (i : SV) (x : ae5) (h : SV) (w : af4) (g : SV) (u : ae1) (f : SV) (A : ad5) (k : SV) (b : Bool) (c : Bool) (B : ad8) (a : SV) (s : List (List Value)) (p1 : ByteArray) (m : Bool) (n : ad8) (H : sG z y x w u A b c B p1 = some (m, n)) (K : Kp) (G : List Ent) (ad : Slr (Ty.sl hQ) K (sv j) z) (ac : Slr f7 K (sv i) y) (ab : Slr io K (sv h) x) (aa : Slr (Ty.sl Ty.bool) K (sv g) w) (Y : Slr Ty.bool K (sv f) u) (ae : Slr fM K (sv k) A) (e : RowR Ty.str K s B) :
  Fc Tryz.prog 47 #[(Vp d), (.string p1)] K ((.blk d 76 [(sv j), (sv i), (sv h), (sv g), (sv f), (sv k), (.bool b), (.bool c), (sv a)]) :: (.row (sv a) 9 1 s.flatten) :: G) (fun v t o => ∃ (L : SV) (J : List (List Value)), v = (.bool m) ∧ (.blk d 76 [(sv j), (sv i), (sv h), (sv g), (sv f), (sv k), (.bool b), (.bool c), (sv L)]) :: (.row (sv L) 9 1 J.flatten) :: G = o ∧ RowR Ty.str t J n) := by
 refine fN Tryz.func47 rfl Tryz.ntmps47 Tryz.results47 rfl ?_
 unfold sG at H
 refine fc<|fa<|Ea Z<|fb<|?_
 refine fA (fun C t o => [(0, (Vp d)), (1, (.string p1))] = C ∧ (.blk d 76 [(sv j), (sv i), (sv h), (sv g), (sv f), (sv k), (.bool b), (.bool c), (sv a)]) :: (.row (sv a) 9 1 s.flatten) :: G = o ∧ wQ p1 z y x w u A b c B = some (m, n)) ?_ ?_
 ·refine fc<|fa<|Ea Z<|fb<|fC<|?_
  refine ga (fun n77 C t o => ∃ (r : Int), [(0, (Vp d)), (1, (.string p1)), (5, (Vi r))] = C ∧ K = t ∧ (.blk d 76 [(sv j), (sv i), (sv h), (sv g), (sv f), (sv k), (.bool b), (.bool c), (sv a)]) :: (.row (sv a) 9 1 s.flatten) :: G = o ∧ lp1 (wR p1 z y x w u A b c B) n77 r = some (m, n)) BIG ?_ ?_
  ·exact Pu1<|Pu1<|Sd<|⟨_, by exact R3, 0, rfl, rfl, rfl, H⟩
  rintro n77 _ _ _ - ⟨r, rfl, rfl, rfl, H⟩
  obtain ⟨ag, af, rfl, R, H⟩ := oe H
  unfold wR at H
  refine fc<|fc<|fa<|Em Z<|Em Z<|Eq Z (fD rfl)<|EF 8 Z<|El (sv a) Z (Rb0 Z)<|Eq Z (mZ (T := Ty.str) Mb1 e rfl rfl rfl)<|Ec Z<|fb<|?_
  refine fp rfl ?_ ?_
  ·intro p
   obtain ⟨p, H⟩ := It p H
   refine fy<|fc<|fC<|fc<|fa<|Em Z<|Eq Z (fD rfl)<|EF 8 Z<|El (sv a) Z (Rb0 Z)<|Em Z<|?_
   obtain ⟨X, I, H⟩ := bnd H
   obtain ⟨ah, F, S⟩ := RowR.at e I
   obtain rfl := S
   refine Eq Z (gP (T := Ty.str) Mb1 e F (fO I).1 rfl rfl rfl rfl rfl)<|El (.string X) Z (ie (T := Ty.str) Mb1 e F rfl rfl)<|Em Z<|Eq Z (CS rfl rfl)<|fb<|?_
   refine fp rfl ?_ ?_
   ·intro q
    obtain ⟨q, H⟩ := It q H
    refine fc<|fa<|Ea Z<|fb<|fz<|?_
    obtain ⟨N, O⟩ := ig H
    subst m n
    refine ⟨(by first|exact .inl rfl|exact .inr rfl), [(.bool true)], ⟨(.bool true), _, rfl, rfl, rfl⟩, ?_⟩
    exact Pu1<|Pu1<|Sd<|⟨a, s, rfl, rfl, e⟩
   ·intro q
    obtain ⟨q, H⟩ := If q H
    exact fy<|fa<|Em Z<|Er (wI (r + 1)) Z<|Ea Z<|fb<|Pu1<|Pu1<|Sd<|⟨_, by exact R3, _, Nat.lt_succ_self _, (wI (r + 1)), rfl, rfl, rfl, (R ▸ H)⟩
  ·intro p
   obtain ⟨p, H⟩ := If p H
   exact ge<|Pu1<|Pu1<|Sd<|⟨_, by exact R2, rfl, rfl, H⟩
 rintro _ M _ P ⟨rfl, rfl, H⟩
 unfold wQ at H
 refine fc<|fa<|Em Z<|Em Z<|Eq Z (fD rfl)<|EF 8 Z<|El (sv a) Z (Rb0 Z)<|Em Z<|?_
 have E : RowR Ty.str M [[(.string p1)]] [p1] := RowR.cons rfl (RowR.nil)
 refine ff rfl (gh (T := Ty.str) (rows := [[(.string p1)]]) (l := [p1]) rfl rfl rfl E rfl rfl rfl rfl rfl rfl rfl rfl (fun ai => ?_))
 obtain ⟨aj, V, H⟩ := bnd H
 have U := e.mono P
 refine ff rfl (gZ (T := Ty.str) (bytes := 16) rfl rfl rfl Mb2 U (SrcT.row Mb0 E rfl) V rfl rfl rfl rfl rfl rfl rfl rfl (fun D W Q => ⟨_, (.there (.there .here)), ?_⟩))
 refine Ow.shift (Re0 (Sd ?_))
 refine Eq Z (fD rfl)<|EF 8 Z<|?_
 refine ff rfl (fm (vs := [(sv D)]) (all' := [(sv j), (sv i), (sv h), (sv g), (sv f), (sv k), (.bool b), (.bool c), (sv D)]) rfl rfl rfl rfl rfl .here rfl rfl rfl ?_)
 refine fb<|fc<|fa<|Ea Z<|fb<|fz<|?_
 obtain ⟨N, O⟩ := ig H
 subst m n
 refine ⟨(by first|exact .inl rfl|exact .inr rfl), [(.bool false)], ⟨(.bool false), _, rfl, rfl, rfl⟩, ?_⟩
 exact Pu1<|Pu1<|Sd<|⟨D, W, rfl, rfl, Q⟩
theorem yi (d : Nat) (w : ae4) (p : SV) (u : ad6) (o : SV) (t : ae5) (n : SV) (s : af4) (h : SV) (r : ae1) (g : SV) (x : ad5) (q : SV) (a : Bool) (c : Bool) (y : ad8) (b : SV) (m : List (List Value)) (p1 : ae1) (B : SV) (p2 : Int) (f : Bool) (H : pm w u t s r x a c y p1 p2 = some f) (K : Kp) (G : List Ent) (ao : Slr (Ty.sl hQ) K (sv p) w) (an : Slr f7 K (sv o) u) (am : Slr io K (sv n) t) (O : Slr (Ty.sl Ty.bool) K (sv h) s) (N : Slr Ty.bool K (sv g) r) (ap : Slr fM K (sv q) x) (aq : RowR Ty.str K m y) (A : Slr Ty.bool K (sv B) p1) :
  Fc Tryz.prog 49 #[(Vp d), (sv B), (Vi p2)] K ((.blk d 76 [(sv p), (sv o), (sv n), (sv h), (sv g), (sv q), (.bool a), (.bool c), (sv b)]) :: (.row (sv b) 9 1 m.flatten) :: G) (fun v i e => v = (.bool f) ∧ (.blk d 76 [(sv p), (sv o), (sv n), (sv h), (sv g), (sv q), (.bool a), (.bool c), (sv b)]) :: (.row (sv b) 9 1 m.flatten) :: G = e) := by
 refine fN Tryz.func49 rfl Tryz.ntmps49 Tryz.results49 rfl ?_
 unfold pm at H
 refine fc<|fa<|Ea Z<|fb<|fc<|?_
 refine fA (fun j i e => ∃ (J : Bool), [(0, (Vp d)), (1, (sv B)), (2, (Vi p2)), (27, (.bool J))] = j ∧ K = i ∧ (.blk d 76 [(sv p), (sv o), (sv n), (sv h), (sv g), (sv q), (.bool a), (.bool c), (sv b)]) :: (.row (sv b) 9 1 m.flatten) :: G = e ∧ nE p1 p2 w u t s r x a c y J = some f) ?_ ?_
 ·refine fa<|Em Z<|Em Z<|?_
  obtain ⟨ai, Q, H⟩ := bnd H
  obtain ⟨_, rfl, Y⟩ := Slr.at A Q
  refine Eq Z (Qi (T := Ty.bool) A Q Z)<|El (.bool ai) Z (Rdc.k Y rfl)<|Em Z<|?_
  refine Ee Z ?_ ?_
  ·intro C
   have H := ift C H
   exact Ez Z<|Ez Z<|Ez Z<|Ez Z<|Ez Z<|gf rfl rfl rfl rfl rfl<|gf rfl rfl rfl rfl rfl<|gf rfl rfl rfl rfl rfl<|gf rfl rfl rfl rfl rfl<|gf rfl rfl rfl rfl rfl<|gf rfl rfl rfl rfl rfl<|gf rfl rfl rfl rfl rfl<|gf rfl rfl rfl rfl rfl<|Ez Z<|Et Z<|fb<|Pu1<|Pu1<|Sd<|⟨_, by exact R4, true, rfl, rfl, rfl, H⟩
  ·intro C
   have H := f5 (btf C) H
   refine Vm Z<|Vq Z (fD rfl)<|VF 6 Z<|Vl (.bool a) Z (Rb0 Z)<|Vm Z<|?_
   refine Ee Z ?_ ?_
   ·intro D
    have H := ift D H
    refine Vm Z<|Vq Z (fD rfl)<|VF 4 Z<|Vl (sv g) Z (Rb0 Z)<|Vm Z<|?_
    obtain ⟨W, R, H⟩ := bnd H
    obtain ⟨_, rfl, aa⟩ := Slr.at N R
    exact Vq Z (Qi (T := Ty.bool) N R Z)<|Vl (.bool W) Z (Rdc.k aa rfl)<|Vq Z (gg rfl)<|Vt Z<|Ef Z<|fb<|Pu1<|Pu1<|Sd<|⟨_, by exact R4, (!(W)), rfl, rfl, rfl, H⟩
   ·intro D
    have H := f5 (btf D) H
    exact Ez Z<|Ez Z<|Ez Z<|Ez Z<|Ez Z<|Ez Z<|Ez Z<|Ez Z<|Vf Z<|Ef Z<|fb<|Pu1<|Pu1<|Sd<|⟨_, by exact R4, false, rfl, rfl, rfl, H⟩
 rintro _ _ _ - ⟨J, rfl, rfl, rfl, H⟩
 unfold nE at H
 refine fp rfl ?_ ?_
 ·intro E
  have H := ift E H
  refine fc<|fa<|Ea Z<|fb<|fz<|?_
  obtain M := gu H
  subst f
  refine ⟨(by first|exact .inl rfl|exact .inr rfl), [(.bool false)], ⟨(.bool false), _, rfl, rfl, rfl⟩, ?_⟩
  exact Pu1<|Pu1<|Sd<|⟨rfl, rfl⟩
 ·intro E
  have H := f5 (btf E) H
  refine fy ?_
  refine fA (fun j i e => [] = j ∧ (.blk d 76 [(sv p), (sv o), (sv n), (sv h), (sv g), (sv q), (.bool a), (.bool c), (sv b)]) :: (.row (sv b) 9 1 m.flatten) :: G = e ∧ wT w u t s r x a c y = some f) ?_ ?_
  ·refine fc<|fa<|Ea Z<|fb<|fC<|?_
   refine ga (fun n218 j i e => ∃ (l : Int), [(0, (Vp d)), (1, (sv B)), (2, (Vi p2)), (7, (Vi l))] = j ∧ K = i ∧ (.blk d 76 [(sv p), (sv o), (sv n), (sv h), (sv g), (sv q), (.bool a), (.bool c), (sv b)]) :: (.row (sv b) 9 1 m.flatten) :: G = e ∧ lp1 (wV p1 p2 w u t s r x a c y) n218 l = some f) BIG ?_ ?_
   ·exact Pu1<|Pu1<|Sd<|⟨_, by exact R4, 0, rfl, rfl, rfl, H⟩
   rintro n218 _ _ _ - ⟨l, rfl, rfl, rfl, H⟩
   obtain ⟨ar, ag, rfl, ae, H⟩ := oe H
   unfold wV at H
   refine fc<|fc<|fa<|Em Z<|Em Z<|Eq Z (gp (T := Ty.bool) A rfl rfl)<|Ec Z<|fb<|?_
   refine fp rfl ?_ ?_
   ·intro z
    obtain ⟨z, H⟩ := It z H
    refine fy<|fc<|fC<|?_
    refine fA (fun j i e => ∃ (L : Bool), [(0, (Vp d)), (1, (sv B)), (2, (Vi p2)), (7, (Vi l)), (50, (.bool L))] = j ∧ K = i ∧ (.blk d 76 [(sv p), (sv o), (sv n), (sv h), (sv g), (sv q), (.bool a), (.bool c), (sv b)]) :: (.row (sv b) 9 1 m.flatten) :: G = e ∧ tp p1 p2 l w u t s r x a c y ag L = some f) ?_ ?_
    ·refine fa<|Em Z<|Eq Z (fD rfl)<|EF 3 Z<|El (sv h) Z (Rb0 Z)<|Em Z<|?_
     obtain ⟨av, S, H⟩ := bnd H
     obtain ⟨au, af, ab⟩ := Slr.at O S
     obtain ⟨ah, rfl, P⟩ := af
     refine Eq Z (Qi (T := (Ty.sl Ty.bool)) O S Z)<|El (sv ah) Z (Rdc.k ab rfl)<|Em Z<|?_
     obtain ⟨aj, U, H⟩ := bnd H
     obtain ⟨_, rfl, ac⟩ := Slr.at P U
     refine Eq Z (Qi (T := Ty.bool) P U Z)<|El (.bool aj) Z (Rdc.k ac rfl)<|Em Z<|?_
     refine Ee Z ?_ ?_
     ·intro F
      have H := ift F H
      refine Vm Z<|Vm Z<|?_
      obtain ⟨X, V, H⟩ := bnd H
      obtain ⟨_, rfl, ad⟩ := Slr.at A V
      exact Vq Z (Qi (T := Ty.bool) A V Z)<|Vl (.bool X) Z (Rdc.k ad rfl)<|Vq Z (gg rfl)<|Et Z<|fb<|Pu1<|Pu1<|Sd<|⟨_, by exact R5, (!(X)), rfl, rfl, rfl, H⟩
     ·intro F
      have H := f5 (btf F) H
      exact Ez Z<|Ez Z<|Ez Z<|Ez Z<|Ez Z<|Ef Z<|fb<|Pu1<|Pu1<|Sd<|⟨_, by exact R5, false, rfl, rfl, rfl, H⟩
    rintro _ _ _ - ⟨L, rfl, rfl, rfl, H⟩
    unfold tp at H
    refine fp rfl ?_ ?_
    ·intro I
     have H := ift I H
     refine fc<|fa<|Ea Z<|fb<|fz<|?_
     obtain M := gu H
     subst f
     refine ⟨(by first|exact .inl rfl|exact .inr rfl), [(.bool false)], ⟨(.bool false), _, rfl, rfl, rfl⟩, ?_⟩
     exact Pu1<|Pu1<|Sd<|⟨rfl, rfl⟩
    ·intro I
     have H := f5 (btf I) H
     exact fy<|fa<|Em Z<|Er (wI (l + 1)) Z<|Ea Z<|fb<|Pu1<|Pu1<|Sd<|⟨_, by exact R4, _, Nat.lt_succ_self _, (wI (l + 1)), rfl, rfl, rfl, (ae ▸ H)⟩
   ·intro z
    obtain ⟨z, H⟩ := If z H
    exact ge<|Pu1<|Pu1<|Sd<|⟨[], trivial, rfl, rfl, H⟩
  rintro _ ak _ al ⟨rfl, rfl, H⟩
  unfold wT at H
  refine fc<|fa<|Ea Z<|fb<|fz<|?_
  obtain M := gu H
  subst f
  refine ⟨(by first|exact .inl rfl|exact .inr rfl), [(.bool true)], ⟨(.bool true), _, rfl, rfl, rfl⟩, ?_⟩
  exact Pu1<|Pu1<|Sd<|⟨rfl, rfl⟩
theorem DK (e : Nat) (x : ae4) (n : SV) (w : ad6) (m : SV) (u : ae5) (j : SV) (t : af4) (i : SV) (s : ae1) (a : SV) (y : ad5) (b : SV) (f : Bool) (g : Bool) (z : ad8) (c : SV) (h : List (List Value)) (p1 : ad0) (C : SV) (p2 : Int) (o : ad5) (H : sH x w u t s y f g z p1 p2 = some o) (K : Kp) (G : List Ent) (U : Slr (Ty.sl hQ) K (sv n) x) (S : Slr f7 K (sv m) w) (R : Slr io K (sv j) u) (Q : Slr (Ty.sl Ty.bool) K (sv i) t) (q : Slr Ty.bool K (sv a) s) (r : Slr fM K (sv b) y) (V : RowR Ty.str K h z) (W : Slr fK K (sv C) p1) :
  Fc Tryz.prog 50 #[(Vp e), (sv C), (Vi p2)] K ((.blk e 76 [(sv n), (sv m), (sv j), (sv i), (sv a), (sv b), (.bool f), (.bool g), (sv c)]) :: (.row (sv c) 9 1 h.flatten) :: G) (fun v M L => ∃ (D : SV), v = (sv D) ∧ (.blk e 76 [(sv n), (sv m), (sv j), (sv i), (sv a), (sv b), (.bool f), (.bool g), (sv c)]) :: (.tok 38 5 [(sv D)]) :: (.row (sv c) 9 1 h.flatten) :: G = L ∧ Slr fM M (sv D) o) := by
 refine fN Tryz.func50 rfl Tryz.ntmps50 Tryz.results50 rfl ?_
 unfold sH at H
 refine fc<|fa<|Ea Z<|fb<|fc<|fc<|fa<|Em Z<|Eq Z (fD rfl)<|EF 4 Z<|El (sv a) Z (Rb0 Z)<|Em Z<|?_
 obtain ⟨ag, F, H⟩ := bnd H
 obtain ⟨_, rfl, O⟩ := Slr.at q F
 refine Eq Z (Qi (T := Ty.bool) q F Z)<|El (.bool ag) Z (Rdc.k O rfl)<|fb<|?_
 refine fp rfl ?_ ?_
 ·intro p
  have H := ift p H
  refine fc<|fa<|Em Z<|Eq Z (fD rfl)<|EF 5 Z<|El (sv b) Z (Rb0 Z)<|Em Z<|?_
  obtain ⟨d, I, H⟩ := bnd H
  obtain ⟨_, rfl, P⟩ := Slr.at r I
  refine Eq Z (Qi (T := fM) r I Z)<|EL 5 (fe d) Z (Rdc.k P rfl)<|?_
  have E : RowR fM K [(fe d)] [d] := RowR.cons rfl (RowR.nil)
  refine ff rfl (gh (T := fM) (rows := [(fe d)]) (l := [d]) rfl rfl rfl E rfl rfl rfl rfl rfl rfl rfl rfl (fun A => ?_))
  refine Ea Z<|fb<|fz<|?_
  obtain N := gu H
  subst o
  refine ⟨(by first|exact .inl rfl|exact .inr rfl), [(sv A)], ⟨(sv A), _, rfl, rfl, rfl⟩, ?_⟩
  refine Shift.settle (T := fM) .here E rfl ?_
  intro ai ak X
  exact Pu2<|Pu1<|Pu2<|Sd<|⟨A, rfl, rfl, X⟩
 ·intro p
  have H := f5 (btf p) H
  refine fy<|fc<|fa<|Em Z<|Em Z<|Em Z<|?_
  obtain ⟨J, ac, H⟩ := bnd H
  refine Ow.shift (Pu1 (Sd ?_))
  refine Ow.shift (Pu1 (Sd ?_))
  refine ff rfl (Ek Tryz.call52 Z (nO e x n w m u j t i s a y b f g z c h p2 J ac _ _ U S R Q q r V) ?_)
  rintro _ _ _ - ⟨ae, af, rfl, rfl, rfl, Y, aa⟩
  obtain ⟨ah, ad, H⟩ := bnd H
  refine ff rfl (Ek Tryz.call84 Z (yf p1 C J ae af ah ad _ _ W Y aa) ?_)
  rintro _ aj _ al ⟨B, rfl, rfl, ab⟩
  refine Ea Z<|fb<|fz<|?_
  obtain N := gu H
  subst o
  refine ⟨(by first|exact .inl rfl|exact .inr rfl), [(sv B)], ⟨(sv B), _, rfl, rfl, rfl⟩, ?_⟩
  exact Pu2<|Pu1<|Pu2<|Sd<|⟨B, rfl, rfl, ab⟩
theorem xx (p0 : ae1) (h : SV) (p1 : Int) (d : ae1) (H : tq p0 p1 = some d) (K : Kp) (G : List Ent) (m : Slr Ty.bool K (sv h) p0) :
  Fc Tryz.prog 53 #[(sv h), (Vi p1)] K (G) (fun v e j => ∃ (i : SV) (g : List (List Value)), v = (sv i) ∧ K = e ∧ (.row (sv i) 4 1 g.flatten) :: G = j ∧ RowR Ty.bool e g d) := by
 refine fN Tryz.func53 rfl Tryz.ntmps53 Tryz.results53 rfl ?_
 unfold tq at H
 refine fc<|fa<|Ea Z<|fb<|fc<|fa<|Em Z<|?_
 have k : RowR Ty.bool K [] [] := RowR.nil
 refine Ow.shift (Shift.nilRow 4 1 (Sd ?_))
 obtain ⟨x15, o, H⟩ := bnd H
 refine ff rfl (gZ (T := Ty.bool) (bytes := 1) rfl rfl rfl Mb0 k (SrcT.sl m) o rfl rfl rfl rfl rfl rfl rfl rfl (fun c p a => ⟨_, .here, ?_⟩))
 refine Ea Z<|fb<|fc<|fa<|Em Z<|Em Z<|?_
 obtain ⟨s, f, H⟩ := bnd H
 obtain ⟨r22, b, n⟩ := RowR.at a f
 obtain rfl := n
 refine Eq Z (gP (T := Ty.bool) Mb0 a b (fO f).1 rfl rfl rfl rfl rfl) ?_
 refine ff rfl (gW (T := Ty.bool) (vs := [(.bool true)]) (r' := [(.bool true)]) (l' := (fY x15 p1 true)) rfl rfl rfl rfl rfl .here a b rfl rfl rfl (RowR.set p1 a rfl) (fun l => ?_))
 have r := i6 b (v := [(.bool true)])
 refine fb<|fc<|fa<|Em Z<|Ea Z<|fb<|fz<|?_
 obtain q := gu H
 subst d
 refine ⟨(by first|exact .inl rfl|exact .inr rfl), [(sv c)], ⟨(sv c), _, rfl, rfl, rfl⟩, ?_⟩
 exact Sd ⟨c, (p.set p1.toNat [(.bool true)]), rfl, rfl, rfl, l⟩
end Go.Hx
namespace Go.Hx
open Go Go.Proofs
set_option maxRecDepth 10000
set_option maxHeartbeats 1000000
theorem DL (j : Nat) (I : ae4) (y : SV) (F : ad6) (x : SV) (E : ae5) (u : SV) (D : af4) (t : SV) (C : ae1) (a : SV) (J : ad5) (b : SV) (h : Bool) (i : Bool) (L : ad8) (e : SV) (s : List (List Value)) (p1 : ad0) (ai : SV) (p2 : Int) (p3 : Int) (O : Bool) (H : sJ I F E D C J h i L p1 p2 p3 = some O) (K : Kp) (G : List Ent) (aw : Slr (Ty.sl hQ) K (sv y) I) (av : Slr f7 K (sv x) F) (au : Slr io K (sv u) E) (ar : Slr (Ty.sl Ty.bool) K (sv t) D) (A : Slr Ty.bool K (sv a) C) (P : Slr fM K (sv b) J) (ax : RowR Ty.str K s L) (a4 : Slr fK K (sv ai) p1) :
  Fc Tryz.prog 54 #[(Vp j), (sv ai), (Vi p2), (Vi p3)] K ((.blk j 76 [(sv y), (sv x), (sv u), (sv t), (sv a), (sv b), (.bool h), (.bool i), (sv e)]) :: (.row (sv e) 9 1 s.flatten) :: G) (fun v U z => v = (.bool O) ∧ (.blk j 76 [(sv y), (sv x), (sv u), (sv t), (sv a), (sv b), (.bool h), (.bool i), (sv e)]) :: (.row (sv e) 9 1 s.flatten) :: G = z) := by
 refine fN Tryz.func54 rfl Tryz.ntmps54 Tryz.results54 rfl ?_
 unfold sJ at H
 refine fc<|fa<|Ea Z<|fb<|fc<|fa<|Em Z<|Em Z<|Em Z<|?_
 obtain ⟨aH, a9, H⟩ := bnd H
 refine Ow.shift (Pu1 (Sd ?_))
 refine Ow.shift (Pu1 (Sd ?_))
 refine ff rfl (Ek Tryz.call52 Z (nO j I y F x E u D t C a J b h i L e s p2 aH a9 _ _ aw av au ar A P ax) ?_)
 rintro _ _ _ - ⟨bd, be, rfl, rfl, rfl, a5, a6⟩
 refine Em Z<|Em Z<|?_
 obtain ⟨aI, ba, H⟩ := bnd H
 refine Ow.shift (Pu1 (Sd ?_))
 refine Ow.shift (Pu1 (Sd ?_))
 refine ff rfl (Ek Tryz.call52 Z (nO j I y F x E u D t C a J b h i L e s p3 aI ba _ _ aw av au ar A P ax) ?_)
 rintro _ _ _ - ⟨bf, bg, rfl, rfl, rfl, a7, a8⟩
 obtain ⟨ap, bb, H⟩ := bnd H
 refine ff rfl (Ek Tryz.call86 Z (Am p1 ai aH bd be aI bf bg ap bb _ _ a4 a5 a6 a7 a8) ?_)
 rintro _ aq _ p ⟨af, rfl, rfl, g⟩
 refine Ea Z<|fb<|?_
 refine fA (fun V U z => [] = V ∧ (.blk j 76 [(sv y), (sv x), (sv u), (sv t), (sv a), (sv b), (.bool h), (.bool i), (sv e)]) :: (.row (sv e) 9 1 s.flatten) :: G = z ∧ wW I F E D C J h i L = some O) ?_ ?_
 ·refine fc<|fa<|Ea Z<|fb<|fC<|?_
  refine ga (fun aG V U z => ∃ (B : Int), [(0, (Vp j)), (2, (Vi p2)), (3, (Vi p3)), (9, (sv af)), (10, (Vi B))] = V ∧ aq = U ∧ (.blk j 76 [(sv y), (sv x), (sv u), (sv t), (sv a), (sv b), (.bool h), (.bool i), (sv e)]) :: (.tok 131 10 [(sv af)]) :: (.row (sv e) 9 1 s.flatten) :: G = z ∧ lp1 (wX p2 p3 ap I F E D C J h i L) aG B = some O) BIG ?_ ?_
  ·exact Pu2<|Pu1<|Pu2<|Sd<|⟨_, by exact R5, 0, rfl, rfl, rfl, H⟩
  rintro aG _ _ _ - ⟨B, rfl, rfl, rfl, H⟩
  obtain ⟨bj, bc, rfl, a3, H⟩ := oe H
  unfold wX at H
  refine fc<|fc<|fa<|Em Z<|Em Z<|Eq Z (gp (T := gz) g rfl rfl)<|Ec Z<|fb<|?_
  refine fp rfl ?_ ?_
  ·intro W
   obtain ⟨W, H⟩ := It W H
   refine fy<|fc<|fC<|?_
   refine fA (fun V U z => ∃ (ah : Bool), [(0, (Vp j)), (2, (Vi p2)), (3, (Vi p3)), (9, (sv af)), (10, (Vi B)), (72, (.bool ah))] = V ∧ aq = U ∧ (.blk j 76 [(sv y), (sv x), (sv u), (sv t), (sv a), (sv b), (.bool h), (.bool i), (sv e)]) :: (.tok 131 10 [(sv af)]) :: (.row (sv e) 9 1 s.flatten) :: G = z ∧ qs p2 p3 ap B I F E D C J h i L bc ah = some O) ?_ ?_
   ·obtain ⟨S, l, H⟩ := bnd H
    rcases ic (!(S)) with f | f <;> revert f
    ·intro c
     have c := iC c
     have H := f5 (btf c) H
     obtain ⟨aj, ad, H⟩ := bnd H
     rcases ic (!(aj)) with f | f <;> revert f
     ·intro n
      have n := iC n
      have H := f5 (btf n) H
      refine fx _ rfl (Ic Mb0 (Ic Mb1 (Ic Mb2 In0)))<|Jm 0 Z<|Jq 1 Z (fD rfl)<|JF 2 4 Z<|Jl 3 (sv a) Z (Rb0 Z)<|Jm 4 Z<|?_
      have X := A.mono p
      obtain ⟨_, rfl, aK⟩ := Slr.at X l
      refine Jq 5 Z (Qi (T := Ty.bool) X l Z)<|Jl 6 (.bool S) Z (Rdc.k aK rfl)<|Jq 7 Z (gg rfl)<|Jm 8 Z<|Aw.known (d := 33) rfl (lT (c))<|Jz 9 Z<|Jz 10 Z<|Jz 11 Z<|Jz 12 Z<|Jz 13 Z<|Jz 14 Z<|Jz 15 Z<|Jz 16 Z<|Jz 17 Z<|Jz 18 Z<|Jz 19 Z<|Jz 20 Z<|Jz 21 Z<|Jt 22 Z<|Jm 23 Z<|Bm 24 Z<|Bq 25 Z (fD rfl)<|?_
      refine BF 26 4 Z<|Bl 27 (sv a) Z (Rb0 Z)<|Bm 28 Z<|?_
      obtain ⟨_, rfl, aL⟩ := Slr.at X ad
      refine Bq 29 Z (Qi (T := Ty.bool) X ad Z)<|Bl 30 (.bool aj) Z (Rdc.k aL rfl)<|Bq 31 Z (gg rfl)<|Bm 32 Z<|Aw.known (d := 57) rfl (lT (n))<|Jz 33 Z<|Jz 34 Z<|Jz 35 Z<|Jz 36 Z<|Jz 37 Z<|Jz 38 Z<|Jz 39 Z<|Jz 40 Z<|Jz 41 Z<|Jz 42 Z<|Jz 43 Z<|Jz 44 Z<|Jz 45 Z<|Bt 46 Z<|Jt 47 Z<|Ad<|Pu2<|?_
      exact Pu2<|Pu2<|Sd<|⟨_, by exact R6, true, rfl, rfl, rfl, H⟩
     ·intro n
      have n := iz n
      have H := ift n H
      obtain ⟨ak, aC, H⟩ := bnd H
      obtain ⟨al, aD, H⟩ := bnd H
      refine fx _ rfl (Ic Mb0 (Ic Mb1 (Ic Mb2 In0)))<|Jm 0 Z<|Jq 1 Z (fD rfl)<|JF 2 4 Z<|Jl 3 (sv a) Z (Rb0 Z)<|Jm 4 Z<|?_
      have Y := A.mono p
      obtain ⟨_, rfl, aM⟩ := Slr.at Y l
      refine Jq 5 Z (Qi (T := Ty.bool) Y l Z)<|Jl 6 (.bool S) Z (Rdc.k aM rfl)<|Jq 7 Z (gg rfl)<|Jm 8 Z<|Aw.known (d := 33) rfl (lT (c))<|Jz 9 Z<|Jz 10 Z<|Jz 11 Z<|Jz 12 Z<|Jz 13 Z<|Jz 14 Z<|Jz 15 Z<|Jz 16 Z<|Jz 17 Z<|Jz 18 Z<|Jz 19 Z<|Jz 20 Z<|Jz 21 Z<|Jt 22 Z<|Jm 23 Z<|Bm 24 Z<|Bq 25 Z (fD rfl)<|?_
      refine BF 26 4 Z<|Bl 27 (sv a) Z (Rb0 Z)<|Bm 28 Z<|?_
      obtain ⟨_, rfl, aN⟩ := Slr.at Y ad
      refine Bq 29 Z (Qi (T := Ty.bool) Y ad Z)<|Bl 30 (.bool aj) Z (Rdc.k aN rfl)<|Bq 31 Z (gg rfl)<|Bm 32 Z<|Aw.known (d := 57) rfl (lS (n))<|Bm 33 Z<|Bq 34 Z (fD rfl)<|BF 35 5 Z<|Bl 36 (sv b) Z (Rb0 Z)<|Bm 37 Z<|?_
      have ay := P.mono p
      obtain ⟨_, rfl, aO⟩ := Slr.at ay aC
      refine Bq 38 Z (Qi (T := fM) ay aC Z)<|BL 39 5 (fe ak) Z (Rdc.k aO rfl)<|Bm 40 Z<|Bm 41 Z<|?_
      obtain ⟨_, rfl, aP⟩ := Slr.at g aD
      exact Bq 42 Z (Qi (T := gz) g aD Z)<|Bq 43 Z (iH (q := 1) (m := 5) rfl rfl rfl rfl rfl (by decide) rfl (by decide))<|BL 44 5 (fe al.x1) Z (Rdc.k aP rfl)<|Bq 45 Z (jy rfl rfl (fun w => Result.eqrun ak al.x1 w) (by kernel_rfl))<|Bf 46 Z<|Jt 47 Z<|Ad<|Pu2<|Pu2<|Pu2<|Sd<|⟨_, by exact R6, (dcd (ak = al.x1)), rfl, rfl, rfl, H⟩
    ·intro c
     have c := iz c
     have H := ift c H
     obtain ⟨M, Q, H⟩ := bnd H
     obtain ⟨N, R, H⟩ := bnd H
     rcases ic (dcd (M = N.x0)) with f | f <;> revert f
     ·intro r
      obtain ⟨r, H⟩ := It r H
      obtain ⟨am, ae, H⟩ := bnd H
      rcases ic (!(am)) with f | f <;> revert f
      ·intro o
       have o := iC o
       have H := f5 (btf o) H
       refine fx _ rfl (Ic Mb0 (Ic Mb1 (Ic Mb2 In0)))<|Jm 0 Z<|Jq 1 Z (fD rfl)<|JF 2 4 Z<|Jl 3 (sv a) Z (Rb0 Z)<|Jm 4 Z<|?_
       have aa := A.mono p
       obtain ⟨_, rfl, aQ⟩ := Slr.at aa l
       refine Jq 5 Z (Qi (T := Ty.bool) aa l Z)<|Jl 6 (.bool S) Z (Rdc.k aQ rfl)<|Jq 7 Z (gg rfl)<|Jm 8 Z<|Aw.known (d := 33) rfl (lS (c))<|Bm 9 Z<|Bq 10 Z (fD rfl)<|BF 11 5 Z<|Bl 12 (sv b) Z (Rb0 Z)<|Bm 13 Z<|?_
       have az := P.mono p
       obtain ⟨_, rfl, aR⟩ := Slr.at az Q
       refine Bq 14 Z (Qi (T := fM) az Q Z)<|BL 15 5 (fe M) Z (Rdc.k aR rfl)<|Bm 16 Z<|Bm 17 Z<|?_
       obtain ⟨_, rfl, aS⟩ := Slr.at g R
       refine Bq 18 Z (Qi (T := gz) g R Z)<|Bq 19 Z (iH (q := 0) (m := 0) rfl rfl rfl rfl rfl (by decide) rfl (by decide))<|BL 20 5 (fe N.x0) Z (Rdc.k aS rfl)<|Bq 21 Z (jy rfl rfl (fun w => Result.eqrun M N.x0 w) (by kernel_rfl))<|Jf 22 Z<|Jm 23 Z<|Aw.known (d := 48) rfl (iv r)<|Bm 24 Z<|Bq 25 Z (fD rfl)<|BF 26 4 Z<|Bl 27 (sv a) Z (Rb0 Z)<|Bm 28 Z<|?_
       obtain ⟨_, rfl, aT⟩ := Slr.at aa ae
       refine Bq 29 Z (Qi (T := Ty.bool) aa ae Z)<|Bl 30 (.bool am) Z (Rdc.k aT rfl)<|Bq 31 Z (gg rfl)<|Bm 32 Z<|Aw.known (d := 57) rfl (lT (o))<|Jz 33 Z<|Jz 34 Z<|Jz 35 Z<|Jz 36 Z<|Jz 37 Z<|Jz 38 Z<|Jz 39 Z<|Jz 40 Z<|Jz 41 Z<|Jz 42 Z<|Jz 43 Z<|Jz 44 Z<|Jz 45 Z<|Bt 46 Z<|Jt 47 Z<|Ad<|Pu2<|?_
       exact Pu2<|Pu2<|Sd<|⟨_, by exact R6, true, rfl, rfl, rfl, H⟩
      ·intro o
       have o := iz o
       have H := ift o H
       obtain ⟨an, aE, H⟩ := bnd H
       obtain ⟨ao, aF, H⟩ := bnd H
       refine fx _ rfl (Ic Mb0 (Ic Mb1 (Ic Mb2 In0)))<|Jm 0 Z<|Jq 1 Z (fD rfl)<|JF 2 4 Z<|Jl 3 (sv a) Z (Rb0 Z)<|Jm 4 Z<|?_
       have ab := A.mono p
       obtain ⟨_, rfl, aU⟩ := Slr.at ab l
       refine Jq 5 Z (Qi (T := Ty.bool) ab l Z)<|Jl 6 (.bool S) Z (Rdc.k aU rfl)<|Jq 7 Z (gg rfl)<|Jm 8 Z<|Aw.known (d := 33) rfl (lS (c))<|Bm 9 Z<|Bq 10 Z (fD rfl)<|BF 11 5 Z<|Bl 12 (sv b) Z (Rb0 Z)<|Bm 13 Z<|?_
       have ac := P.mono p
       obtain ⟨_, rfl, aV⟩ := Slr.at ac Q
       refine Bq 14 Z (Qi (T := fM) ac Q Z)<|BL 15 5 (fe M) Z (Rdc.k aV rfl)<|Bm 16 Z<|Bm 17 Z<|?_
       obtain ⟨_, rfl, aW⟩ := Slr.at g R
       refine Bq 18 Z (Qi (T := gz) g R Z)<|Bq 19 Z (iH (q := 0) (m := 0) rfl rfl rfl rfl rfl (by decide) rfl (by decide))<|BL 20 5 (fe N.x0) Z (Rdc.k aW rfl)<|Bq 21 Z (jy rfl rfl (fun w => Result.eqrun M N.x0 w) (by kernel_rfl))<|Jf 22 Z<|Jm 23 Z<|Aw.known (d := 48) rfl (iv r)<|Bm 24 Z<|Bq 25 Z (fD rfl)<|BF 26 4 Z<|Bl 27 (sv a) Z (Rb0 Z)<|Bm 28 Z<|?_
       obtain ⟨_, rfl, aX⟩ := Slr.at ab ae
       refine Bq 29 Z (Qi (T := Ty.bool) ab ae Z)<|Bl 30 (.bool am) Z (Rdc.k aX rfl)<|Bq 31 Z (gg rfl)<|Bm 32 Z<|Aw.known (d := 57) rfl (lS (o))<|Bm 33 Z<|Bq 34 Z (fD rfl)<|BF 35 5 Z<|Bl 36 (sv b) Z (Rb0 Z)<|Bm 37 Z<|?_
       obtain ⟨_, rfl, aY⟩ := Slr.at ac aE
       refine Bq 38 Z (Qi (T := fM) ac aE Z)<|BL 39 5 (fe an) Z (Rdc.k aY rfl)<|Bm 40 Z<|Bm 41 Z<|?_
       obtain ⟨_, rfl, aZ⟩ := Slr.at g aF
       exact Bq 42 Z (Qi (T := gz) g aF Z)<|Bq 43 Z (iH (q := 1) (m := 5) rfl rfl rfl rfl rfl (by decide) rfl (by decide))<|BL 44 5 (fe ao.x1) Z (Rdc.k aZ rfl)<|Bq 45 Z (jy rfl rfl (fun w => Result.eqrun an ao.x1 w) (by kernel_rfl))<|Bf 46 Z<|Jt 47 Z<|Ad<|Pu2<|Pu2<|Pu2<|Sd<|⟨_, by exact R6, (dcd (an = ao.x1)), rfl, rfl, rfl, H⟩
     ·intro r
      obtain ⟨r, H⟩ := If r H
      refine fx _ rfl (Ic Mb0 (Ic Mb1 (Ic Mb2 In0)))<|Jm 0 Z<|Jq 1 Z (fD rfl)<|JF 2 4 Z<|Jl 3 (sv a) Z (Rb0 Z)<|Jm 4 Z<|?_
      have aA := A.mono p
      obtain ⟨_, rfl, a0⟩ := Slr.at aA l
      refine Jq 5 Z (Qi (T := Ty.bool) aA l Z)<|Jl 6 (.bool S) Z (Rdc.k a0 rfl)<|Jq 7 Z (gg rfl)<|Jm 8 Z<|Aw.known (d := 33) rfl (lS (c))<|Bm 9 Z<|Bq 10 Z (fD rfl)<|BF 11 5 Z<|Bl 12 (sv b) Z (Rb0 Z)<|Bm 13 Z<|?_
      have aB := P.mono p
      obtain ⟨_, rfl, a1⟩ := Slr.at aB Q
      refine Bq 14 Z (Qi (T := fM) aB Q Z)<|BL 15 5 (fe M) Z (Rdc.k a1 rfl)<|Bm 16 Z<|Bm 17 Z<|?_
      obtain ⟨_, rfl, a2⟩ := Slr.at g R
      refine Bq 18 Z (Qi (T := gz) g R Z)<|Bq 19 Z (iH (q := 0) (m := 0) rfl rfl rfl rfl rfl (by decide) rfl (by decide))<|BL 20 5 (fe N.x0) Z (Rdc.k a2 rfl)<|Bq 21 Z (jy rfl rfl (fun w => Result.eqrun M N.x0 w) (by kernel_rfl))<|Jf 22 Z<|Jm 23 Z<|Aw.known (d := 48) rfl (iV r)<|Jz 24 Z<|Jz 25 Z<|Jz 26 Z<|Jz 27 Z<|Jz 28 Z<|Jz 29 Z<|Jz 30 Z<|Jz 31 Z<|Jz 32 Z<|gV 33 rfl (by kernel_rfl) (by kernel_rfl) (by kernel_rfl) rfl rfl rfl rfl rfl<|gV 34 rfl (by kernel_rfl) (by kernel_rfl) (by kernel_rfl) rfl rfl rfl rfl rfl<|gV 35 rfl (by kernel_rfl) (by kernel_rfl) (by kernel_rfl) rfl rfl rfl rfl rfl<|gV 36 rfl (by kernel_rfl) (by kernel_rfl) (by kernel_rfl) rfl rfl rfl rfl rfl<|gV 37 rfl (by kernel_rfl) (by kernel_rfl) (by kernel_rfl) rfl rfl rfl rfl rfl<|gV 38 rfl (by kernel_rfl) (by kernel_rfl) (by kernel_rfl) rfl rfl rfl rfl rfl<|?_
      exact gV 39 rfl (by kernel_rfl) (by kernel_rfl) (by kernel_rfl) rfl rfl rfl rfl rfl<|gV 40 rfl (by kernel_rfl) (by kernel_rfl) (by kernel_rfl) rfl rfl rfl rfl rfl<|gV 41 rfl (by kernel_rfl) (by kernel_rfl) (by kernel_rfl) rfl rfl rfl rfl rfl<|gV 42 rfl (by kernel_rfl) (by kernel_rfl) (by kernel_rfl) rfl rfl rfl rfl rfl<|gV 43 rfl (by kernel_rfl) (by kernel_rfl) (by kernel_rfl) rfl rfl rfl rfl rfl<|gV 44 rfl (by kernel_rfl) (by kernel_rfl) (by kernel_rfl) rfl rfl rfl rfl rfl<|gV 45 rfl (by kernel_rfl) (by kernel_rfl) (by kernel_rfl) rfl rfl rfl rfl rfl<|Jz 46 Z<|Jf 47 Z<|Ad<|Pu2<|Pu2<|Pu2<|Sd<|⟨_, by exact R6, false, rfl, rfl, rfl, H⟩
   rintro _ _ _ - ⟨ah, rfl, rfl, rfl, H⟩
   unfold qs at H
   refine fp rfl ?_ ?_
   ·intro ag
    have H := ift ag H
    refine fc<|fa<|Ea Z<|fb<|fz<|?_
    obtain aJ := gu H
    subst O
    refine ⟨(by first|exact .inl rfl|exact .inr rfl), [(.bool true)], ⟨(.bool true), _, rfl, rfl, rfl⟩, ?_⟩
    exact Pu2<|Pu1<|Re2<|Sd<|⟨rfl, rfl⟩
   ·intro ag
    have H := f5 (btf ag) H
    exact fy<|fa<|Em Z<|Er (wI (B + 1)) Z<|Ea Z<|fb<|Pu2<|Pu2<|Pu2<|Sd<|⟨_, by exact R5, _, Nat.lt_succ_self _, (wI (B + 1)), rfl, rfl, rfl, (a3 ▸ H)⟩
  ·intro W
   obtain ⟨W, H⟩ := If W H
   exact ge<|Pu2<|Pu1<|Re2<|Sd<|⟨[], trivial, rfl, rfl, H⟩
 rintro _ bh _ bi ⟨rfl, rfl, H⟩
 unfold wW at H
 refine fc<|fa<|Ea Z<|fb<|fz<|?_
 obtain aJ := gu H
 subst O
 refine ⟨(by first|exact .inl rfl|exact .inr rfl), [(.bool false)], ⟨(.bool false), _, rfl, rfl, rfl⟩, ?_⟩
 exact Pu1<|Pu1<|Sd<|⟨rfl, rfl⟩
theorem xr (fu : Nat) : ∀ (c : Nat) (i : ae4) (p : SV) (h : ad6) (o : SV) (g : ae5) (n : SV) (f : af4) (m : SV) (e : ae1) (l : SV) (j : ad5) (q : SV) (a : Bool) (b : Bool) (ad : ad8) (ah : SV) (af : List (List Value)) (p1 : ae1) (x : SV) (p2 : ad0) (y : SV) (r : Bool) (s : ad8) (H : qb fu i h g f e j a b ad p1 p2 = some (r, s)) (K : Kp) (G : List Ent) (aC : Slr (Ty.sl hQ) K (sv p) i) (aB : Slr f7 K (sv o) h) (aA : Slr io K (sv n) g) (az : Slr (Ty.sl Ty.bool) K (sv m) f) (ay : Slr Ty.bool K (sv l) e) (aD : Slr fM K (sv q) j) (am : RowR Ty.str K af ad) (aE : Slr Ty.bool K (sv x) p1) (aF : Slr fK K (sv y) p2),
  Fc Tryz.prog 26 #[(Vp c), (sv x), (sv y)] K ((.blk c 76 [(sv p), (sv o), (sv n), (sv m), (sv l), (sv q), (.bool a), (.bool b), (sv ah)]) :: (.row (sv ah) 9 1 af.flatten) :: G) (fun v u t => ∃ (bW : SV) (bU : List (List Value)), v = (.bool r) ∧ (.blk c 76 [(sv p), (sv o), (sv n), (sv m), (sv l), (sv q), (.bool a), (.bool b), (sv bW)]) :: (.row (sv bW) 9 1 bU.flatten) :: G = t ∧ RowR Ty.str u bU s) := by
 induction fu with
 | zero => intro c i p h o g n f m e l j q a b ad ah af p1 x p2 y r s H K G aC aB aA az ay aD am aE aF; cases H
 | succ fu ih =>
 intro c i p h o g n f m e l j q a b ad ah af p1 x p2 y r s H K G aC aB aA az ay aD am aE aF
 have H : sK (qb fu) i h g f e j a b ad p1 p2 = some (r, s) := H
 generalize qb fu = rc at H ih
 refine fN Tryz.func26 rfl Tryz.ntmps26 Tryz.results26 rfl ?_
 unfold sK at H
 refine fc<|fa<|Ea Z<|fb<|fc<|fc<|fa<|Em Z<|Em Z<|Em Z<|?_
 obtain ⟨dm, c3, H⟩ := bnd H
 refine Ow.shift (Pu1 (Sd ?_))
 refine Ow.shift (Pu1 (Sd ?_))
 refine ff rfl (Ek Tryz.call46 Z (DG c i p h o g n f m e l j q a b ad ah af p1 x p2 y dm c3 _ _ aC aB aA az ay aD am aE aF) ?_)
 rintro _ dH _ D ⟨rfl, rfl⟩
 refine fb ?_
 refine fp rfl ?_ ?_
 ·intro aX
  have H := ift aX H
  refine fc<|fa<|Ea Z<|fb<|fz<|?_
  obtain ⟨ar, au⟩ := ig H
  subst r s
  refine ⟨(by first|exact .inl rfl|exact .inr rfl), [(.bool true)], ⟨(.bool true), _, rfl, rfl, rfl⟩, ?_⟩
  refine Pu1<|Pu1<|?_
  have cQ := am.mono D
  exact Sd ⟨ah, af, rfl, rfl, cQ⟩
 ·intro aX
  have H := f5 (btf aX) H
  refine fy<|fc<|fc<|fa<|Em Z<|Em Z<|Em Z<|?_
  obtain ⟨b7, c4, H⟩ := bnd H
  have bG := aE.mono D
  have bH := aF.mono D
  refine ff rfl (Ek Tryz.call48 Z (DI p1 x p2 y b7 c4 _ _ bG bH) ?_)
  rintro _ dI _ J ⟨rfl, rfl⟩
  obtain ⟨dn, b8, c5, H⟩ := iy H
  refine Ow.shift (Pu1 (Sd ?_))
  refine Ow.shift (Pu1 (Sd ?_))
  have bI := (aC.mono D).mono J
  have bJ := (aB.mono D).mono J
  have bK := (aA.mono D).mono J
  have bL := (az.mono D).mono J
  have bM := (ay.mono D).mono J
  have bN := (aD.mono D).mono J
  have cR := (am.mono D).mono J
  refine ff rfl (Ek Tryz.call47 Z (DJ c i p h o g n f m e l j q a b ad ah af b7 dn b8 c5 _ _ bI bJ bK bL bM bN cR) ?_)
  rintro _ dJ _ V ⟨bV, bT, rfl, rfl, bO⟩
  refine fb ?_
  refine fp rfl ?_ ?_
  ·intro aY
   have H := ift aY H
   refine fc<|fa<|Ea Z<|fb<|fz<|?_
   obtain ⟨ar, au⟩ := ig H
   subst r s
   refine ⟨(by first|exact .inl rfl|exact .inr rfl), [(.bool false)], ⟨(.bool false), _, rfl, rfl, rfl⟩, ?_⟩
   exact Pu1<|Pu1<|Sd<|⟨bV, bT, rfl, rfl, bO⟩
  ·intro aY
   have H := f5 (btf aY) H
   refine fy ?_
   refine fA (fun z u t => ∃ (aO : SV) (a9 : ad8) (aL : List (List Value)), [] = z ∧ (.blk c 76 [(sv p), (sv o), (sv n), (sv m), (sv l), (sv q), (.bool a), (.bool b), (sv aO)]) :: (.row (sv aO) 9 1 aL.flatten) :: G = t ∧ wY i h g f e j a b rc a9 = some (r, s) ∧ RowR Ty.str u aL a9) ?_ ?_
   ·refine fc<|fa<|Ea Z<|fb<|fC<|?_
    refine ga (fun bQ z u t => ∃ (d : Int) (Y : SV) (W : ad8) (X : List (List Value)), [(0, (Vp c)), (1, (sv x)), (2, (sv y)), (7, (Vi d))] = z ∧ (.blk c 76 [(sv p), (sv o), (sv n), (sv m), (sv l), (sv q), (.bool a), (.bool b), (sv Y)]) :: (.row (sv Y) 9 1 X.flatten) :: G = t ∧ lp2 (xa p1 p2 i h g f e j a b rc) bQ d W = some (r, s) ∧ RowR Ty.str u X W) BIG ?_ ?_
    ·exact Pu1<|Pu1<|Sd<|⟨_, by exact R4, 0, bV, b8, bT, rfl, rfl, H, bO⟩
    rintro bQ _ dp _ O ⟨d, Y, W, X, rfl, rfl, H, av⟩
    obtain ⟨dQ, ai, rfl, cd, H⟩ := jR H
    unfold xa at H
    refine fc<|fc<|fa<|Em Z<|Em Z<|?_
    have aG := ((bG.mono J).mono V).mono O
    refine Eq Z (gp (T := Ty.bool) aG rfl rfl)<|Ec Z<|fb<|?_
    refine fp rfl ?_ ?_
    ·intro aj
     obtain ⟨aj, H⟩ := It aj H
     refine fy ?_
     refine fA (fun z u t => ∃ (aP : SV) (aH : ad8) (aM : List (List Value)), [(0, (Vp c)), (1, (sv x)), (2, (sv y)), (7, (Vi d))] = z ∧ (.blk c 76 [(sv p), (sv o), (sv n), (sv m), (sv l), (sv q), (.bool a), (.bool b), (sv aP)]) :: (.row (sv aP) 9 1 aM.flatten) :: G = t ∧ pn p1 p2 d i h g f e j a b ai rc aH = some (r, s) ∧ RowR Ty.str u aM aH) ?_ ?_
     ·refine fC<|fc<|fc<|fa<|Em Z<|Em Z<|Em Z<|?_
      obtain ⟨di, cS, H⟩ := bnd H
      refine Ow.shift (Pu1 (Sd ?_))
      refine Ow.shift (Pu1 (Sd ?_))
      have bf := (bI.mono V).mono O
      have bg := (bJ.mono V).mono O
      have bh := (bK.mono V).mono O
      have bi := (bL.mono V).mono O
      have bj := (bM.mono V).mono O
      have bk := (bN.mono V).mono O
      refine ff rfl (Ek Tryz.call49 Z (yi c i p h o g n f m e l j q a b W Y X p1 x d di cS _ _ bf bg bh bi bj bk av aG) ?_)
      rintro _ dq _ A ⟨rfl, rfl⟩
      refine Eq Z (gg rfl)<|fb<|?_
      refine fp rfl ?_ ?_
      ·intro aa
       have aa := iC aa
       have H := f5 (btf aa) H
       refine ge<|Pu1<|Pu1<|?_
       have cg := av.mono A
       exact Sd ⟨_, by exact R4, Y, W, X, rfl, rfl, H, cg⟩
      ·intro aa
       have aa := iz aa
       have H := ift aa H
       refine fy<|fc<|fa<|Em Z<|Em Z<|Em Z<|?_
       obtain ⟨bc, cT, H⟩ := bnd H
       refine Ow.shift (Pu1 (Sd ?_))
       refine Ow.shift (Pu1 (Sd ?_))
       have aZ := bf.mono A
       have a0 := bg.mono A
       have a1 := bh.mono A
       have a2 := bi.mono A
       have a3 := bj.mono A
       have a4 := bk.mono A
       have bl := av.mono A
       have a5 := (((bH.mono J).mono V).mono O).mono A
       refine ff rfl (Ek Tryz.call50 Z (DK c i p h o g n f m e l j q a b W Y X p2 y d bc cT _ _ aZ a0 a1 a2 a3 a4 bl a5) ?_)
       rintro _ dr _ w ⟨aQ, rfl, rfl, ch⟩
       refine Ea Z<|fb<|?_
       refine fA (fun z u t => ∃ (aR : SV) (aI : ad8) (aN : List (List Value)), [(0, (Vp c)), (1, (sv x)), (2, (sv y)), (7, (Vi d))] = z ∧ (.blk c 76 [(sv p), (sv o), (sv n), (sv m), (sv l), (sv q), (.bool a), (.bool b), (sv aR)]) :: (.row (sv aR) 9 1 aN.flatten) :: G = t ∧ w8 p1 p2 d i h g f e j a b ai rc aI = some (r, s) ∧ RowR Ty.str u aN aI) ?_ ?_
       ·refine fc<|fa<|Ea Z<|fb<|fC<|?_
        refine ga (fun bR z u t => ∃ (ab : Int) (ag : SV) (ac : ad8) (ae : List (List Value)), [(0, (Vp c)), (1, (sv x)), (2, (sv y)), (7, (Vi d)), (8, (sv aQ)), (9, (Vi ab))] = z ∧ (.blk c 76 [(sv p), (sv o), (sv n), (sv m), (sv l), (sv q), (.bool a), (.bool b), (sv ag)]) :: (.row (sv ag) 9 1 ae.flatten) :: (.tok 38 5 [(sv aQ)]) :: G = t ∧ lp2 (w9 p1 p2 d bc i h g f e j a b ai rc) bR ab ac = some (r, s) ∧ RowR Ty.str u ae ac) BIG ?_ ?_
        ·refine Pu1<|Pu2<|Pu2<|?_
         have ci := bl.mono w
         exact Sd ⟨_, by exact R6, 0, Y, W, X, rfl, rfl, H, ci⟩
        rintro bR _ ds _ F ⟨ab, ag, ac, ae, rfl, rfl, H, aw⟩
        obtain ⟨dR, c6, rfl, ce, H⟩ := jR H
        unfold w9 at H
        refine fc<|fc<|fa<|Em Z<|Em Z<|?_
        have a6 := ch.mono F
        refine Eq Z (gp (T := fM) a6 rfl rfl)<|Ec Z<|fb<|?_
        refine fp rfl ?_ ?_
        ·intro ak
         obtain ⟨ak, H⟩ := It ak H
         refine fy<|fc<|fC<|fc<|?_
         obtain ⟨bX, cU, H⟩ := bnd H
         obtain ⟨bY, bP, H⟩ := bnd H
         obtain ⟨bZ, dj, cV, H⟩ := iy H
         refine fx _ rfl (Ic Mb0 (Ic Mb1 (Ic Mb2 In0)))<|Jm 0 Z<|Jm 1 Z<|Jm 2 Z<|Jm 4 Z<|Jm 5 Z<|?_
         obtain ⟨_, rfl, cc⟩ := Slr.at a6 bP
         refine Jq 6 Z (Qi (T := fM) a6 bP Z)<|JL 7 5 (fe bY) Z (Rdc.k cc rfl)<|?_
         refine Ao 3 Z ?_
         refine OpW.shift (Pu1 (Sd ?_))
         refine OpW.shift (Pu1 (Sd ?_))
         have bm := (aZ.mono w).mono F
         have bn := (a0.mono w).mono F
         have bo := (a1.mono w).mono F
         have bp := (a2.mono w).mono F
         have bq := (a3.mono w).mono F
         have br := (a4.mono w).mono F
         refine Ek Tryz.call52 Z (nO c i p h o g n f m e l j q a b ac ag ae d bX cU _ _ bm bn bo bp bq br aw) ?_
         rintro _ _ _ - ⟨da, db, rfl, rfl, rfl, cj, ck⟩
         refine ⟨(Ic Mb0 (Ic Mb1 (Ic Mb2 In0))), ?_⟩
         refine Ao 8 Z ?_
         have cl := (a5.mono w).mono F
         refine Ek Tryz.call51 Z (ye p2 y bX da db bY bZ dj cV _ _ cl cj ck) ?_
         rintro _ dt _ I ⟨dc, rfl, rfl, cm⟩
         refine ⟨(Ic Mb0 (Ic Mb1 (Ic Mb2 In0))), ?_⟩
         refine Jm 9 Z<|Jx 10 Z<|Jx 11 Z<|Ja 12 Z<|Ja 13 Z<|Ad<|?_
         refine fA (fun z u t => ∃ (ba : Bool) (ap : SV) (aJ : ad8) (an : List (List Value)), [(0, (Vp c)), (1, (sv x)), (2, (sv y)), (7, (Vi d)), (8, (sv aQ)), (9, (Vi ab)), (63, (.bool ba))] = z ∧ (.blk c 76 [(sv p), (sv o), (sv n), (sv m), (sv l), (sv q), (.bool a), (.bool b), (sv ap)]) :: (.row (sv ap) 9 1 an.flatten) :: (.tok 38 5 [(sv aQ)]) :: G = t ∧ tr p1 p2 d bc ab i h g f e j a b ai c6 rc ba aJ = some (r, s) ∧ RowR Ty.str u an aJ) ?_ ?_
         ·refine fa<|Em Z<|Em Z<|?_
          refine Ee Z ?_ ?_
          ·intro aS
           have H := ift aS H
           refine Vm Z<|Vm Z<|Vm Z<|?_
           obtain ⟨b0, cW, H⟩ := bnd H
           have cn := (((aG.mono A).mono w).mono F).mono I
           refine ij rfl rfl rfl rfl (Ek Tryz.call53 Z (xx p1 x d b0 cW _ _ cn) ?_)
           rintro _ _ _ - ⟨dd, dT, rfl, rfl, rfl, co⟩
           refine Vm Z ?_
           refine Ow.shift (Shift.settle (T := Ty.bool) .here co rfl (fun du P cp => Sd ?_))
           obtain ⟨b1, b2, cX, H⟩ := iy H
           refine Ow.shift (Pu2 (Sd ?_))
           refine Ow.shift (Pu2 (Sd ?_))
           have cq := (bm.mono I).mono P
           have cr := (bn.mono I).mono P
           have cs := (bo.mono I).mono P
           have ct := (bp.mono I).mono P
           have cu := (bq.mono I).mono P
           have cv := (br.mono I).mono P
           have cw := (aw.mono I).mono P
           have cx := cm.mono P
           refine ij rfl rfl rfl rfl (Ek Tryz.call26 Z (ih c i p h o g n f m e l j q a b ac ag ae b0 dd bZ dc b1 b2 cX _ _ cq cr cs ct cu cv cw cp cx) ?_)
           rintro _ dv _ dK ⟨de, c8, rfl, rfl, cy⟩
           exact Et Z<|fb<|Pu3<|Pu2<|Pu2<|Re3<|Sd<|⟨_, by exact R7, b1, de, b2, c8, rfl, rfl, H, cy⟩
          ·intro aS
           have H := f5 (btf aS) H
           refine Ez Z<|Ez Z<|Ez Z<|Ez Z<|Ez Z<|Ez Z<|Ef Z<|fb<|Pu2<|Pu2<|Pu2<|?_
           have cz := aw.mono I
           exact Sd ⟨_, by exact R7, false, ag, ac, ae, rfl, rfl, H, cz⟩
         rintro _ dw _ dL ⟨ba, ap, aJ, an, rfl, rfl, H, bd⟩
         unfold tr at H
         refine fp rfl ?_ ?_
         ·intro aT
          have H := ift aT H
          refine fc<|fa<|Ea Z<|fb<|fz<|?_
          obtain ⟨ar, au⟩ := ig H
          subst r s
          refine ⟨(by first|exact .inl rfl|exact .inr rfl), [(.bool true)], ⟨(.bool true), _, rfl, rfl, rfl⟩, ?_⟩
          exact Pu1<|Pu1<|Re2<|Sd<|⟨ap, an, rfl, rfl, bd⟩
         ·intro aT
          have H := f5 (btf aT) H
          exact fy<|fa<|Em Z<|Er (wI (ab + 1)) Z<|Ea Z<|fb<|Pu2<|Pu2<|Pu2<|Sd<|⟨_, by exact R6, _, Nat.lt_succ_self _, (wI (ab + 1)), ap, aJ, an, rfl, rfl, (ce ▸ H), bd⟩
        ·intro ak
         obtain ⟨ak, H⟩ := If ak H
         exact ge<|Pu1<|Pu1<|Re2<|Sd<|⟨_, by exact R4, ag, ac, ae, rfl, rfl, H, aw⟩
       rintro _ dx _ Q ⟨aR, aI, aN, rfl, rfl, H, cb⟩
       unfold w8 at H
       refine fc<|fa<|Em Z<|Er (wI (d + 1)) Z<|Ea Z<|fb<|fC<|?_
       refine ga (fun bS z u t => ∃ (E : Int) (N : SV) (L : ad8) (M : List (List Value)), [(0, (Vp c)), (1, (sv x)), (2, (sv y)), (7, (Vi d)), (12, (Vi E))] = z ∧ (.blk c 76 [(sv p), (sv o), (sv n), (sv m), (sv l), (sv q), (.bool a), (.bool b), (sv N)]) :: (.row (sv N) 9 1 M.flatten) :: G = t ∧ lp2 (wZ p1 p2 d i h g f e j a b ai rc) bS E L = some (r, s) ∧ RowR Ty.str u M L) BIG ?_ ?_
       ·exact Pu1<|Pu1<|Sd<|⟨_, by exact R5, (wI (d + 1)), aR, aI, aN, rfl, rfl, H, cb⟩
       rintro bS _ dy _ R ⟨E, N, L, M, rfl, rfl, H, ax⟩
       obtain ⟨dS, c7, rfl, cf, H⟩ := jR H
       unfold wZ at H
       refine fc<|fc<|fa<|Em Z<|Em Z<|?_
       have a7 := (((aG.mono A).mono w).mono Q).mono R
       refine Eq Z (gp (T := Ty.bool) a7 rfl rfl)<|Ec Z<|fb<|?_
       refine fp rfl ?_ ?_
       ·intro al
        obtain ⟨al, H⟩ := It al H
        refine fy<|fc<|fC<|?_
        refine fA (fun z u t => ∃ (bb : Bool) (aq : SV) (aK : ad8) (ao : List (List Value)), [(0, (Vp c)), (1, (sv x)), (2, (sv y)), (7, (Vi d)), (12, (Vi E)), (92, (.bool bb))] = z ∧ (.blk c 76 [(sv p), (sv o), (sv n), (sv m), (sv l), (sv q), (.bool a), (.bool b), (sv aq)]) :: (.row (sv aq) 9 1 ao.flatten) :: G = t ∧ qa p1 p2 d E i h g f e j a b ai c7 rc bb aK = some (r, s) ∧ RowR Ty.str u ao aK) ?_ ?_
        ·refine fa<|Em Z<|Em Z<|Em Z<|?_
         obtain ⟨dk, cY, H⟩ := bnd H
         refine Ow.shift (Pu1 (Sd ?_))
         refine Ow.shift (Pu1 (Sd ?_))
         have bs := ((aZ.mono w).mono Q).mono R
         have bt := ((a0.mono w).mono Q).mono R
         have bu := ((a1.mono w).mono Q).mono R
         have bv := ((a2.mono w).mono Q).mono R
         have bw := ((a3.mono w).mono Q).mono R
         have bx := ((a4.mono w).mono Q).mono R
         refine ff rfl (Ek Tryz.call49 Z (yi c i p h o g n f m e l j q a b L N M p1 x E dk cY _ _ bs bt bu bv bw bx ax a7) ?_)
         rintro _ dz _ B ⟨rfl, rfl⟩
         refine Em Z ?_
         refine Ee Z ?_ ?_
         ·intro aU
          have H := ift aU H
          refine Vm Z<|Vm Z<|Vm Z<|Vm Z<|?_
          obtain ⟨dl, cZ, H⟩ := bnd H
          refine Ow.shift (Pu1 (Sd ?_))
          refine Ow.shift (Pu1 (Sd ?_))
          have bz := bs.mono B
          have bA := bt.mono B
          have bB := bu.mono B
          have bC := bv.mono B
          have bD := bw.mono B
          have bE := bx.mono B
          have a8 := ax.mono B
          have bF := (((a5.mono w).mono Q).mono R).mono B
          refine ij rfl rfl rfl rfl (Ek Tryz.call54 Z (DL c i p h o g n f m e l j q a b L N M p2 y d E dl cZ _ _ bz bA bB bC bD bE a8 bF) ?_)
          rintro _ dA _ C ⟨rfl, rfl⟩
          refine Et Z<|Em Z<|?_
          refine Ee Z ?_ ?_
          ·intro aV
           have H := ift aV H
           refine Vm Z<|Vm Z<|Vm Z<|?_
           obtain ⟨b3, c0, H⟩ := bnd H
           have cA := (a7.mono B).mono C
           refine ij rfl rfl rfl rfl (Ek Tryz.call53 Z (xx p1 x d b3 c0 _ _ cA) ?_)
           rintro _ _ _ - ⟨df, dU, rfl, rfl, rfl, cB⟩
           refine Vm Z ?_
           refine Ow.shift (Shift.settle (T := Ty.bool) .here cB rfl (fun dB S cC => Sd ?_))
           obtain ⟨b4, c1, H⟩ := bnd H
           refine ij rfl rfl rfl rfl (Ek Tryz.call53 Z (xx b3 df E b4 c1 _ _ cC) ?_)
           rintro _ _ _ - ⟨dg, dV, rfl, rfl, rfl, cD⟩
           refine Vm Z ?_
           refine Ow.shift (Shift.settle (T := Ty.bool) .here cD rfl (fun dC U cE => Sd ?_))
           obtain ⟨b5, b6, c2, H⟩ := iy H
           refine Ow.shift (Pu3 (Sd ?_))
           refine Ow.shift (Pu3 (Sd ?_))
           have cF := ((bz.mono C).mono S).mono U
           have cG := ((bA.mono C).mono S).mono U
           have cH := ((bB.mono C).mono S).mono U
           have cI := ((bC.mono C).mono S).mono U
           have cJ := ((bD.mono C).mono S).mono U
           have cK := ((bE.mono C).mono S).mono U
           have cL := ((a8.mono C).mono S).mono U
           have cM := ((bF.mono C).mono S).mono U
           refine ij rfl rfl rfl rfl (Ek Tryz.call26 Z (ih c i p h o g n f m e l j q a b L N M b4 dg p2 y b5 b6 c2 _ _ cF cG cH cI cJ cK cL cE cM) ?_)
           rintro _ dD _ dM ⟨dh, c9, rfl, rfl, cN⟩
           exact Et Z<|fb<|Pu1<|Pu1<|Re2<|Re2<|Sd<|⟨_, by exact R6, b5, dh, b6, c9, rfl, rfl, H, cN⟩
          ·intro aV
           have H := f5 (btf aV) H
           refine Ez Z<|Ez Z<|Ez Z<|Ez Z<|Ez Z<|Ez Z<|Ez Z<|Ez Z<|Ef Z<|fb<|Pu1<|Pu1<|?_
           have cO := a8.mono C
           exact Sd ⟨_, by exact R6, false, N, L, M, rfl, rfl, H, cO⟩
         ·intro aU
          have H := f5 (btf aU) H
          refine Ez Z<|Ez Z<|Ez Z<|Ez Z<|Ez Z<|Ef Z<|Em Z<|Ez Z<|Ez Z<|Ez Z<|Ez Z<|Ez Z<|Ez Z<|Ez Z<|Ez Z<|Ef Z<|fb<|Pu1<|Pu1<|?_
          have cP := ax.mono B
          exact Sd ⟨_, by exact R6, false, N, L, M, rfl, rfl, H, cP⟩
        rintro _ dE _ dN ⟨bb, aq, aK, ao, rfl, rfl, H, be⟩
        unfold qa at H
        refine fp rfl ?_ ?_
        ·intro aW
         have H := ift aW H
         refine fc<|fa<|Ea Z<|fb<|fz<|?_
         obtain ⟨ar, au⟩ := ig H
         subst r s
         refine ⟨(by first|exact .inl rfl|exact .inr rfl), [(.bool true)], ⟨(.bool true), _, rfl, rfl, rfl⟩, ?_⟩
         exact Pu1<|Pu1<|Sd<|⟨aq, ao, rfl, rfl, be⟩
        ·intro aW
         have H := f5 (btf aW) H
         exact fy<|fa<|Em Z<|Er (wI (E + 1)) Z<|Ea Z<|fb<|Pu1<|Pu1<|Sd<|⟨_, by exact R5, _, Nat.lt_succ_self _, (wI (E + 1)), aq, aK, ao, rfl, rfl, (cf ▸ H), be⟩
       ·intro al
        obtain ⟨al, H⟩ := If al H
        exact ge<|Pu1<|Pu1<|Sd<|⟨_, by exact R4, N, L, M, rfl, rfl, H, ax⟩
     rintro _ dF _ dO ⟨aP, aH, aM, rfl, rfl, H, ca⟩
     unfold pn at H
     exact fa<|Em Z<|Er (wI (d + 1)) Z<|Ea Z<|fb<|Pu1<|Pu1<|Sd<|⟨_, by exact R4, _, Nat.lt_succ_self _, (wI (d + 1)), aP, aH, aM, rfl, rfl, (cd ▸ H), ca⟩
    ·intro aj
     obtain ⟨aj, H⟩ := If aj H
     exact ge<|Pu1<|Pu1<|Sd<|⟨[], trivial, Y, W, X, rfl, rfl, H, av⟩
   rintro _ dG _ dP ⟨aO, a9, aL, rfl, rfl, H, b9⟩
   unfold wY at H
   refine fc<|fa<|Ea Z<|fb<|fz<|?_
   obtain ⟨ar, au⟩ := ig H
   subst r s
   refine ⟨(by first|exact .inl rfl|exact .inr rfl), [(.bool false)], ⟨(.bool false), _, rfl, rfl, rfl⟩, ?_⟩
   exact Pu1<|Pu1<|Sd<|⟨aO, aL, rfl, rfl, b9⟩
theorem C6 (p0 : fP) (h : SV) (i : SV) (p1 : ae4) (X : SV) (p2 : ad6) (Y : SV) (B : Bool) (H : po p0 p1 p2 = some B) (K : Kp) (G : List Ent) (E : Slr Ty.i64 K (sv h) p0.capacities) (F : Slr Ty.u64 K (sv i) p0.starts) (an : Slr (Ty.sl hQ) K (sv X) p1) (ao : Slr f7 K (sv Y) p2) :
  Fc Tryz.prog 11 #[(.agg (fq p0 h i).toArray), (sv X), (sv Y)] K (G) (fun v K' C => v = (.bool B) ∧ G = C) := by
 refine fN Tryz.func11 rfl Tryz.ntmps11 Tryz.results11 rfl ?_
 unfold po at H
 refine fc<|fa<|?_
 refine ff rfl (fU (cs := (fq p0 h i)) rfl rfl rfl (fun bn => ?_))
 refine Ea Z<|fb<|fc<|fa<|Em Z<|Em Z<|?_
 obtain ⟨s, t, u, w, x, y, z, A, a5, H⟩ := bnd8 H
 refine ff rfl (Ek Tryz.call25 Z (Dz p1 X p2 Y false false s t u w x y z A a5 _ _ an ao) ?_)
 rintro _ bc _ j ⟨D, R, S, q, U, V, W, rfl, rfl, I, J, o, L, M, N⟩
 refine Ea Z<|fb<|?_
 refine fA (fun ag K' C => ∃ (p : Bool), [(6, (.bool p))] = ag ∧ G = C ∧ xb p = some B) ?_ ?_
 ·obtain ⟨aa, O, H⟩ := bnd H
  obtain ⟨m, P, H⟩ := bnd H
  obtain ⟨n, ab, Q, H⟩ := iy H
  refine fx _ rfl (Ic Mb1 (Ic Mb2 (Ic Mb3 (Ic Mb4 (Ic Mb5 In0)))))<|Jm 0 Z<|Jm 1 Z<|Jq 2 Z (fD rfl)<|JF 3 2 Z<|JL 7 3 (fq p0 h i) Z (Rb4 Z)<|?_
  refine gX 4 8 (by kernel_rfl) ?_ ?_
  ·refine id (Jyq Z (gv (v := (sv q)) rfl rfl rfl (Rb0 Z)) ⟨(Ic Mb1 (Ic Mb2 (Ic Mb3 (Ic Mb4 (Ic Mb5 In0))))), ?_⟩)
   refine Jq 5 Z (gp (T := io) o rfl rfl) ?_
   refine gX 6 8 (by kernel_rfl) ?_ ?_
   ·refine id (Jy Z ?_)
    refine jK (T := Ty.bool) (r := [(.bool false)]) rfl rfl rfl O rfl rfl rfl rfl rfl rfl rfl rfl rfl rfl (fun a6 bA ah bw => ⟨(Ic Mb2 (Ic Mb3 (Ic Mb4 (Ic Mb5 (Ic Mb6 In0))))), ?_⟩)
    refine Ao 8 Z ?_
    have ap := E.mono j
    have aq := F.mono j
    refine Ek Tryz.call27 Z (qD p0 h i m P _ _ ap aq) ?_
    rintro _ bd _ a ⟨a7, bB, rfl, rfl, ar⟩
    refine ⟨(Ic Mb4 (Ic Mb5 (Ic Mb6 (Ic Mb7 (Ic Mb8 In0))))), ?_⟩
    refine Ao 9 Z ?_
    have av := ah.mono a
    refine OpW.shift (Shift.settle (T := Ty.bool) (.there (.there .here)) av rfl (fun be b au => Sd ?_))
    have ax := ar.mono b
    refine OpW.shift (Shift.settle (T := fK) .here ax rfl (fun ad c aw => Sd ?_))
    have ai : RowR Ty.str ad [] [] := RowR.nil
    refine OpW.shift (Shift.nilRow 9 1 (Sd ?_))
    refine OpW.shift (Pu4 (Sd ?_))
    have ay := ((I.mono a).mono b).mono c
    have az := ((J.mono a).mono b).mono c
    have aA := ((o.mono a).mono b).mono c
    have aB := ((L.mono a).mono b).mono c
    have aC := ((M.mono a).mono b).mono c
    have aD := ((N.mono a).mono b).mono c
    have aE := au.mono c
    refine Ek Tryz.call26 Z (xr 100 D s R t S u q w U x V y W z A ([] : ad8) fB ([] : List (List Value)) aa a6 m a7 n ab Q _ _ ay az aA aB aC aD ai aE aw) ?_
    rintro _ bf _ bp ⟨bJ, bC, rfl, rfl, bt⟩
    refine ⟨(Ic Mb5 (Ic Mb6 (Ic Mb7 (Ic Mb8 (Ic Mb9 In0))))), ?_⟩
    exact Ja 10 Z<|Ad<|Re0<|Re0<|Re0<|Re0<|Re0<|Re0<|Re0<|Re0<|Re0<|Re0<|Sd<|⟨_, by exact R1, n, rfl, rfl, H⟩
   ·refine id (Jy Z ?_)
    have aF := E.mono j
    have aG := F.mono j
    refine Ek Tryz.call27 Z (qD p0 h i m P _ _ aF aG) ?_
    rintro _ bg _ k ⟨a8, bD, rfl, rfl, aH⟩
    refine ⟨(Ic Mb3 (Ic Mb4 (Ic Mb5 (Ic Mb6 (Ic Mb7 In0))))), ?_⟩
    refine Ao 6 Z ?_
    refine jK (T := Ty.bool) (r := [(.bool false)]) rfl rfl rfl O rfl rfl rfl rfl rfl rfl rfl rfl rfl rfl (fun a9 bE aj bx => ⟨(Ic Mb4 (Ic Mb5 (Ic Mb6 (Ic Mb7 (Ic Mb8 In0))))), ?_⟩)
    refine Ao 9 Z ?_
    refine OpW.shift (Shift.settle (T := Ty.bool) .here aj rfl (fun bh d aI => Sd ?_))
    have aK := aH.mono d
    refine OpW.shift (Shift.settle (T := fK) (.there .here) aK rfl (fun ae e aJ => Sd ?_))
    have ak : RowR Ty.str ae [] [] := RowR.nil
    refine OpW.shift (Shift.nilRow 9 1 (Sd ?_))
    refine OpW.shift (Pu4 (Sd ?_))
    have aL := ((I.mono k).mono d).mono e
    have aM := ((J.mono k).mono d).mono e
    have aN := ((o.mono k).mono d).mono e
    have aO := ((L.mono k).mono d).mono e
    have aP := ((M.mono k).mono d).mono e
    have aQ := ((N.mono k).mono d).mono e
    have aR := aI.mono e
    refine Ek Tryz.call26 Z (xr 100 D s R t S u q w U x V y W z A ([] : ad8) fB ([] : List (List Value)) aa a9 m a8 n ab Q _ _ aL aM aN aO aP aQ ak aR aJ) ?_
    rintro _ bi _ bq ⟨bK, bF, rfl, rfl, bu⟩
    refine ⟨(Ic Mb5 (Ic Mb6 (Ic Mb7 (Ic Mb8 (Ic Mb9 In0))))), ?_⟩
    exact Ja 10 Z<|Ad<|Re0<|Re0<|Re0<|Re0<|Re0<|Re0<|Re0<|Re0<|Re0<|Re0<|Sd<|⟨_, by exact R1, n, rfl, rfl, H⟩
  ·refine id (Jy Z ?_)
   have aS := E.mono j
   have aT := F.mono j
   refine Ek Tryz.call27 Z (qD p0 h i m P _ _ aS aT) ?_
   rintro _ bj _ l ⟨ba, bG, rfl, rfl, aU⟩
   refine ⟨(Ic Mb3 (Ic Mb4 (Ic Mb5 (Ic Mb6 (Ic Mb7 In0))))), ?_⟩
   refine gG 4 (by kernel_rfl) (Jyq Z (gv (v := (sv q)) rfl rfl rfl (Rb2 Z)) ⟨(Ic Mb3 (Ic Mb4 (Ic Mb5 (Ic Mb6 (Ic Mb7 In0))))), ?_⟩)
   refine Jq 5 Z (gp (T := io) o rfl rfl) ?_
   refine Ao 6 Z ?_
   refine jK (T := Ty.bool) (r := [(.bool false)]) rfl rfl rfl O rfl rfl rfl rfl rfl rfl rfl rfl rfl rfl (fun bb bH al bz => ⟨(Ic Mb4 (Ic Mb5 (Ic Mb6 (Ic Mb7 (Ic Mb8 In0))))), ?_⟩)
   refine Ao 9 Z ?_
   refine OpW.shift (Shift.settle (T := Ty.bool) .here al rfl (fun bk f aV => Sd ?_))
   have aX := aU.mono f
   refine OpW.shift (Shift.settle (T := fK) (.there .here) aX rfl (fun af g aW => Sd ?_))
   have am : RowR Ty.str af [] [] := RowR.nil
   refine OpW.shift (Shift.nilRow 9 1 (Sd ?_))
   refine OpW.shift (Pu4 (Sd ?_))
   have aY := ((I.mono l).mono f).mono g
   have aZ := ((J.mono l).mono f).mono g
   have a0 := ((o.mono l).mono f).mono g
   have a1 := ((L.mono l).mono f).mono g
   have a2 := ((M.mono l).mono f).mono g
   have a3 := ((N.mono l).mono f).mono g
   have a4 := aV.mono g
   refine Ek Tryz.call26 Z (xr 100 D s R t S u q w U x V y W z A ([] : ad8) fB ([] : List (List Value)) aa bb m ba n ab Q _ _ aY aZ a0 a1 a2 a3 am a4 aW) ?_
   rintro _ bl _ br ⟨bL, bI, rfl, rfl, bv⟩
   refine ⟨(Ic Mb5 (Ic Mb6 (Ic Mb7 (Ic Mb8 (Ic Mb9 In0))))), ?_⟩
   exact Ja 10 Z<|Ad<|Re0<|Re0<|Re0<|Re0<|Re0<|Re0<|Re0<|Re0<|Re0<|Re0<|Sd<|⟨_, by exact R1, n, rfl, rfl, H⟩
 rintro _ bm _ bs ⟨p, rfl, rfl, H⟩
 unfold xb at H
 refine fz ?_
 obtain bo := gu H
 subst B
 refine ⟨(by first|exact .inl rfl|exact .inr rfl), [(.bool p)], ⟨(.bool p), _, rfl, rfl, rfl⟩, ?_⟩
 exact Sd ⟨rfl, rfl⟩
end Go.Hx
namespace Go.Hx
open Go Go.Proofs
set_option maxRecDepth 10000
set_option maxHeartbeats 1000000
theorem DX (p0 : ad1) (m : SV) (p1 : Int) (p2 : Int) (p3 : Int) (g : Bool) (H : xd p0 p1 p2 p3 = some g) (K : Kp) (G : List Ent) (J : Slr Ty.u8 K (sv m) p0) (hT : m3 K) :
  Fc Tryz.prog 3 #[(sv m), (Vi p1), (.int .u8 p2), (.int .u8 p3)] K (G) (fun v K' F => v = (.bool g) ∧ G = F) := by
 refine fN Tryz.func3 rfl Tryz.ntmps3 Tryz.results3 rfl ?_
 unfold xd at H
 refine fc<|fa<|Ea Z<|fb<|fc<|fc<|fa<|?_
 obtain ⟨ag, ad, H⟩ := bnd H
 refine ff rfl (Ek Tryz.call7 Z (DU  ag ad _ _ hT) ?_)
 rintro _ an _ s ⟨rfl, rfl⟩
 refine Eq Z (gg rfl)<|fb<|?_
 refine fp rfl ?_ ?_
 ·intro e
  have e := iC e
  have H := f5 (btf e) H
  refine fc<|fa<|Ea Z<|fb<|fz<|?_
  obtain r := gu H
  subst g
  refine ⟨(by first|exact .inl rfl|exact .inr rfl), [(.bool false)], ⟨(.bool false), _, rfl, rfl, rfl⟩, ?_⟩
  exact Sd ⟨rfl, rfl⟩
 ·intro e
  have e := iz e
  have H := ift e H
  refine fy<|fc<|fa<|Em Z<|?_
  obtain ⟨a, k, q, ae, H⟩ := li H
  have U := J.mono s
  refine ff rfl (Ek Tryz.call8 Z (C5 p0 m 7 a k q ae _ _ U) ?_)
  rintro _ ao _ I ⟨b, c, l, au, E, rfl, rfl, V, W, X, L⟩
  refine Em Z<|Ex Z<|Ex Z<|Ex Z<|?_
  refine ff rfl (fE (cs := (fq (fP.mk [] [] 0) fB fB)) rfl rfl rfl rfl (fun ap => ?_))
  refine ff rfl (fm (vs := (fq a b c)) (all' := (fq a b c)) rfl rfl rfl rfl rfl .here rfl rfl rfl ?_)
  refine Ea Z<|Ea Z<|fb<|fc<|fc<|fa<|EL 3 (fq a b c) Z (Rb0 Z)<|Em Z<|Em Z<|?_
  refine Ow.shift (Shift.settle (T := (Ty.sl hQ)) (.there (.there (.there .here))) X rfl (fun ai h t => Sd ?_))
  obtain ⟨af, Y, H⟩ := bnd H
  have u := V.mono h
  have w := W.mono h
  have x := L.mono h
  have y := ((hT.mono s).mono I).mono h
  refine ff rfl (Ek Tryz.call9 Z (qC a b c k l q E af Y _ _ u w t x y) ?_)
  rintro _ aj _ f ⟨rfl, rfl⟩
  refine Eq Z (gg rfl)<|fb<|?_
  refine fp rfl ?_ ?_
  ·intro d
   have d := iC d
   have H := f5 (btf d) H
   refine fc<|fa<|Ea Z<|fb<|fz<|?_
   obtain r := gu H
   subst g
   refine ⟨(by first|exact .inl rfl|exact .inr rfl), [(.bool false)], ⟨(.bool false), _, rfl, rfl, rfl⟩, ?_⟩
   exact Re0<|Re0<|Re0<|Re0<|Re0<|Sd<|⟨rfl, rfl⟩
  ·intro d
   have d := iz d
   have H := ift d H
   refine fy<|fc<|fa<|Em Z<|Em Z<|Em Z<|Em Z<|?_
   obtain ⟨n, aa, H⟩ := bnd H
   have M := x.mono f
   refine ff rfl (Ek Tryz.call10 Z (Dw q E p1 p2 p3 n aa _ _ M) ?_)
   rintro _ _ _ - ⟨D, ar, rfl, rfl, rfl, N⟩
   refine Ea Z<|fb<|fc<|?_
   obtain ⟨o, ab, H⟩ := bnd H
   obtain ⟨p, ac, H⟩ := bnd H
   refine fx _ rfl (Ic Mb1 (Ic Mb2 (Ic Mb3 (Ic Mb4 (Ic Mb5 In0)))))<|JL 0 3 (fq a b c) Z (Rb0 Z)<|Jm 1 Z<|Jm 2 Z<|JL 4 3 (fq a b c) Z (Rb0 Z)<|Jm 5 Z<|Jm 6 Z<|?_
   refine Ao 3 Z ?_
   refine OpW.shift (Shift.settle (T := f7) .here N rfl (fun ak i z => Sd ?_))
   have A := (u.mono f).mono i
   have B := (w.mono f).mono i
   have C := (t.mono f).mono i
   have O := (y.mono f).mono i
   refine Ek Tryz.call9 Z (qC a b c k l n D o ab _ _ A B C z O) ?_
   rintro _ al _ j ⟨rfl, rfl⟩
   refine ⟨(Ic Mb1 (Ic Mb2 (Ic Mb3 (Ic Mb4 (Ic Mb5 In0))))), ?_⟩
   refine Ao 7 Z ?_
   have P := A.mono j
   have Q := B.mono j
   have R := C.mono j
   have S := z.mono j
   refine Ek Tryz.call11 Z (C6 a b c k l n D p ac _ _ P Q R S) ?_
   rintro _ am _ aq ⟨rfl, rfl⟩
   refine ⟨(Ic Mb1 (Ic Mb2 (Ic Mb3 (Ic Mb4 (Ic Mb5 In0))))), ?_⟩
   refine Jq 8 Z (xg rfl rfl rfl)<|Ja 9 Z<|Ad<|fz<|?_
   obtain r := gu H
   subst g
   refine ⟨(by first|exact .inl rfl|exact .inr rfl), [(.bool (o == p))], ⟨(.bool (o == p)), _, rfl, rfl, rfl⟩, ?_⟩
   exact Re0<|Re0<|Re0<|Re0<|Re0<|Re0<|Sd<|⟨rfl, rfl⟩
end Go.Hx
