
import Derived.Test.YtcopfjjpiobclaaGreatDoorXSM
import Derived.Test.YtcopfjjpiobclaaGreatDoorXSWDraw
import Derived.Test.YtcopfjjpiobclaaGreatDoorXSWStrconv
namespace Go.Hx
open Go Go.Proofs
set_option linter.unusedSimpArgs false
set_option linter.unusedVariables false
set_option maxRecDepth 10000
set_option maxHeartbeats 1000000
theorem Qn (d : Nat) (p0 : NQ) (p : SV) (h : Int) (e : ab3) (i : Bool) (H : VE p0 = some (h, e, i)) (K : Kp) (G : List Ent) (z : Slr Ty.str K (sv p) p0.words) (hT : TabK K) :
  Fc Tryz.prog 54 #[(Vp d)] K ((.blk d 90 (N3 p0 p)) :: G) (fun v j m => ∃ (s : SV), v = (Vi h) ∧ K = j ∧ (.blk d 90 (N3 (NQ.mk e i) s)) :: G = m ∧ Slr Ty.str j (sv s) e) := by
 refine Om Tryz.func54 Z Tryz.ntmps54 Tryz.results54 Z ?_
 unfold VE at H
 refine NK<|NH<|Ea Z<|NI<|NK<|NH<|Em Z<|?_
 obtain ⟨t, l, q, B, H⟩ := PP H
 refine NP Z (Ek Tryz.call53 Z (TY d p0 p t l q B _ _ z) ?_)
 rintro _ _ _ - ⟨k, rfl, rfl, rfl, r⟩
 refine Ea Z<|NI<|NK<|NH<|Em Z<|?_
 obtain ⟨c, E, C, H⟩ := O4 H
 refine NP Z (Ek Tryz.call80 Z (abQ t c E C _ _ hT) ?_)
 rintro _ _ _ - ⟨I, rfl, rfl, rfl, A⟩
 refine Em Z<|Ex Z<|Ex Z<|Ea Z<|Ea Z<|NI<|NK<|?_
 refine Ob (fun u j m => ∃ (g : Int) (o : Bool), [(0, (Vp d)), (4, (Vi g)), (28, (.bool o))] = u ∧ K = j ∧ (.blk d 90 (N3 (NQ.mk l q) k)) :: G = m ∧ Wh l q g o = some (h, e, i)) ?_ ?_
 ·refine NH<|Em Z<|Eq Z (ZL A Z Z)<|Em Z<|?_
  refine Ee Z ?_ ?_
  ·intro a
   have a := Py a
   have H := OF (btf a) H
   exact Ez Z<|Ez Z<|Ez Z<|Ez Z<|Et Z<|Em Z<|Ez Z<|Ez Z<|Et Z<|Em Z<|Ez Z<|Ez Z<|Et Z<|NI<|Sd<|⟨_, by exact R3, c, true, Z, Z, Z, H⟩
  ·intro a
   have a := Px a
   have H := ift a H
   refine Vm Z ?_
   obtain ⟨F, D, H⟩ := bnd H
   refine QM Z Z Z Z (Ek Tryz.call63 Z (Yu c F D _ _ hT) ?_)
   rintro _ _ _ - ⟨rfl, rfl, rfl⟩
   refine Vm Z<|Vq Z (Q2 Z Z)<|Ef Z<|Em Z<|?_
   refine Ee Z ?_ ?_
   ·intro b
    have b := Pg (Py (b))
    have H := OF b H
    exact Ez Z<|Ez Z<|Et Z<|Em Z<|Ez Z<|Ez Z<|Et Z<|NI<|Sd<|⟨_, by exact R3, c, true, Z, Z, Z, H⟩
   ·intro b
    have b := Ph (Px (b))
    have H := ift b H
    refine Vm Z<|Vc Z<|Ef Z<|Em Z<|?_
    refine Ee Z ?_ ?_
    ·intro f
     obtain ⟨f, H⟩ := It f H
     exact Ez Z<|Ez Z<|Et Z<|NI<|Sd<|⟨_, by exact R3, c, true, Z, Z, Z, H⟩
    ·intro f
     obtain ⟨f, H⟩ := If f H
     exact Vm Z<|Vc Z<|Ef Z<|NI<|Sd<|⟨_, by exact R3, c, (dcd (c > 1099511627776)), Z, Z, Z, H⟩
 rintro _ _ _ - ⟨g, o, rfl, rfl, rfl, H⟩
 unfold Wh at H
 refine NW Z ?_ ?_
 ·intro n
  have H := ift n H
  refine NK<|NH<|Em Z<|Eq Z (NR Z)<|EF 1 Z<|?_
  refine NP Z (So [(.bool true)] (N3 (NQ.mk l true) k) Z .here Z ?_)
  refine NI<|NK<|NH<|Ea Z<|NI<|N5<|?_
  obtain ⟨w, y, x⟩ := P6 H
  subst h e i
  refine ⟨(.inl Z), [(Vi 0)], ⟨(Vi 0), _, Z, Z, Z⟩, ?_⟩
  exact Sd ⟨k, Z, Z, Z, r⟩
 ·intro n
  have H := OF (btf n) H
  refine N2<|NK<|NH<|Em Z<|Ea Z<|NI<|N5<|?_
  obtain ⟨w, y, x⟩ := P6 H
  subst h e i
  refine ⟨(.inl Z), [(Vi g)], ⟨(Vi g), _, Z, Z, Z⟩, ?_⟩
  exact Sd ⟨k, Z, Z, Z, r⟩

theorem SI (b : Nat) (p0 : NQ) (m : SV) (e : Int) (c : ab3) (f : Bool) (H : Vg p0 = some (e, c, f)) (K : Kp) (G : List Ent) (w : Slr Ty.str K (sv m) p0.words) (hT : TabK K) :
  Fc Tryz.prog 55 #[(Vp b)] K ((.blk b 90 (N3 p0 m)) :: G) (fun v g j => ∃ (p : SV), v = (.int .u64 e) ∧ K = g ∧ (.blk b 90 (N3 (NQ.mk c f) p)) :: G = j ∧ Slr Ty.str g (sv p) c) := by
 refine Om Tryz.func55 Z Tryz.ntmps55 Tryz.results55 Z ?_
 unfold Vg at H
 refine NK<|NH<|Ea Z<|NI<|NK<|NH<|Em Z<|?_
 obtain ⟨x18, x19, n, y, H⟩ := PP H
 refine NP Z (Ek Tryz.call53 Z (TY b p0 m x18 x19 n y _ _ w) ?_)
 rintro _ _ _ - ⟨h, rfl, rfl, rfl, o⟩
 refine Ea Z<|NI<|NK<|NH<|Em Z<|?_
 obtain ⟨i, B, z, H⟩ := O4 H
 refine NP Z (Ek Tryz.call81 Z (abR x18 10 64 i B z _ _ hT) ?_)
 rintro _ _ _ - ⟨C, rfl, rfl, rfl, x⟩
 refine Em Z<|Ex Z<|Ex Z<|Ea Z<|Ea Z<|NI<|NK<|?_
 refine Ob (fun r g j => ∃ (d : Int) (l : Bool), [(0, (Vp b)), (4, (.int .u64 d)), (20, (.bool l))] = r ∧ K = g ∧ (.blk b 90 (N3 (NQ.mk x19 n) h)) :: G = j ∧ Wi x19 n d l = some (e, c, f)) ?_ ?_
 ·refine NH<|Em Z<|Eq Z (ZL x Z Z)<|Em Z<|?_
  refine Ee Z ?_ ?_
  ·intro a
   have a := Py a
   have H := OF (btf a) H
   exact Ez Z<|Ez Z<|Ez Z<|Ez Z<|Et Z<|NI<|Sd<|⟨_, by exact R3, i, true, Z, Z, Z, H⟩
  ·intro a
   have a := Px a
   have H := ift a H
   refine Vm Z ?_
   obtain ⟨q, A, H⟩ := bnd H
   refine QM Z Z Z Z (Ek Tryz.call64 Z (Yv i 10 q A _ _ hT) ?_)
   rintro _ _ _ - ⟨rfl, rfl, rfl⟩
   exact Vm Z<|Vq Z (Q2 Z Z)<|Ef Z<|NI<|Sd<|⟨_, by exact R3, i, (!(dcd (q = x18))), Z, Z, Z, H⟩
 rintro _ _ _ - ⟨d, l, rfl, rfl, rfl, H⟩
 unfold Wi at H
 refine NW Z ?_ ?_
 ·intro k
  have H := ift k H
  refine NK<|NH<|Em Z<|Eq Z (NR Z)<|EF 1 Z<|?_
  refine NP Z (So [(.bool true)] (N3 (NQ.mk x19 true) h) Z .here Z ?_)
  refine NI<|NK<|NH<|Ea Z<|NI<|N5<|?_
  obtain ⟨s, u, t⟩ := P6 H
  subst e c f
  refine ⟨(.inl Z), [(.int .u64 0)], ⟨(.int .u64 0), _, Z, Z, Z⟩, ?_⟩
  exact Sd ⟨h, Z, Z, Z, o⟩
 ·intro k
  have H := OF (btf k) H
  refine N2<|NK<|NH<|Em Z<|Ea Z<|NI<|N5<|?_
  obtain ⟨s, u, t⟩ := P6 H
  subst e c f
  refine ⟨(.inl Z), [(.int .u64 d)], ⟨(.int .u64 d), _, Z, Z, Z⟩, ?_⟩
  exact Sd ⟨h, Z, Z, Z, o⟩

theorem abi (b : Nat) (p0 : NQ) (bx : SV) (u : Op) (z : ab3) (C : Bool) (H : Uf p0 = some (u, z, C)) (K : Kp) (G : List Ent) (cG : Slr Ty.str K (sv bx) p0.words) (hT : TabK K) :
  Fc Tryz.prog 52 #[(Vp b)] K ((.blk b 90 (N3 p0 bx)) :: G) (fun v c e => ∃ (bz bA cj : SV), v = (.agg (NL u bz bA).toArray) ∧ (.blk b 90 (N3 (NQ.mk z C) cj)) :: (.tok 101 3 [(sv bz)]) :: (.tok 3 1 [(sv bA)]) :: G = e ∧ Slr Oa c (sv bz) u.cases ∧ Slr Ty.i64 c (sv bA) u.draws ∧ Slr Ty.str c (sv cj) z) := by
 refine Om Tryz.func52 Z Tryz.ntmps52 Tryz.results52 Z ?_
 unfold Uf at H
 refine NK<|NH<|?_
 refine NP Z (Ox (cs := (NL (Op.mk 0 0 0 0 0 [] []) NY NY)) Z Z Z Z (fun h => ?_))
 refine NI<|NK<|NH<|?_
 refine NP Z (Ox (cs := (NL (Op.mk 0 0 0 0 0 [] []) NY NY)) Z Z Z Z (fun i => ?_))
 refine NI<|NK<|NH<|Em Z<|?_
 obtain ⟨a, O, al, dv, H⟩ := PP H
 refine Ow.shift (Pu2 (Sd ?_))
 refine NP Z (Ek Tryz.call53 Z (TY b p0 bx a O al dv _ _ cG) ?_)
 rintro _ _ _ - ⟨ah, rfl, rfl, rfl, bd⟩
 refine Ea Z<|NI<|?_
 refine Ob (fun j c e => [(0, (Vp b)), (2, (Vp h)), (3, (Vp i))] = j ∧ K = c ∧ (.blk b 90 (N3 (NQ.mk O al) ah)) :: (.blk i 70 (NL (Op.mk (Po OA a 0) 0 0 0 0 [] []) NY NY)) :: (.blk h 70 (NL (Op.mk 0 0 0 0 0 [] []) NY NY)) :: G = e ∧ Ue O al a = some (u, z, C)) ?_ ?_
 ·refine NK<|NH<|?_
  obtain ⟨bF, dZ, dY, a1, am, D⟩ := (hT).wrd
  refine El (.map (some bF)) Z (Rdc.g D.cell) ?_
  refine NP Z (ada Z Z (D).obj Z (fun cb => ?_))
  refine NI<|N4<|?_
  refine On (fun ca j c e => ∃ (aO : Array Nat) (a0 : Nat) (av : Int), [(0, (Vp b)), (2, (Vp h)), (3, (Vp i)), (4, (.string a)), (10, (.pointer (some ⟨cb, 0, none⟩)))] = j ∧ K = c ∧ (.obj cb (.mapIter (some bF) am aO a0)) :: (.blk b 90 (N3 (NQ.mk O al) ah)) :: (.blk i 70 (NL (Op.mk av 0 0 0 0 [] []) NY NY)) :: (.blk h 70 (NL (Op.mk 0 0 0 0 0 [] []) NY NY)) :: G = e ∧ (leftOf a1 aO).size = ca ∧ am ≤ a0 ∧ Found a1 aO a 0 av) (leftOf a1 #[]).size ?_ ?_
  ·exact Sd ⟨_, by exact R5, #[], am, 0, Z, Z, Z, Z, Nat.le_refl _, Found.start _ _ _⟩
  rintro ca _ _ _ - ⟨aO, a0, av, rfl, rfl, rfl, bT, cE, bR⟩
  refine NK<|NH<|?_
  refine NP Z (adQ Z Z (D).obj (D).born cE (D).map Mb0 ?_ ?_)
  ·intro cr
   obtain rfl := Found.done (D).map (by decide) (by decide) cr bR
   exact Ex Z<|NI<|NK<|aah rfl<|Ov<|Pu3<|Pu3<|Pu3<|Re3<|Sd<|⟨_, by exact R3, Z, Z, Z, H⟩
  ·intro dU bi d4 au bS be _
   refine ⟨_, .here, ?_⟩
   refine Ex Z<|NI<|NK<|aai rfl<|N2<|N4<|NK<|NH<|Eq Z (adc Z (D).obj (D).born au bS be Mb0)<|Ex Z<|Ex Z<|Ea Z<|Ea Z<|NI<|NK<|NH<|Em Z<|Em Z<|Eq Z (Q1 Z Z)<|NI<|?_
   refine NW Z ?_ ?_
   ·intro R
    have R := Ph R
    refine NH<|Em Z<|EF 0 Z<|?_
    refine NP Z (So [(Vi bi)] (NL (Op.mk bi 0 0 0 0 [] []) NY NY) Z (.there (.there .here)) Z ?_)
    exact NI<|Sd<|⟨_, by exact R5, _, bT ▸ left_shrinks _ _ _ au, _, am, bi, Z, Z, Z, Z, Nat.le_refl _, Found.hit (kv := av) au bS be R⟩
   ·intro R
    have R := Pg R
    exact N2<|Sd<|⟨_, by exact R5, _, bT ▸ left_shrinks _ _ _ au, _, am, av, Z, Z, Z, Z, Nat.le_refl _, Found.miss (D).born bR au be R⟩
 rintro _ _ _ - ⟨rfl, rfl, rfl, H⟩
 unfold Ue at H
 refine Ob (fun j c e => ∃ (aV : SV) (F : ab3) (L : Bool) (w x : Int) (o : SV) (r : ab8) (p : SV) (s : ab2), [(0, (Vp b)), (2, (Vp h)), (3, (Vp i))] = j ∧ (.blk b 90 (N3 (NQ.mk F L) aV)) :: (.blk i 70 (NL (Op.mk (Po OA a 0) 0 w x 0 r s) o p)) :: (.blk h 70 (NL (Op.mk 0 0 0 0 0 [] []) NY NY)) :: (.tok 101 3 [(sv o)]) :: (.tok 3 1 [(sv p)]) :: G = e ∧ TD a F L w x r s = some (u, z, C) ∧ Slr Ty.str c (sv aV) F ∧ Slr Oa c (sv o) r ∧ Slr Ty.i64 c (sv p) s) ?_ ?_
 ·refine NK<|NH<|EF 0 Z<|El (Vi (Po OA a 0)) Z (Rb1 Z)<|NI<|N4<|NK<|NH<|Ec Z<|Ea Z<|NI<|?_
  refine NW Z ?_ ?_
  ·intro aq
   obtain ⟨aq, H⟩ := It aq H
   refine NH<|Em Z<|Eq Z (NR Z)<|EF 1 Z<|?_
   refine NP Z (So [(.bool true)] (N3 (NQ.mk O true) ah) Z .here Z ?_)
   exact NI<|Shift.nilTok1 101 3<|Shift.nilTok1 3 1<|Pu1<|Pu4<|Pu4<|Pu4<|Sd<|⟨_, by exact R3, ah, O, true, 0, 0, NY, ([] : ab8), NY, ([] : ab2), Z, Z, H, bd, (Slr.nil Oa _), (Slr.nil Ty.i64 _)⟩
  ·intro aq
   obtain ⟨aq, H⟩ := If aq H
   refine NK<|NH<|Ec Z<|Ea Z<|NI<|?_
   refine NW Z ?_ ?_
   ·intro ar
    obtain ⟨ar, H⟩ := It ar H
    refine Ob (fun j c e => ∃ (aA : SV) (V : ab3) (ad : Bool) (m : SV) (k : ab8), [(0, (Vp b)), (2, (Vp h)), (3, (Vp i))] = j ∧ (.blk b 90 (N3 (NQ.mk V ad) aA)) :: (.blk i 70 (NL (Op.mk (Po OA a 0) 0 0 0 0 k []) m NY)) :: (.blk h 70 (NL (Op.mk 0 0 0 0 0 [] []) NY NY)) :: (.tok 101 3 [(sv m)]) :: G = e ∧ Wm a V ad k = some (u, z, C) ∧ Slr Ty.str c (sv aA) V ∧ Slr Oa c (sv m) k) ?_ ?_
    ·refine N4 ?_
     refine On (fun b8 j c e => ∃ (aB : SV) (A : ab3) (B : Bool) (y : SV) (ac : ab8), [(0, (Vp b)), (2, (Vp h)), (3, (Vp i))] = j ∧ (.blk b 90 (N3 (NQ.mk A B) aB)) :: (.blk i 70 (NL (Op.mk (Po OA a 0) 0 0 0 0 ac []) y NY)) :: (.blk h 70 (NL (Op.mk 0 0 0 0 0 [] []) NY NY)) :: (.tok 101 3 [(sv y)]) :: G = e ∧ lp3 (Vh a) b8 A B ac = some (u, z, C) ∧ Slr Ty.str c (sv aB) A ∧ Slr Oa c (sv y) ac) BIG ?_ ?_
     ·exact Shift.nilTok1 101 3<|Pu3<|Pu3<|Pu3<|Sd<|⟨_, by exact R3, ah, O, al, NY, ([] : ab8), Z, Z, H, bd, (Slr.nil Oa _)⟩
     rintro b8 _ P _ aK ⟨aB, A, B, y, ac, rfl, rfl, H, bV, E⟩
     obtain ⟨d2, d1, rfl, S, H⟩ := adt H
     unfold Vh at H
     refine NK<|NK<|NH<|Em Z<|Eq Z (NR Z)<|EF 1 Z<|El (.bool B) Z (Rb0 Z)<|Eq Z (PI Z)<|NI<|?_
     refine NW Z ?_ ?_
     ·intro Q
      have Q := Py Q
      have H := OF (btf Q) H
      refine N2<|N4<|NK<|NH<|Em Z<|?_
      obtain ⟨dF, Y, dm, H⟩ := O4 H
      refine NP Z (Ek Tryz.call79 Z (SH b (NQ.mk A B) aB (⟨#[115, 101, 110, 100]⟩ : ByteArray) dF Y dm _ _ bV) ?_)
      rintro _ _ _ - ⟨bl, rfl, rfl, rfl, a9⟩
      refine NI ?_
      refine NW Z ?_ ?_
      ·intro a2
       have H := ift a2 H
       obtain ⟨f, aD, aE, b5, H⟩ := PP H
       obtain ⟨d, aa, ab, bf, H⟩ := PP H
       obtain ⟨N, aM, H⟩ := bnd H
       refine Oi _ Z (Ic Mb2 In0)<|JF 0 5 Z<|Jm 2 Z<|Jm 4 Z<|?_
       refine N6 1 3 (by kernel_rfl) ?_ ?_
       ·refine id (Jyq Z (NM (v := (sv y)) Z Z Z (Rb1 Z)) ⟨(Ic Mb2 In0), ?_⟩)
        refine Ao 3 Z ?_
        have bW := hT.mono aK
        refine Ek Tryz.call54 Z (Qn b (NQ.mk Y ((NQ.mk A B).bad)) bl f aD aE b5 _ _ a9 bW) ?_
        rintro _ _ _ - ⟨dx, rfl, rfl, rfl, cH⟩
        refine ⟨(Ic Mb2 In0), ?_⟩
        refine Ao 5 Z ?_
        refine Ek Tryz.call55 Z (SI b (NQ.mk aD aE) dx d aa ab bf _ _ cH bW) ?_
        rintro _ _ _ - ⟨dy, rfl, rfl, rfl, cI⟩
        refine ⟨(Ic Mb2 In0), ?_⟩
        refine Jq 6 Z (OD (cs := (N9 (Case.mk true f d))) Z Z Z Z Z Z) ?_
        refine Ao 7 Z ?_
        have bH : RowR Oa P [(N9 (Case.mk true f d))] [(Case.mk true f d)] := RowR.cons Z (RowR.nil)
        refine N8 (T := Oa) (rows := [(N9 (Case.mk true f d))]) (l := [(Case.mk true f d)]) Z Z Z bH Z Z Z Z Z Z Z Z (fun d5 => ⟨(Ic Mb3 In0), ?_⟩)
        refine Ao 8 Z ?_
        refine NS (T := Oa) (bytes := 24) (q := 0) Z Z Z E Mb4 Z (SrcT.row Mb0 bH Z) aM Z Z Z Z Z Z Z Z (fun bm dJ ct cJ => ⟨_, (.there (.there (.there (.there .here)))), ⟨(Ic Mb3 In0), ?_⟩⟩)
        refine Aw.shift (Re0 (Sd ⟨(Ic Mb2 In0), ?_⟩))
        refine JF 9 5 Z ?_
        refine Ao 10 Z ?_
        refine So [(sv bm)] (NL (Op.mk (Po OA a 0) 0 0 0 0 N []) bm NY) Z (.there .here) Z ⟨(Ic Mb2 In0), ?_⟩
        refine Ad<|Pu3<|Pu3<|Pu3<|Pu3<|?_
        have cK := cI.mono ct
        exact Sd ⟨_, by exact R3, _, Nat.lt_succ_self _, dy, aa, ab, bm, N, Z, Z, (S ▸ H), cK, cJ⟩
       ·refine id (Jy Z ?_)
        have ba := hT.mono aK
        refine Ek Tryz.call54 Z (Qn b (NQ.mk Y ((NQ.mk A B).bad)) bl f aD aE b5 _ _ a9 ba) ?_
        rintro _ _ _ - ⟨cc, rfl, rfl, rfl, bX⟩
        refine ⟨(Ic Mb2 In0), ?_⟩
        refine N6 1 5 (by kernel_rfl) ?_ ?_
        ·refine id (Jyq Z (NM (v := (sv y)) Z Z Z (Rb1 Z)) ⟨(Ic Mb2 In0), ?_⟩)
         refine Ao 5 Z ?_
         refine Ek Tryz.call55 Z (SI b (NQ.mk aD aE) cc d aa ab bf _ _ bX ba) ?_
         rintro _ _ _ - ⟨dz, rfl, rfl, rfl, cL⟩
         refine ⟨(Ic Mb2 In0), ?_⟩
         refine Jq 6 Z (OD (cs := (N9 (Case.mk true f d))) Z Z Z Z Z Z) ?_
         refine Ao 7 Z ?_
         have bI : RowR Oa P [(N9 (Case.mk true f d))] [(Case.mk true f d)] := RowR.cons Z (RowR.nil)
         refine N8 (T := Oa) (rows := [(N9 (Case.mk true f d))]) (l := [(Case.mk true f d)]) Z Z Z bI Z Z Z Z Z Z Z Z (fun d6 => ⟨(Ic Mb3 In0), ?_⟩)
         refine Ao 8 Z ?_
         refine NS (T := Oa) (bytes := 24) (q := 0) Z Z Z E Mb4 Z (SrcT.row Mb0 bI Z) aM Z Z Z Z Z Z Z Z (fun bn dK cu cM => ⟨_, (.there (.there (.there (.there .here)))), ⟨(Ic Mb3 In0), ?_⟩⟩)
         refine Aw.shift (Re0 (Sd ⟨(Ic Mb2 In0), ?_⟩))
         refine JF 9 5 Z ?_
         refine Ao 10 Z ?_
         refine So [(sv bn)] (NL (Op.mk (Po OA a 0) 0 0 0 0 N []) bn NY) Z (.there .here) Z ⟨(Ic Mb2 In0), ?_⟩
         refine Ad<|Pu3<|Pu3<|Pu3<|Pu3<|?_
         have cN := cL.mono cu
         exact Sd ⟨_, by exact R3, _, Nat.lt_succ_self _, dz, aa, ab, bn, N, Z, Z, (S ▸ H), cN, cM⟩
        ·refine id (Jy Z ?_)
         refine Ek Tryz.call55 Z (SI b (NQ.mk aD aE) cc d aa ab bf _ _ bX ba) ?_
         rintro _ _ _ - ⟨cd, rfl, rfl, rfl, bY⟩
         refine ⟨(Ic Mb2 In0), ?_⟩
         refine Jq 6 Z (OD (cs := (N9 (Case.mk true f d))) Z Z Z Z Z Z) ?_
         refine N6 1 7 (by kernel_rfl) ?_ ?_
         ·refine id (Jyq Z (NM (v := (sv y)) Z Z Z (Rb1 Z)) ⟨(Ic Mb2 In0), ?_⟩)
          refine Ao 7 Z ?_
          have bJ : RowR Oa P [(N9 (Case.mk true f d))] [(Case.mk true f d)] := RowR.cons Z (RowR.nil)
          refine N8 (T := Oa) (rows := [(N9 (Case.mk true f d))]) (l := [(Case.mk true f d)]) Z Z Z bJ Z Z Z Z Z Z Z Z (fun d7 => ⟨(Ic Mb3 In0), ?_⟩)
          refine Ao 8 Z ?_
          refine NS (T := Oa) (bytes := 24) (q := 0) Z Z Z E Mb4 Z (SrcT.row Mb0 bJ Z) aM Z Z Z Z Z Z Z Z (fun bo dL cv cO => ⟨_, (.there (.there (.there (.there .here)))), ⟨(Ic Mb3 In0), ?_⟩⟩)
          refine Aw.shift (Re0 (Sd ⟨(Ic Mb2 In0), ?_⟩))
          refine JF 9 5 Z ?_
          refine Ao 10 Z ?_
          refine So [(sv bo)] (NL (Op.mk (Po OA a 0) 0 0 0 0 N []) bo NY) Z (.there .here) Z ⟨(Ic Mb2 In0), ?_⟩
          refine Ad<|Pu3<|Pu3<|Pu3<|Pu3<|?_
          have cP := bY.mono cv
          exact Sd ⟨_, by exact R3, _, Nat.lt_succ_self _, cd, aa, ab, bo, N, Z, Z, (S ▸ H), cP, cO⟩
         ·refine id (Jy Z ?_)
          have bK : RowR Oa P [(N9 (Case.mk true f d))] [(Case.mk true f d)] := RowR.cons Z (RowR.nil)
          refine N8 (T := Oa) (rows := [(N9 (Case.mk true f d))]) (l := [(Case.mk true f d)]) Z Z Z bK Z Z Z Z Z Z Z Z (fun d8 => ⟨(Ic Mb3 In0), ?_⟩)
          refine NT 1 (by kernel_rfl) (Jyq Z (NM (v := (sv y)) Z Z Z (Rb2 Z)) ⟨(Ic Mb3 In0), ?_⟩)
          refine Ao 8 Z ?_
          refine NS (T := Oa) (bytes := 24) (q := 0) Z Z Z E Mb4 Z (SrcT.row Mb0 bK Z) aM Z Z Z Z Z Z Z Z (fun bp dM cw cQ => ⟨_, (.there (.there (.there (.there .here)))), ⟨(Ic Mb3 In0), ?_⟩⟩)
          refine Aw.shift (Re0 (Sd ⟨(Ic Mb2 In0), ?_⟩))
          refine JF 9 5 Z ?_
          refine Ao 10 Z ?_
          refine So [(sv bp)] (NL (Op.mk (Po OA a 0) 0 0 0 0 N []) bp NY) Z (.there .here) Z ⟨(Ic Mb2 In0), ?_⟩
          refine Ad<|Pu3<|Pu3<|Pu3<|Pu3<|?_
          have cR := bY.mono cw
          exact Sd ⟨_, by exact R3, _, Nat.lt_succ_self _, cd, aa, ab, bp, N, Z, Z, (S ▸ H), cR, cQ⟩
      ·intro a2
       have H := OF (btf a2) H
       refine NK<|NH<|Em Z<|?_
       obtain ⟨dG, aW, dn, H⟩ := O4 H
       refine NP Z (Ek Tryz.call79 Z (SH b (NQ.mk Y ((NQ.mk A B).bad)) bl (⟨#[114, 101, 99, 118]⟩ : ByteArray) dG aW dn _ _ a9) ?_)
       rintro _ _ _ - ⟨bq, rfl, rfl, rfl, bb⟩
       refine NI ?_
       refine NW Z ?_ ?_
       ·intro a3
        have H := ift a3 H
        obtain ⟨n, aF, aG, b6, H⟩ := PP H
        obtain ⟨ai, bg, H⟩ := bnd H
        refine Oi _ Z (Ic Mb2 In0)<|JF 0 5 Z<|Jm 2 Z<|?_
        refine N6 1 3 (by kernel_rfl) ?_ ?_
        ·refine id (Jyq Z (NM (v := (sv y)) Z Z Z (Rb1 Z)) ⟨(Ic Mb2 In0), ?_⟩)
         refine Ao 3 Z ?_
         have cS := hT.mono aK
         refine Ek Tryz.call54 Z (Qn b (NQ.mk aW ((NQ.mk Y ((NQ.mk A B).bad)).bad)) bq n aF aG b6 _ _ bb cS) ?_
         rintro _ _ _ - ⟨dA, rfl, rfl, rfl, cT⟩
         refine ⟨(Ic Mb2 In0), ?_⟩
         refine Jq 4 Z (OD (cs := (N9 (Case.mk false n 0))) Z Z Z Z Z Z) ?_
         refine Ao 5 Z ?_
         have bL : RowR Oa P [(N9 (Case.mk false n 0))] [(Case.mk false n 0)] := RowR.cons Z (RowR.nil)
         refine N8 (T := Oa) (rows := [(N9 (Case.mk false n 0))]) (l := [(Case.mk false n 0)]) Z Z Z bL Z Z Z Z Z Z Z Z (fun d9 => ⟨(Ic Mb3 In0), ?_⟩)
         refine Ao 6 Z ?_
         refine NS (T := Oa) (bytes := 24) (q := 0) Z Z Z E Mb4 Z (SrcT.row Mb0 bL Z) bg Z Z Z Z Z Z Z Z (fun br dN cx cU => ⟨_, (.there (.there (.there (.there .here)))), ⟨(Ic Mb3 In0), ?_⟩⟩)
         refine Aw.shift (Re0 (Sd ⟨(Ic Mb2 In0), ?_⟩))
         refine JF 7 5 Z ?_
         refine Ao 8 Z ?_
         refine So [(sv br)] (NL (Op.mk (Po OA a 0) 0 0 0 0 ai []) br NY) Z (.there .here) Z ⟨(Ic Mb2 In0), ?_⟩
         refine Ad<|Pu3<|Pu3<|Pu3<|Pu3<|?_
         have cV := cT.mono cx
         exact Sd ⟨_, by exact R3, _, Nat.lt_succ_self _, dA, aF, aG, br, ai, Z, Z, (S ▸ H), cV, cU⟩
        ·refine id (Jy Z ?_)
         have cW := hT.mono aK
         refine Ek Tryz.call54 Z (Qn b (NQ.mk aW ((NQ.mk Y ((NQ.mk A B).bad)).bad)) bq n aF aG b6 _ _ bb cW) ?_
         rintro _ _ _ - ⟨ce, rfl, rfl, rfl, bZ⟩
         refine ⟨(Ic Mb2 In0), ?_⟩
         refine Jq 4 Z (OD (cs := (N9 (Case.mk false n 0))) Z Z Z Z Z Z) ?_
         refine N6 1 5 (by kernel_rfl) ?_ ?_
         ·refine id (Jyq Z (NM (v := (sv y)) Z Z Z (Rb1 Z)) ⟨(Ic Mb2 In0), ?_⟩)
          refine Ao 5 Z ?_
          have bM : RowR Oa P [(N9 (Case.mk false n 0))] [(Case.mk false n 0)] := RowR.cons Z (RowR.nil)
          refine N8 (T := Oa) (rows := [(N9 (Case.mk false n 0))]) (l := [(Case.mk false n 0)]) Z Z Z bM Z Z Z Z Z Z Z Z (fun ea => ⟨(Ic Mb3 In0), ?_⟩)
          refine Ao 6 Z ?_
          refine NS (T := Oa) (bytes := 24) (q := 0) Z Z Z E Mb4 Z (SrcT.row Mb0 bM Z) bg Z Z Z Z Z Z Z Z (fun bs dO cy cX => ⟨_, (.there (.there (.there (.there .here)))), ⟨(Ic Mb3 In0), ?_⟩⟩)
          refine Aw.shift (Re0 (Sd ⟨(Ic Mb2 In0), ?_⟩))
          refine JF 7 5 Z ?_
          refine Ao 8 Z ?_
          refine So [(sv bs)] (NL (Op.mk (Po OA a 0) 0 0 0 0 ai []) bs NY) Z (.there .here) Z ⟨(Ic Mb2 In0), ?_⟩
          refine Ad<|Pu3<|Pu3<|Pu3<|Pu3<|?_
          have cY := bZ.mono cy
          exact Sd ⟨_, by exact R3, _, Nat.lt_succ_self _, ce, aF, aG, bs, ai, Z, Z, (S ▸ H), cY, cX⟩
         ·refine id (Jy Z ?_)
          have bN : RowR Oa P [(N9 (Case.mk false n 0))] [(Case.mk false n 0)] := RowR.cons Z (RowR.nil)
          refine N8 (T := Oa) (rows := [(N9 (Case.mk false n 0))]) (l := [(Case.mk false n 0)]) Z Z Z bN Z Z Z Z Z Z Z Z (fun eb => ⟨(Ic Mb3 In0), ?_⟩)
          refine NT 1 (by kernel_rfl) (Jyq Z (NM (v := (sv y)) Z Z Z (Rb2 Z)) ⟨(Ic Mb3 In0), ?_⟩)
          refine Ao 6 Z ?_
          refine NS (T := Oa) (bytes := 24) (q := 0) Z Z Z E Mb4 Z (SrcT.row Mb0 bN Z) bg Z Z Z Z Z Z Z Z (fun bt dP cz cZ => ⟨_, (.there (.there (.there (.there .here)))), ⟨(Ic Mb3 In0), ?_⟩⟩)
          refine Aw.shift (Re0 (Sd ⟨(Ic Mb2 In0), ?_⟩))
          refine JF 7 5 Z ?_
          refine Ao 8 Z ?_
          refine So [(sv bt)] (NL (Op.mk (Po OA a 0) 0 0 0 0 ai []) bt NY) Z (.there .here) Z ⟨(Ic Mb2 In0), ?_⟩
          refine Ad<|Pu3<|Pu3<|Pu3<|Pu3<|?_
          have c0 := bZ.mono cz
          exact Sd ⟨_, by exact R3, _, Nat.lt_succ_self _, ce, aF, aG, bt, ai, Z, Z, (S ▸ H), c0, cZ⟩
       ·intro a3
        have H := OF (btf a3) H
        exact Ov<|Pu3<|Pu3<|Pu3<|Pu3<|Sd<|⟨_, by exact R3, bq, aW, ((NQ.mk Y ((NQ.mk A B).bad)).bad), y, ac, Z, Z, H, bb, E⟩
     ·intro Q
      have Q := Px Q
      have H := ift Q H
      exact Ov<|Pu3<|Pu3<|Pu3<|Pu3<|Sd<|⟨_, by exact R3, aB, A, B, y, ac, Z, Z, H, bV, E⟩
    rintro _ bE _ bG ⟨aA, V, ad, m, k, rfl, rfl, H, bU, a8⟩
    unfold Wm at H
    refine Ob (fun j c e => ∃ (aS : SV) (aw : ab3) (aP : Bool), [(0, (Vp b)), (2, (Vp h)), (3, (Vp i))] = j ∧ bE = c ∧ (.blk b 90 (N3 (NQ.mk aw aP) aS)) :: (.blk i 70 (NL (Op.mk (Po OA a 0) 0 0 0 0 k []) m NY)) :: (.blk h 70 (NL (Op.mk 0 0 0 0 0 [] []) NY NY)) :: (.tok 101 3 [(sv m)]) :: G = e ∧ Wl a k aw aP = some (u, z, C) ∧ Slr Ty.str c (sv aS) aw) ?_ ?_
    ·refine Ob (fun j c e => ∃ (bj : Bool) (af : SV) (W : ab3) (aQ : Bool), [(0, (Vp b)), (2, (Vp h)), (3, (Vp i)), (74, (.bool bj))] = j ∧ bE = c ∧ (.blk b 90 (N3 (NQ.mk W aQ) af)) :: (.blk i 70 (NL (Op.mk (Po OA a 0) 0 0 0 0 k []) m NY)) :: (.blk h 70 (NL (Op.mk 0 0 0 0 0 [] []) NY NY)) :: (.tok 101 3 [(sv m)]) :: G = e ∧ Ud a k bj W aQ = some (u, z, C) ∧ Slr Ty.str c (sv af) W) ?_ ?_
     ·refine NH<|EF 5 Z<|El (sv m) Z (Rb1 Z)<|Eq Z (Oo (T := Oa) a8 Z Z)<|Ec Z<|Em Z<|?_
      refine Ee Z ?_ ?_
      ·intro an
       obtain ⟨an, H⟩ := It an H
       refine Vm Z ?_
       obtain ⟨ck, cl, dp, H⟩ := O4 H
       refine QM Z Z Z Z (Ek Tryz.call79 Z (SH b (NQ.mk V ad) aA (⟨#[100, 114, 97, 119, 115]⟩ : ByteArray) ck cl dp _ _ bU) ?_)
       rintro _ _ _ - ⟨dB, rfl, rfl, rfl, c2⟩
       exact Vq Z (PI Z)<|Et Z<|NI<|Pu3<|Pu3<|Pu3<|Pu3<|Sd<|⟨_, by exact R4, (!(ck)), dB, cl, ((NQ.mk V ad).bad), Z, Z, Z, H, c2⟩
      ·intro an
       obtain ⟨an, H⟩ := If an H
       exact Ez Z<|Ez Z<|Ez Z<|Ef Z<|NI<|Pu3<|Pu3<|Pu3<|Pu3<|Sd<|⟨_, by exact R4, false, aA, V, ad, Z, Z, Z, H, bU⟩
     rintro _ _ _ - ⟨bj, af, W, aQ, rfl, rfl, rfl, H, b0⟩
     unfold Ud at H
     refine NW Z ?_ ?_
     ·intro a4
      have H := ift a4 H
      refine NH<|Em Z<|Eq Z (NR Z)<|EF 1 Z<|?_
      refine NP Z (So [(.bool true)] (N3 (NQ.mk W true) af) Z .here Z ?_)
      exact NI<|Pu3<|Pu3<|Pu3<|Pu3<|Sd<|⟨_, by exact R3, af, W, true, Z, Z, Z, H, b0⟩
     ·intro a4
      have H := OF (btf a4) H
      exact N2<|Pu3<|Pu3<|Pu3<|Pu3<|Sd<|⟨_, by exact R3, af, W, aQ, Z, Z, Z, H, b0⟩
    rintro _ _ _ - ⟨aS, aw, aP, rfl, rfl, rfl, H, c1⟩
    unfold Wl at H
    refine NK<|NH<|EF 5 Z<|El (sv m) Z (Rb1 Z)<|Eq Z (Oo (T := Oa) a8 Z Z)<|Em Z<|NI<|N4<|?_
    refine On (fun b9 j c e => ∃ (U : Int) (ag : SV) (X : ab3) (ae : Bool) (M : SV) (ax : ab2), [(0, (Vp b)), (2, (Vp h)), (3, (Vp i)), (80, (Vi (k.length : Int))), (81, (Vi U))] = j ∧ (.blk b 90 (N3 (NQ.mk X ae) ag)) :: (.blk i 70 (NL (Op.mk (Po OA a 0) 0 0 0 0 k ax) m M)) :: (.blk h 70 (NL (Op.mk 0 0 0 0 0 [] []) NY NY)) :: (.tok 3 1 [(sv M)]) :: (.tok 101 3 [(sv m)]) :: G = e ∧ lp4 (Sr k a) b9 U X ae ax = some (u, z, C) ∧ Slr Ty.str c (sv ag) X ∧ Slr Ty.i64 c (sv M) ax) BIG ?_ ?_
    ·exact Shift.nilTok1 3 1<|Pu4<|Pu1<|Pu4<|Pu4<|Pu4<|Sd<|⟨_, by exact R5, 0, aS, aw, aP, NY, ([] : ab2), Z, Z, H, c1, (Slr.nil Ty.i64 _)⟩
    rintro b9 _ aZ _ a7 ⟨U, ag, X, ae, M, ax, rfl, rfl, H, bc, aL⟩
    obtain ⟨d3, dw, rfl, cF, H⟩ := acn H
    unfold Sr at H
    refine NK<|NH<|Ec Z<|NI<|NK<|?_
    refine NW Z ?_ ?_
    ·intro ao
     obtain ⟨ao, H⟩ := It ao H
     refine N2 ?_
     refine Ob (fun j c e => ∃ (aT : SV) (ay : ab3) (aR : Bool) (aC : SV) (az : ab2), [(0, (Vp b)), (2, (Vp h)), (3, (Vp i)), (80, (Vi (k.length : Int))), (81, (Vi U))] = j ∧ (.blk b 90 (N3 (NQ.mk ay aR) aT)) :: (.blk i 70 (NL (Op.mk (Po OA a 0) 0 0 0 0 k az) m aC)) :: (.blk h 70 (NL (Op.mk 0 0 0 0 0 [] []) NY NY)) :: (.tok 3 1 [(sv aC)]) :: (.tok 101 3 [(sv m)]) :: G = e ∧ W3 k U a dw ay aR az = some (u, z, C) ∧ Slr Ty.str c (sv aT) ay ∧ Slr Ty.i64 c (sv aC) az) ?_ ?_
     ·refine N4 ?_
      obtain ⟨t, aH, aI, b7, H⟩ := PP H
      obtain ⟨aj, bh, H⟩ := bnd H
      refine Oi _ Z (Ic Mb2 (Ic Mb4 In0))<|JF 0 6 Z<|Jm 2 Z<|?_
      refine N6 1 3 (by kernel_rfl) ?_ ?_
      ·refine id (Jyq Z (NM (v := (sv M)) Z Z Z (Rb1 Z)) ⟨(Ic Mb2 (Ic Mb4 In0)), ?_⟩)
       refine Ao 3 Z ?_
       have c5 := (hT.mono bG).mono a7
       refine Ek Tryz.call54 Z (Qn b (NQ.mk X ae) ag t aH aI b7 _ _ bc c5) ?_
       rintro _ _ _ - ⟨dC, rfl, rfl, rfl, c6⟩
       refine ⟨(Ic Mb2 (Ic Mb4 In0)), ?_⟩
       refine Ao 4 Z ?_
       have bO : RowR Ty.i64 aZ [[(Vi t)]] [t] := RowR.cons Z (RowR.nil)
       refine N8 (T := Ty.i64) (rows := [[(Vi t)]]) (l := [t]) Z Z Z bO Z Z Z Z Z Z Z Z (fun ec => ⟨(Ic Mb3 (Ic Mb5 In0)), ?_⟩)
       refine Ao 5 Z ?_
       refine NS (T := Ty.i64) (bytes := 8) (q := 0) Z Z Z aL Mb4 Z (SrcT.row Mb0 bO Z) bh Z Z Z Z Z Z Z Z (fun bu dQ cA c7 => ⟨_, (.there (.there (.there (.there .here)))), ⟨(Ic Mb3 (Ic Mb5 In0)), ?_⟩⟩)
       refine Aw.shift (Re0 (Sd ⟨(Ic Mb2 (Ic Mb4 In0)), ?_⟩))
       refine JF 6 6 Z ?_
       refine Ao 7 Z ?_
       refine So [(sv bu)] (NL (Op.mk (Po OA a 0) 0 0 0 0 k aj) m bu) Z (.there .here) Z ⟨(Ic Mb2 (Ic Mb4 In0)), ?_⟩
       refine Ad<|Pu4<|Pu4<|Pu4<|Pu4<|Pu4<|?_
       have c8 := c6.mono cA
       exact Sd ⟨_, by exact R5, dC, aH, aI, bu, aj, Z, Z, H, c8, c7⟩
      ·refine id (Jy Z ?_)
       have c9 := (hT.mono bG).mono a7
       refine Ek Tryz.call54 Z (Qn b (NQ.mk X ae) ag t aH aI b7 _ _ bc c9) ?_
       rintro _ _ _ - ⟨cf, rfl, rfl, rfl, b1⟩
       refine ⟨(Ic Mb2 (Ic Mb4 In0)), ?_⟩
       refine N6 1 4 (by kernel_rfl) ?_ ?_
       ·refine id (Jyq Z (NM (v := (sv M)) Z Z Z (Rb1 Z)) ⟨(Ic Mb2 (Ic Mb4 In0)), ?_⟩)
        refine Ao 4 Z ?_
        have bP : RowR Ty.i64 aZ [[(Vi t)]] [t] := RowR.cons Z (RowR.nil)
        refine N8 (T := Ty.i64) (rows := [[(Vi t)]]) (l := [t]) Z Z Z bP Z Z Z Z Z Z Z Z (fun ed => ⟨(Ic Mb3 (Ic Mb5 In0)), ?_⟩)
        refine Ao 5 Z ?_
        refine NS (T := Ty.i64) (bytes := 8) (q := 0) Z Z Z aL Mb4 Z (SrcT.row Mb0 bP Z) bh Z Z Z Z Z Z Z Z (fun bv dR cB da => ⟨_, (.there (.there (.there (.there .here)))), ⟨(Ic Mb3 (Ic Mb5 In0)), ?_⟩⟩)
        refine Aw.shift (Re0 (Sd ⟨(Ic Mb2 (Ic Mb4 In0)), ?_⟩))
        refine JF 6 6 Z ?_
        refine Ao 7 Z ?_
        refine So [(sv bv)] (NL (Op.mk (Po OA a 0) 0 0 0 0 k aj) m bv) Z (.there .here) Z ⟨(Ic Mb2 (Ic Mb4 In0)), ?_⟩
        refine Ad<|Pu4<|Pu4<|Pu4<|Pu4<|Pu4<|?_
        have db := b1.mono cB
        exact Sd ⟨_, by exact R5, cf, aH, aI, bv, aj, Z, Z, H, db, da⟩
       ·refine id (Jy Z ?_)
        have bQ : RowR Ty.i64 aZ [[(Vi t)]] [t] := RowR.cons Z (RowR.nil)
        refine N8 (T := Ty.i64) (rows := [[(Vi t)]]) (l := [t]) Z Z Z bQ Z Z Z Z Z Z Z Z (fun ee => ⟨(Ic Mb3 (Ic Mb5 In0)), ?_⟩)
        refine NT 1 (by kernel_rfl) (Jyq Z (NM (v := (sv M)) Z Z Z (Rb2 Z)) ⟨(Ic Mb3 (Ic Mb5 In0)), ?_⟩)
        refine Ao 5 Z ?_
        refine NS (T := Ty.i64) (bytes := 8) (q := 0) Z Z Z aL Mb4 Z (SrcT.row Mb0 bQ Z) bh Z Z Z Z Z Z Z Z (fun bw dS cC dc => ⟨_, (.there (.there (.there (.there .here)))), ⟨(Ic Mb3 (Ic Mb5 In0)), ?_⟩⟩)
        refine Aw.shift (Re0 (Sd ⟨(Ic Mb2 (Ic Mb4 In0)), ?_⟩))
        refine JF 6 6 Z ?_
        refine Ao 7 Z ?_
        refine So [(sv bw)] (NL (Op.mk (Po OA a 0) 0 0 0 0 k aj) m bw) Z (.there .here) Z ⟨(Ic Mb2 (Ic Mb4 In0)), ?_⟩
        refine Ad<|Pu4<|Pu4<|Pu4<|Pu4<|Pu4<|?_
        have dd := b1.mono cC
        exact Sd ⟨_, by exact R5, cf, aH, aI, bw, aj, Z, Z, H, dd, dc⟩
     rintro _ dT _ d0 ⟨aT, ay, aR, aC, az, rfl, rfl, H, c3, c4⟩
     unfold W3 at H
     exact NH<|Er (wI (U + 1)) Z<|Em Z<|NI<|Pu4<|Pu4<|Pu4<|Pu4<|Pu4<|Sd<|⟨_, by exact R5, _, Nat.lt_succ_self _, (wI (U + 1)), aT, ay, aR, aC, az, Z, Z, (cF ▸ H), c3, c4⟩
    ·intro ao
     obtain ⟨ao, H⟩ := If ao H
     refine Ov<|Pu3<|Pu4<|Pu4<|Pu4<|Pu4<|?_
     have de := a8.mono a7
     exact Sd ⟨_, by exact R3, ag, X, ae, 0, 0, m, k, M, ax, Z, Z, H, bc, de, aL⟩
   ·intro ar
    obtain ⟨ar, H⟩ := If ar H
    refine NK<|NH<|Em Z<|?_
    obtain ⟨ak, bB, bC, dq, H⟩ := PP H
    refine NP Z (Ek Tryz.call54 Z (Qn b (NQ.mk O al) ah ak bB bC dq _ _ bd hT) ?_)
    rintro _ _ _ - ⟨cg, rfl, rfl, rfl, b2⟩
    refine EF 2 Z ?_
    refine NP Z (So [(Vi ak)] (NL (Op.mk (Po OA a 0) 0 ak 0 0 [] []) NY NY) Z (.there .here) Z ?_)
    refine NI<|NK<|NH<|EF 0 Z<|El (Vi (Po OA a 0)) Z (Rb1 Z)<|Ec Z<|NI<|?_
    refine NW Z ?_ ?_
    ·intro ap
     obtain ⟨ap, H⟩ := It ap H
     refine NH<|Em Z<|?_
     obtain ⟨aX, cm, cn, dr, H⟩ := PP H
     refine NP Z (Ek Tryz.call55 Z (SI b (NQ.mk bB bC) cg aX cm cn dr _ _ b2 hT) ?_)
     rintro _ _ _ - ⟨dD, rfl, rfl, rfl, df⟩
     refine EF 3 Z ?_
     refine NP Z (So [(.int .u64 aX)] (NL (Op.mk (Po OA a 0) 0 ak aX 0 [] []) NY NY) Z (.there .here) Z ?_)
     exact NI<|Shift.nilTok1 101 3<|Shift.nilTok1 3 1<|Pu1<|Pu4<|Pu4<|Pu4<|Sd<|⟨_, by exact R3, dD, cm, cn, ak, aX, NY, ([] : ab8), NY, ([] : ab2), Z, Z, H, df, (Slr.nil Oa _), (Slr.nil Ty.i64 _)⟩
    ·intro ap
     obtain ⟨ap, H⟩ := If ap H
     exact N2<|Shift.nilTok1 101 3<|Shift.nilTok1 3 1<|Pu1<|Pu4<|Pu4<|Pu4<|Sd<|⟨_, by exact R3, cg, bB, bC, ak, 0, NY, ([] : ab8), NY, ([] : ab2), Z, Z, H, b2, (Slr.nil Oa _), (Slr.nil Ty.i64 _)⟩
 rintro _ cq _ cD ⟨aV, F, L, w, x, o, r, p, s, rfl, rfl, H, dj, dk, dl⟩
 unfold TD at H
 refine Ob (fun j c e => ∃ (aU : SV) (aN : ab3) (bk : Bool) (I J : Int), [(2, (Vp h)), (3, (Vp i))] = j ∧ cq = c ∧ (.blk b 90 (N3 (NQ.mk aN bk) aU)) :: (.blk i 70 (NL (Op.mk (Po OA a 0) I w x J r s) o p)) :: (.blk h 70 (NL (Op.mk 0 0 0 0 0 [] []) NY NY)) :: (.tok 101 3 [(sv o)]) :: (.tok 3 1 [(sv p)]) :: G = e ∧ Wj a w x r s aN bk I J = some (u, z, C) ∧ Slr Ty.str c (sv aU) aN) ?_ ?_
 ·refine NK<|NH<|Em Z<|?_
  obtain ⟨dH, aJ, ds, H⟩ := O4 H
  refine NP Z (Ek Tryz.call79 Z (SH b (NQ.mk F L) aV (⟨#[116, 114, 121]⟩ : ByteArray) dH aJ ds _ _ dj) ?_)
  rintro _ _ _ - ⟨ch, rfl, rfl, rfl, b3⟩
  refine NI ?_
  refine NW Z ?_ ?_
  ·intro a5
   have H := ift a5 H
   refine NH<|EF 1 Z<|?_
   refine NP Z (So [(Vi 1)] (NL (Op.mk (Po OA a 0) 1 w x 0 r s) o p) Z (.there .here) Z ?_)
   exact NI<|Pu4<|Pu4<|Pu4<|Pu4<|Pu4<|Sd<|⟨_, by exact R2, ch, aJ, ((NQ.mk F L).bad), 1, 0, Z, Z, Z, H, b3⟩
  ·intro a5
   have H := OF (btf a5) H
   refine NK<|NH<|Em Z<|?_
   obtain ⟨dI, bD, dt, H⟩ := O4 H
   refine NP Z (Ek Tryz.call79 Z (SH b (NQ.mk aJ ((NQ.mk F L).bad)) ch (⟨#[117, 110, 116, 105, 108]⟩ : ByteArray) dI bD dt _ _ b3) ?_)
   rintro _ _ _ - ⟨ci, rfl, rfl, rfl, b4⟩
   refine NI ?_
   refine NW Z ?_ ?_
   ·intro a6
    have H := ift a6 H
    refine NK<|NH<|EF 1 Z<|?_
    refine NP Z (So [(Vi 2)] (NL (Op.mk (Po OA a 0) 2 w x 0 r s) o p) Z (.there .here) Z ?_)
    refine NI<|NH<|Em Z<|?_
    obtain ⟨aY, co, cp, du, H⟩ := PP H
    have dh := hT.mono cD
    refine NP Z (Ek Tryz.call54 Z (Qn b (NQ.mk bD ((NQ.mk aJ ((NQ.mk F L).bad)).bad)) ci aY co cp du _ _ b4 dh) ?_)
    rintro _ _ _ - ⟨dE, rfl, rfl, rfl, di⟩
    refine EF 4 Z ?_
    refine NP Z (So [(Vi aY)] (NL (Op.mk (Po OA a 0) 2 w x aY r s) o p) Z (.there .here) Z ?_)
    exact NI<|Pu4<|Pu4<|Pu4<|Pu4<|Pu4<|Sd<|⟨_, by exact R2, dE, co, cp, 2, aY, Z, Z, Z, H, di⟩
   ·intro a6
    have H := OF (btf a6) H
    exact N2<|Pu4<|Pu4<|Pu4<|Pu4<|Pu4<|Sd<|⟨_, by exact R2, ci, bD, ((NQ.mk aJ ((NQ.mk F L).bad)).bad), 0, 0, Z, Z, Z, H, b4⟩
 rintro _ _ _ - ⟨aU, aN, bk, I, J, rfl, rfl, rfl, H, dg⟩
 unfold Wj at H
 refine NK<|NH<|EL 7 (NL (Op.mk (Po OA a 0) I w x J r s) o p) Z (Rb1 Z)<|?_
 refine NP Z (Sa (NL (Op.mk (Po OA a 0) I w x J r s) o p) Z (.there (.there .here)) Z ?_)
 refine NI<|N5<|?_
 obtain ⟨dV, dX, dW⟩ := P6 H
 subst u z C
 refine ⟨(.inl Z), [(.agg (NL (Op.mk (Po OA a 0) I w x J r s) o p).toArray)], ⟨(.agg (NL (Op.mk (Po OA a 0) I w x J r s) o p).toArray), _, Z, ⟨_, 7, (NL (Op.mk (Po OA a 0) I w x J r s) o p), Z, Z, Z, Z, ⟨Z, Rb2 Z⟩, Z⟩, Z⟩, ?_⟩
 exact Pu4<|Pu4<|Pu2<|Re3<|Re3<|Sd<|⟨o, p, aU, Z, Z, dk, dl, dg⟩



end Go.Hx
