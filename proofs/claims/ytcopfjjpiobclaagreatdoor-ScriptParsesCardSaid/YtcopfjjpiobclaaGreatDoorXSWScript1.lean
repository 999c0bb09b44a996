
import Derived.Test.YtcopfjjpiobclaaGreatDoorXSM
import Derived.Test.YtcopfjjpiobclaaGreatDoorXSWDraw
import Derived.Test.YtcopfjjpiobclaaGreatDoorXSWStrconv
namespace Go.Hx
open Go Go.Proofs
set_option linter.unusedSimpArgs false
set_option linter.unusedVariables false
set_option maxRecDepth 10000
set_option maxHeartbeats 1000000
theorem Hf (d : Nat) (p0 : DR) (p : SV) (h : Int) (e : ae8) (i : Bool) (H : X2 p0 = some (h, e, i)) (K : Kp) (G : List Ent) (z : Slr Ty.str K (sv p) p0.words) (hT : TabK K) :
  Fc Tryz.prog 54 #[(Vp d)] K ((.blk d 90 (Eg p0 p)) :: G) (fun v j m => ∃ (s : SV), v = (Vi h) ∧ K = j ∧ (.blk d 90 (Eg (DR.mk e i) s)) :: G = m ∧ Slr Ty.str j (sv s) e) := by
 refine Ey Tryz.func54 Z Tryz.ntmps54 Tryz.results54 Z ?_
 unfold X2 at H
 refine DF<|Dz<|Ea Z<|DC<|DF<|Dz<|Em Z<|?_
 obtain ⟨t, l, q, B, H⟩ := Gf H
 refine DN Z (Ek Tryz.call53 Z (Lj d p0 p t l q B _ _ z) ?_)
 rintro _ _ _ - ⟨k, rfl, rfl, rfl, r⟩
 refine Ea Z<|DC<|DF<|Dz<|Em Z<|?_
 obtain ⟨c, E, C, H⟩ := FA H
 refine DN Z (Ek Tryz.call80 Z (ak5 t c E C _ _ hT) ?_)
 rintro _ _ _ - ⟨I, rfl, rfl, rfl, A⟩
 refine Em Z<|Ex Z<|Ex Z<|Ea Z<|Ea Z<|DC<|DF<|?_
 refine Ei (fun u j m => ∃ (g : Int) (o : Bool), [(0, (Vp d)), (4, (Vi g)), (28, (.bool o))] = u ∧ K = j ∧ (.blk d 90 (Eg (DR.mk l q) k)) :: G = m ∧ aeO l q g o = some (h, e, i)) ?_ ?_
 ·refine Dz<|Em Z<|Eq Z (aiW A Z Z)<|Em Z<|?_
  refine Ee Z ?_ ?_
  ·intro a
   have a := E5 a
   have H := ED (btf a) H
   exact Ez Z<|Ez Z<|Ez Z<|Ez Z<|Et Z<|Em Z<|Ez Z<|Ez Z<|Et Z<|Em Z<|Ez Z<|Ez Z<|Et Z<|DC<|Sd<|⟨_, by exact R3, c, true, Z, Z, Z, H⟩
  ·intro a
   have a := E4 a
   have H := ift a H
   refine Vm Z ?_
   obtain ⟨F, D, H⟩ := bnd H
   refine GF Z Z Z Z (Ek Tryz.call63 Z (ahq c F D _ _ hT) ?_)
   rintro _ _ _ - ⟨rfl, rfl, rfl⟩
   refine Vm Z<|Vq Z (Ge Z Z)<|Ef Z<|Em Z<|?_
   refine Ee Z ?_ ?_
   ·intro b
    have b := EY (E5 (b))
    have H := ED b H
    exact Ez Z<|Ez Z<|Et Z<|Em Z<|Ez Z<|Ez Z<|Et Z<|DC<|Sd<|⟨_, by exact R3, c, true, Z, Z, Z, H⟩
   ·intro b
    have b := EZ (E4 (b))
    have H := ift b H
    refine Vm Z<|Vc Z<|Ef Z<|Em Z<|?_
    refine Ee Z ?_ ?_
    ·intro f
     obtain ⟨f, H⟩ := It f H
     exact Ez Z<|Ez Z<|Et Z<|DC<|Sd<|⟨_, by exact R3, c, true, Z, Z, Z, H⟩
    ·intro f
     obtain ⟨f, H⟩ := If f H
     exact Vm Z<|Vc Z<|Ef Z<|DC<|Sd<|⟨_, by exact R3, c, (dcd (c > 1099511627776)), Z, Z, Z, H⟩
 rintro _ _ _ - ⟨g, o, rfl, rfl, rfl, H⟩
 unfold aeO at H
 refine DX Z ?_ ?_
 ·intro n
  have H := ift n H
  refine DF<|Dz<|Em Z<|Eq Z (DK Z)<|EF 1 Z<|?_
  refine DN Z (So [(.bool true)] (Eg (DR.mk l true) k) Z .here Z ?_)
  refine DC<|DF<|Dz<|Ea Z<|DC<|D7<|?_
  obtain ⟨w, y, x⟩ := Gn H
  subst h e i
  refine ⟨(.inl Z), [(Vi 0)], ⟨(Vi 0), _, Z, Z, Z⟩, ?_⟩
  exact Sd ⟨k, Z, Z, Z, r⟩
 ·intro n
  have H := ED (btf n) H
  refine D1<|DF<|Dz<|Em Z<|Ea Z<|DC<|D7<|?_
  obtain ⟨w, y, x⟩ := Gn H
  subst h e i
  refine ⟨(.inl Z), [(Vi g)], ⟨(Vi g), _, Z, Z, Z⟩, ?_⟩
  exact Sd ⟨k, Z, Z, Z, r⟩

theorem Ji (b : Nat) (p0 : DR) (m : SV) (e : Int) (c : ae8) (f : Bool) (H : Nl p0 = some (e, c, f)) (K : Kp) (G : List Ent) (w : Slr Ty.str K (sv m) p0.words) (hT : TabK K) :
  Fc Tryz.prog 55 #[(Vp b)] K ((.blk b 90 (Eg p0 m)) :: G) (fun v g j => ∃ (p : SV), v = (.int .u64 e) ∧ K = g ∧ (.blk b 90 (Eg (DR.mk c f) p)) :: G = j ∧ Slr Ty.str g (sv p) c) := by
 refine Ey Tryz.func55 Z Tryz.ntmps55 Tryz.results55 Z ?_
 unfold Nl at H
 refine DF<|Dz<|Ea Z<|DC<|DF<|Dz<|Em Z<|?_
 obtain ⟨x18, x19, n, y, H⟩ := Gf H
 refine DN Z (Ek Tryz.call53 Z (Lj b p0 m x18 x19 n y _ _ w) ?_)
 rintro _ _ _ - ⟨h, rfl, rfl, rfl, o⟩
 refine Ea Z<|DC<|DF<|Dz<|Em Z<|?_
 obtain ⟨i, B, z, H⟩ := FA H
 refine DN Z (Ek Tryz.call81 Z (ak6 x18 10 64 i B z _ _ hT) ?_)
 rintro _ _ _ - ⟨C, rfl, rfl, rfl, x⟩
 refine Em Z<|Ex Z<|Ex Z<|Ea Z<|Ea Z<|DC<|DF<|?_
 refine Ei (fun r g j => ∃ (d : Int) (l : Bool), [(0, (Vp b)), (4, (.int .u64 d)), (20, (.bool l))] = r ∧ K = g ∧ (.blk b 90 (Eg (DR.mk x19 n) h)) :: G = j ∧ aeP x19 n d l = some (e, c, f)) ?_ ?_
 ·refine Dz<|Em Z<|Eq Z (aiW x Z Z)<|Em Z<|?_
  refine Ee Z ?_ ?_
  ·intro a
   have a := E5 a
   have H := ED (btf a) H
   exact Ez Z<|Ez Z<|Ez Z<|Ez Z<|Et Z<|DC<|Sd<|⟨_, by exact R3, i, true, Z, Z, Z, H⟩
  ·intro a
   have a := E4 a
   have H := ift a H
   refine Vm Z ?_
   obtain ⟨q, A, H⟩ := bnd H
   refine GF Z Z Z Z (Ek Tryz.call64 Z (ahr i 10 q A _ _ hT) ?_)
   rintro _ _ _ - ⟨rfl, rfl, rfl⟩
   exact Vm Z<|Vq Z (Ge Z Z)<|Ef Z<|DC<|Sd<|⟨_, by exact R3, i, (!(dcd (q = x18))), Z, Z, Z, H⟩
 rintro _ _ _ - ⟨d, l, rfl, rfl, rfl, H⟩
 unfold aeP at H
 refine DX Z ?_ ?_
 ·intro k
  have H := ift k H
  refine DF<|Dz<|Em Z<|Eq Z (DK Z)<|EF 1 Z<|?_
  refine DN Z (So [(.bool true)] (Eg (DR.mk x19 true) h) Z .here Z ?_)
  refine DC<|DF<|Dz<|Ea Z<|DC<|D7<|?_
  obtain ⟨s, u, t⟩ := Gn H
  subst e c f
  refine ⟨(.inl Z), [(.int .u64 0)], ⟨(.int .u64 0), _, Z, Z, Z⟩, ?_⟩
  exact Sd ⟨h, Z, Z, Z, o⟩
 ·intro k
  have H := ED (btf k) H
  refine D1<|DF<|Dz<|Em Z<|Ea Z<|DC<|D7<|?_
  obtain ⟨s, u, t⟩ := Gn H
  subst e c f
  refine ⟨(.inl Z), [(.int .u64 d)], ⟨(.int .u64 d), _, Z, Z, Z⟩, ?_⟩
  exact Sd ⟨h, Z, Z, Z, o⟩

theorem akx (b : Nat) (p0 : DR) (bx : SV) (u : Op) (z : ae8) (C : Bool) (H : LD p0 = some (u, z, C)) (K : Kp) (G : List Ent) (cG : Slr Ty.str K (sv bx) p0.words) (hT : TabK K) :
  Fc Tryz.prog 52 #[(Vp b)] K ((.blk b 90 (Eg p0 bx)) :: G) (fun v c e => ∃ (bz bA cj : SV), v = (.agg (DG u bz bA).toArray) ∧ (.blk b 90 (Eg (DR.mk z C) cj)) :: (.tok 101 3 [(sv bz)]) :: (.tok 3 1 [(sv bA)]) :: G = e ∧ Slr Eu c (sv bz) u.cases ∧ Slr Ty.i64 c (sv bA) u.draws ∧ Slr Ty.str c (sv cj) z) := by
 refine Ey Tryz.func52 Z Tryz.ntmps52 Tryz.results52 Z ?_
 unfold LD at H
 refine DF<|Dz<|?_
 refine DN Z (EG (cs := (DG (Op.mk 0 0 0 0 0 [] []) DW DW)) Z Z Z Z (fun h => ?_))
 refine DC<|DF<|Dz<|?_
 refine DN Z (EG (cs := (DG (Op.mk 0 0 0 0 0 [] []) DW DW)) Z Z Z Z (fun i => ?_))
 refine DC<|DF<|Dz<|Em Z<|?_
 obtain ⟨a, O, al, dv, H⟩ := Gf H
 refine Ow.shift (Pu2 (Sd ?_))
 refine DN Z (Ek Tryz.call53 Z (Lj b p0 bx a O al dv _ _ cG) ?_)
 rintro _ _ _ - ⟨ah, rfl, rfl, rfl, bd⟩
 refine Ea Z<|DC<|?_
 refine Ei (fun j c e => [(0, (Vp b)), (2, (Vp h)), (3, (Vp i))] = j ∧ K = c ∧ (.blk b 90 (Eg (DR.mk O al) ah)) :: (.blk i 70 (DG (Op.mk (FP EN a 0) 0 0 0 0 [] []) DW DW)) :: (.blk h 70 (DG (Op.mk 0 0 0 0 0 [] []) DW DW)) :: G = e ∧ LC O al a = some (u, z, C)) ?_ ?_
 ·refine DF<|Dz<|?_
  obtain ⟨bF, dZ, dY, a1, am, D⟩ := (hT).wrd
  refine El (.map (some bF)) Z (Rdc.g D.cell) ?_
  refine DN Z (al3 Z Z (D).obj Z (fun cb => ?_))
  refine DC<|D8<|?_
  refine EB (fun ca j c e => ∃ (aO : Array Nat) (a0 : Nat) (av : Int), [(0, (Vp b)), (2, (Vp h)), (3, (Vp i)), (4, (.string a)), (10, (.pointer (some ⟨cb, 0, none⟩)))] = j ∧ K = c ∧ (.obj cb (.mapIter (some bF) am aO a0)) :: (.blk b 90 (Eg (DR.mk O al) ah)) :: (.blk i 70 (DG (Op.mk av 0 0 0 0 [] []) DW DW)) :: (.blk h 70 (DG (Op.mk 0 0 0 0 0 [] []) DW DW)) :: G = e ∧ (leftOf a1 aO).size = ca ∧ am ≤ a0 ∧ Found a1 aO a 0 av) (leftOf a1 #[]).size ?_ ?_
  ·exact Sd ⟨_, by exact R5, #[], am, 0, Z, Z, Z, Z, Nat.le_refl _, Found.start _ _ _⟩
  rintro ca _ _ _ - ⟨aO, a0, av, rfl, rfl, rfl, bT, cE, bR⟩
  refine DF<|Dz<|?_
  refine DN Z (amV Z Z (D).obj (D).born cE (D).map Mb0 ?_ ?_)
  ·intro cr
   obtain rfl := Found.done (D).map (by decide) (by decide) cr bR
   exact Ex Z<|DC<|DF<|ajB rfl<|EE<|Pu3<|Pu3<|Pu3<|Re3<|Sd<|⟨_, by exact R3, Z, Z, Z, H⟩
  ·intro dU bi d4 au bS be _
   refine ⟨_, .here, ?_⟩
   refine Ex Z<|DC<|DF<|ajC rfl<|D1<|D8<|DF<|Dz<|Eq Z (al5 Z (D).obj (D).born au bS be Mb0)<|Ex Z<|Ex Z<|Ea Z<|Ea Z<|DC<|DF<|Dz<|Em Z<|Em Z<|Eq Z (He Z Z)<|DC<|?_
   refine DX Z ?_ ?_
   ·intro R
    have R := EZ R
    refine Dz<|Em Z<|EF 0 Z<|?_
    refine DN Z (So [(Vi bi)] (DG (Op.mk bi 0 0 0 0 [] []) DW DW) Z (.there (.there .here)) Z ?_)
    exact DC<|Sd<|⟨_, by exact R5, _, bT ▸ left_shrinks _ _ _ au, _, am, bi, Z, Z, Z, Z, Nat.le_refl _, Found.hit (kv := av) au bS be R⟩
   ·intro R
    have R := EY R
    exact D1<|Sd<|⟨_, by exact R5, _, bT ▸ left_shrinks _ _ _ au, _, am, av, Z, Z, Z, Z, Nat.le_refl _, Found.miss (D).born bR au be R⟩
 rintro _ _ _ - ⟨rfl, rfl, rfl, H⟩
 unfold LC at H
 refine Ei (fun j c e => ∃ (aV : SV) (F : ae8) (L : Bool) (w x : Int) (o : SV) (r : af6) (p : SV) (s : ae9), [(0, (Vp b)), (2, (Vp h)), (3, (Vp i))] = j ∧ (.blk b 90 (Eg (DR.mk F L) aV)) :: (.blk i 70 (DG (Op.mk (FP EN a 0) 0 w x 0 r s) o p)) :: (.blk h 70 (DG (Op.mk 0 0 0 0 0 [] []) DW DW)) :: (.tok 101 3 [(sv o)]) :: (.tok 3 1 [(sv p)]) :: G = e ∧ KE a F L w x r s = some (u, z, C) ∧ Slr Ty.str c (sv aV) F ∧ Slr Eu c (sv o) r ∧ Slr Ty.i64 c (sv p) s) ?_ ?_
 ·refine DF<|Dz<|EF 0 Z<|El (Vi (FP EN a 0)) Z (Rb1 Z)<|DC<|D8<|DF<|Dz<|Ec Z<|Ea Z<|DC<|?_
  refine DX Z ?_ ?_
  ·intro aq
   obtain ⟨aq, H⟩ := It aq H
   refine Dz<|Em Z<|Eq Z (DK Z)<|EF 1 Z<|?_
   refine DN Z (So [(.bool true)] (Eg (DR.mk O true) ah) Z .here Z ?_)
   exact DC<|Shift.nilTok1 101 3<|Shift.nilTok1 3 1<|Pu1<|Pu4<|Pu4<|Pu4<|Sd<|⟨_, by exact R3, ah, O, true, 0, 0, DW, ([] : af6), DW, ([] : ae9), Z, Z, H, bd, (Slr.nil Eu _), (Slr.nil Ty.i64 _)⟩
  ·intro aq
   obtain ⟨aq, H⟩ := If aq H
   refine DF<|Dz<|Ec Z<|Ea Z<|DC<|?_
   refine DX Z ?_ ?_
   ·intro ar
    obtain ⟨ar, H⟩ := It ar H
    refine Ei (fun j c e => ∃ (aA : SV) (V : ae8) (ad : Bool) (m : SV) (k : af6), [(0, (Vp b)), (2, (Vp h)), (3, (Vp i))] = j ∧ (.blk b 90 (Eg (DR.mk V ad) aA)) :: (.blk i 70 (DG (Op.mk (FP EN a 0) 0 0 0 0 k []) m DW)) :: (.blk h 70 (DG (Op.mk 0 0 0 0 0 [] []) DW DW)) :: (.tok 101 3 [(sv m)]) :: G = e ∧ aeS a V ad k = some (u, z, C) ∧ Slr Ty.str c (sv aA) V ∧ Slr Eu c (sv m) k) ?_ ?_
    ·refine D8 ?_
     refine EB (fun b8 j c e => ∃ (aB : SV) (A : ae8) (B : Bool) (y : SV) (ac : af6), [(0, (Vp b)), (2, (Vp h)), (3, (Vp i))] = j ∧ (.blk b 90 (Eg (DR.mk A B) aB)) :: (.blk i 70 (DG (Op.mk (FP EN a 0) 0 0 0 0 ac []) y DW)) :: (.blk h 70 (DG (Op.mk 0 0 0 0 0 [] []) DW DW)) :: (.tok 101 3 [(sv y)]) :: G = e ∧ lp3 (Nn a) b8 A B ac = some (u, z, C) ∧ Slr Ty.str c (sv aB) A ∧ Slr Eu c (sv y) ac) BIG ?_ ?_
     ·exact Shift.nilTok1 101 3<|Pu3<|Pu3<|Pu3<|Sd<|⟨_, by exact R3, ah, O, al, DW, ([] : af6), Z, Z, H, bd, (Slr.nil Eu _)⟩
     rintro b8 _ P _ aK ⟨aB, A, B, y, ac, rfl, rfl, H, bV, E⟩
     obtain ⟨d2, d1, rfl, S, H⟩ := amk H
     unfold Nn at H
     refine DF<|DF<|Dz<|Em Z<|Eq Z (DK Z)<|EF 1 Z<|El (.bool B) Z (Rb0 Z)<|Eq Z (Fe Z)<|DC<|?_
     refine DX Z ?_ ?_
     ·intro Q
      have Q := E5 Q
      have H := ED (btf Q) H
      refine D1<|D8<|DF<|Dz<|Em Z<|?_
      obtain ⟨dF, Y, dm, H⟩ := FA H
      refine DN Z (Ek Tryz.call79 Z (Jh b (DR.mk A B) aB (⟨#[115, 101, 110, 100]⟩ : ByteArray) dF Y dm _ _ bV) ?_)
      rintro _ _ _ - ⟨bl, rfl, rfl, rfl, a9⟩
      refine DC ?_
      refine DX Z ?_ ?_
      ·intro a2
       have H := ift a2 H
       obtain ⟨f, aD, aE, b5, H⟩ := Gf H
       obtain ⟨d, aa, ab, bf, H⟩ := Gf H
       obtain ⟨N, aM, H⟩ := bnd H
       refine En _ Z (Ic Mb2 In0)<|JF 0 5 Z<|Jm 2 Z<|Jm 4 Z<|?_
       refine Eh 1 3 (by kernel_rfl) ?_ ?_
       ·refine id (Jyq Z (DI (v := (sv y)) Z Z Z (Rb1 Z)) ⟨(Ic Mb2 In0), ?_⟩)
        refine Ao 3 Z ?_
        have bW := hT.mono aK
        refine Ek Tryz.call54 Z (Hf b (DR.mk Y ((DR.mk A B).bad)) bl f aD aE b5 _ _ a9 bW) ?_
        rintro _ _ _ - ⟨dx, rfl, rfl, rfl, cH⟩
        refine ⟨(Ic Mb2 In0), ?_⟩
        refine Ao 5 Z ?_
        refine Ek Tryz.call55 Z (Ji b (DR.mk aD aE) dx d aa ab bf _ _ cH bW) ?_
        rintro _ _ _ - ⟨dy, rfl, rfl, rfl, cI⟩
        refine ⟨(Ic Mb2 In0), ?_⟩
        refine Jq 6 Z (EI (cs := (Ep (Case.mk true f d))) Z Z Z Z Z Z) ?_
        refine Ao 7 Z ?_
        have bH : RowR Eu P [(Ep (Case.mk true f d))] [(Case.mk true f d)] := RowR.cons Z (RowR.nil)
        refine Es (T := Eu) (rows := [(Ep (Case.mk true f d))]) (l := [(Case.mk true f d)]) Z Z Z bH Z Z Z Z Z Z Z Z (fun d5 => ⟨(Ic Mb3 In0), ?_⟩)
        refine Ao 8 Z ?_
        refine D3 (T := Eu) (bytes := 24) (q := 0) Z Z Z E Mb4 Z (SrcT.row Mb0 bH Z) aM Z Z Z Z Z Z Z Z (fun bm dJ ct cJ => ⟨_, (.there (.there (.there (.there .here)))), ⟨(Ic Mb3 In0), ?_⟩⟩)
        refine Aw.shift (Re0 (Sd ⟨(Ic Mb2 In0), ?_⟩))
        refine JF 9 5 Z ?_
        refine Ao 10 Z ?_
        refine So [(sv bm)] (DG (Op.mk (FP EN a 0) 0 0 0 0 N []) bm DW) Z (.there .here) Z ⟨(Ic Mb2 In0), ?_⟩
        refine Ad<|Pu3<|Pu3<|Pu3<|Pu3<|?_
        have cK := cI.mono ct
        exact Sd ⟨_, by exact R3, _, Nat.lt_succ_self _, dy, aa, ab, bm, N, Z, Z, (S ▸ H), cK, cJ⟩
       ·refine id (Jy Z ?_)
        have ba := hT.mono aK
        refine Ek Tryz.call54 Z (Hf b (DR.mk Y ((DR.mk A B).bad)) bl f aD aE b5 _ _ a9 ba) ?_
        rintro _ _ _ - ⟨cc, rfl, rfl, rfl, bX⟩
        refine ⟨(Ic Mb2 In0), ?_⟩
        refine Eh 1 5 (by kernel_rfl) ?_ ?_
        ·refine id (Jyq Z (DI (v := (sv y)) Z Z Z (Rb1 Z)) ⟨(Ic Mb2 In0), ?_⟩)
         refine Ao 5 Z ?_
         refine Ek Tryz.call55 Z (Ji b (DR.mk aD aE) cc d aa ab bf _ _ bX ba) ?_
         rintro _ _ _ - ⟨dz, rfl, rfl, rfl, cL⟩
         refine ⟨(Ic Mb2 In0), ?_⟩
         refine Jq 6 Z (EI (cs := (Ep (Case.mk true f d))) Z Z Z Z Z Z) ?_
         refine Ao 7 Z ?_
         have bI : RowR Eu P [(Ep (Case.mk true f d))] [(Case.mk true f d)] := RowR.cons Z (RowR.nil)
         refine Es (T := Eu) (rows := [(Ep (Case.mk true f d))]) (l := [(Case.mk true f d)]) Z Z Z bI Z Z Z Z Z Z Z Z (fun d6 => ⟨(Ic Mb3 In0), ?_⟩)
         refine Ao 8 Z ?_
         refine D3 (T := Eu) (bytes := 24) (q := 0) Z Z Z E Mb4 Z (SrcT.row Mb0 bI Z) aM Z Z Z Z Z Z Z Z (fun bn dK cu cM => ⟨_, (.there (.there (.there (.there .here)))), ⟨(Ic Mb3 In0), ?_⟩⟩)
         refine Aw.shift (Re0 (Sd ⟨(Ic Mb2 In0), ?_⟩))
         refine JF 9 5 Z ?_
         refine Ao 10 Z ?_
         refine So [(sv bn)] (DG (Op.mk (FP EN a 0) 0 0 0 0 N []) bn DW) Z (.there .here) Z ⟨(Ic Mb2 In0), ?_⟩
         refine Ad<|Pu3<|Pu3<|Pu3<|Pu3<|?_
         have cN := cL.mono cu
         exact Sd ⟨_, by exact R3, _, Nat.lt_succ_self _, dz, aa, ab, bn, N, Z, Z, (S ▸ H), cN, cM⟩
        ·refine id (Jy Z ?_)
         refine Ek Tryz.call55 Z (Ji b (DR.mk aD aE) cc d aa ab bf _ _ bX ba) ?_
         rintro _ _ _ - ⟨cd, rfl, rfl, rfl, bY⟩
         refine ⟨(Ic Mb2 In0), ?_⟩
         refine Jq 6 Z (EI (cs := (Ep (Case.mk true f d))) Z Z Z Z Z Z) ?_
         refine Eh 1 7 (by kernel_rfl) ?_ ?_
         ·refine id (Jyq Z (DI (v := (sv y)) Z Z Z (Rb1 Z)) ⟨(Ic Mb2 In0), ?_⟩)
          refine Ao 7 Z ?_
          have bJ : RowR Eu P [(Ep (Case.mk true f d))] [(Case.mk true f d)] := RowR.cons Z (RowR.nil)
          refine Es (T := Eu) (rows := [(Ep (Case.mk true f d))]) (l := [(Case.mk true f d)]) Z Z Z bJ Z Z Z Z Z Z Z Z (fun d7 => ⟨(Ic Mb3 In0), ?_⟩)
          refine Ao 8 Z ?_
          refine D3 (T := Eu) (bytes := 24) (q := 0) Z Z Z E Mb4 Z (SrcT.row Mb0 bJ Z) aM Z Z Z Z Z Z Z Z (fun bo dL cv cO => ⟨_, (.there (.there (.there (.there .here)))), ⟨(Ic Mb3 In0), ?_⟩⟩)
          refine Aw.shift (Re0 (Sd ⟨(Ic Mb2 In0), ?_⟩))
          refine JF 9 5 Z ?_
          refine Ao 10 Z ?_
          refine So [(sv bo)] (DG (Op.mk (FP EN a 0) 0 0 0 0 N []) bo DW) Z (.there .here) Z ⟨(Ic Mb2 In0), ?_⟩
          refine Ad<|Pu3<|Pu3<|Pu3<|Pu3<|?_
          have cP := bY.mono cv
          exact Sd ⟨_, by exact R3, _, Nat.lt_succ_self _, cd, aa, ab, bo, N, Z, Z, (S ▸ H), cP, cO⟩
         ·refine id (Jy Z ?_)
          have bK : RowR Eu P [(Ep (Case.mk true f d))] [(Case.mk true f d)] := RowR.cons Z (RowR.nil)
          refine Es (T := Eu) (rows := [(Ep (Case.mk true f d))]) (l := [(Case.mk true f d)]) Z Z Z bK Z Z Z Z Z Z Z Z (fun d8 => ⟨(Ic Mb3 In0), ?_⟩)
          refine DO 1 (by kernel_rfl) (Jyq Z (DI (v := (sv y)) Z Z Z (Rb2 Z)) ⟨(Ic Mb3 In0), ?_⟩)
          refine Ao 8 Z ?_
          refine D3 (T := Eu) (bytes := 24) (q := 0) Z Z Z E Mb4 Z (SrcT.row Mb0 bK Z) aM Z Z Z Z Z Z Z Z (fun bp dM cw cQ => ⟨_, (.there (.there (.there (.there .here)))), ⟨(Ic Mb3 In0), ?_⟩⟩)
          refine Aw.shift (Re0 (Sd ⟨(Ic Mb2 In0), ?_⟩))
          refine JF 9 5 Z ?_
          refine Ao 10 Z ?_
          refine So [(sv bp)] (DG (Op.mk (FP EN a 0) 0 0 0 0 N []) bp DW) Z (.there .here) Z ⟨(Ic Mb2 In0), ?_⟩
          refine Ad<|Pu3<|Pu3<|Pu3<|Pu3<|?_
          have cR := bY.mono cw
          exact Sd ⟨_, by exact R3, _, Nat.lt_succ_self _, cd, aa, ab, bp, N, Z, Z, (S ▸ H), cR, cQ⟩
      ·intro a2
       have H := ED (btf a2) H
       refine DF<|Dz<|Em Z<|?_
       obtain ⟨dG, aW, dn, H⟩ := FA H
       refine DN Z (Ek Tryz.call79 Z (Jh b (DR.mk Y ((DR.mk A B).bad)) bl (⟨#[114, 101, 99, 118]⟩ : ByteArray) dG aW dn _ _ a9) ?_)
       rintro _ _ _ - ⟨bq, rfl, rfl, rfl, bb⟩
       refine DC ?_
       refine DX Z ?_ ?_
       ·intro a3
        have H := ift a3 H
        obtain ⟨n, aF, aG, b6, H⟩ := Gf H
        obtain ⟨ai, bg, H⟩ := bnd H
        refine En _ Z (Ic Mb2 In0)<|JF 0 5 Z<|Jm 2 Z<|?_
        refine Eh 1 3 (by kernel_rfl) ?_ ?_
        ·refine id (Jyq Z (DI (v := (sv y)) Z Z Z (Rb1 Z)) ⟨(Ic Mb2 In0), ?_⟩)
         refine Ao 3 Z ?_
         have cS := hT.mono aK
         refine Ek Tryz.call54 Z (Hf b (DR.mk aW ((DR.mk Y ((DR.mk A B).bad)).bad)) bq n aF aG b6 _ _ bb cS) ?_
         rintro _ _ _ - ⟨dA, rfl, rfl, rfl, cT⟩
         refine ⟨(Ic Mb2 In0), ?_⟩
         refine Jq 4 Z (EI (cs := (Ep (Case.mk false n 0))) Z Z Z Z Z Z) ?_
         refine Ao 5 Z ?_
         have bL : RowR Eu P [(Ep (Case.mk false n 0))] [(Case.mk false n 0)] := RowR.cons Z (RowR.nil)
         refine Es (T := Eu) (rows := [(Ep (Case.mk false n 0))]) (l := [(Case.mk false n 0)]) Z Z Z bL Z Z Z Z Z Z Z Z (fun d9 => ⟨(Ic Mb3 In0), ?_⟩)
         refine Ao 6 Z ?_
         refine D3 (T := Eu) (bytes := 24) (q := 0) Z Z Z E Mb4 Z (SrcT.row Mb0 bL Z) bg Z Z Z Z Z Z Z Z (fun br dN cx cU => ⟨_, (.there (.there (.there (.there .here)))), ⟨(Ic Mb3 In0), ?_⟩⟩)
         refine Aw.shift (Re0 (Sd ⟨(Ic Mb2 In0), ?_⟩))
         refine JF 7 5 Z ?_
         refine Ao 8 Z ?_
         refine So [(sv br)] (DG (Op.mk (FP EN a 0) 0 0 0 0 ai []) br DW) Z (.there .here) Z ⟨(Ic Mb2 In0), ?_⟩
         refine Ad<|Pu3<|Pu3<|Pu3<|Pu3<|?_
         have cV := cT.mono cx
         exact Sd ⟨_, by exact R3, _, Nat.lt_succ_self _, dA, aF, aG, br, ai, Z, Z, (S ▸ H), cV, cU⟩
        ·refine id (Jy Z ?_)
         have cW := hT.mono aK
         refine Ek Tryz.call54 Z (Hf b (DR.mk aW ((DR.mk Y ((DR.mk A B).bad)).bad)) bq n aF aG b6 _ _ bb cW) ?_
         rintro _ _ _ - ⟨ce, rfl, rfl, rfl, bZ⟩
         refine ⟨(Ic Mb2 In0), ?_⟩
         refine Jq 4 Z (EI (cs := (Ep (Case.mk false n 0))) Z Z Z Z Z Z) ?_
         refine Eh 1 5 (by kernel_rfl) ?_ ?_
         ·refine id (Jyq Z (DI (v := (sv y)) Z Z Z (Rb1 Z)) ⟨(Ic Mb2 In0), ?_⟩)
          refine Ao 5 Z ?_
          have bM : RowR Eu P [(Ep (Case.mk false n 0))] [(Case.mk false n 0)] := RowR.cons Z (RowR.nil)
          refine Es (T := Eu) (rows := [(Ep (Case.mk false n 0))]) (l := [(Case.mk false n 0)]) Z Z Z bM Z Z Z Z Z Z Z Z (fun ea => ⟨(Ic Mb3 In0), ?_⟩)
          refine Ao 6 Z ?_
          refine D3 (T := Eu) (bytes := 24) (q := 0) Z Z Z E Mb4 Z (SrcT.row Mb0 bM Z) bg Z Z Z Z Z Z Z Z (fun bs dO cy cX => ⟨_, (.there (.there (.there (.there .here)))), ⟨(Ic Mb3 In0), ?_⟩⟩)
          refine Aw.shift (Re0 (Sd ⟨(Ic Mb2 In0), ?_⟩))
          refine JF 7 5 Z ?_
          refine Ao 8 Z ?_
          refine So [(sv bs)] (DG (Op.mk (FP EN a 0) 0 0 0 0 ai []) bs DW) Z (.there .here) Z ⟨(Ic Mb2 In0), ?_⟩
          refine Ad<|Pu3<|Pu3<|Pu3<|Pu3<|?_
          have cY := bZ.mono cy
          exact Sd ⟨_, by exact R3, _, Nat.lt_succ_self _, ce, aF, aG, bs, ai, Z, Z, (S ▸ H), cY, cX⟩
         ·refine id (Jy Z ?_)
          have bN : RowR Eu P [(Ep (Case.mk false n 0))] [(Case.mk false n 0)] := RowR.cons Z (RowR.nil)
          refine Es (T := Eu) (rows := [(Ep (Case.mk false n 0))]) (l := [(Case.mk false n 0)]) Z Z Z bN Z Z Z Z Z Z Z Z (fun eb => ⟨(Ic Mb3 In0), ?_⟩)
          refine DO 1 (by kernel_rfl) (Jyq Z (DI (v := (sv y)) Z Z Z (Rb2 Z)) ⟨(Ic Mb3 In0), ?_⟩)
          refine Ao 6 Z ?_
          refine D3 (T := Eu) (bytes := 24) (q := 0) Z Z Z E Mb4 Z (SrcT.row Mb0 bN Z) bg Z Z Z Z Z Z Z Z (fun bt dP cz cZ => ⟨_, (.there (.there (.there (.there .here)))), ⟨(Ic Mb3 In0), ?_⟩⟩)
          refine Aw.shift (Re0 (Sd ⟨(Ic Mb2 In0), ?_⟩))
          refine JF 7 5 Z ?_
          refine Ao 8 Z ?_
          refine So [(sv bt)] (DG (Op.mk (FP EN a 0) 0 0 0 0 ai []) bt DW) Z (.there .here) Z ⟨(Ic Mb2 In0), ?_⟩
          refine Ad<|Pu3<|Pu3<|Pu3<|Pu3<|?_
          have c0 := bZ.mono cz
          exact Sd ⟨_, by exact R3, _, Nat.lt_succ_self _, ce, aF, aG, bt, ai, Z, Z, (S ▸ H), c0, cZ⟩
       ·intro a3
        have H := ED (btf a3) H
        exact EE<|Pu3<|Pu3<|Pu3<|Pu3<|Sd<|⟨_, by exact R3, bq, aW, ((DR.mk Y ((DR.mk A B).bad)).bad), y, ac, Z, Z, H, bb, E⟩
     ·intro Q
      have Q := E4 Q
      have H := ift Q H
      exact EE<|Pu3<|Pu3<|Pu3<|Pu3<|Sd<|⟨_, by exact R3, aB, A, B, y, ac, Z, Z, H, bV, E⟩
    rintro _ bE _ bG ⟨aA, V, ad, m, k, rfl, rfl, H, bU, a8⟩
    unfold aeS at H
    refine Ei (fun j c e => ∃ (aS : SV) (aw : ae8) (aP : Bool), [(0, (Vp b)), (2, (Vp h)), (3, (Vp i))] = j ∧ bE = c ∧ (.blk b 90 (Eg (DR.mk aw aP) aS)) :: (.blk i 70 (DG (Op.mk (FP EN a 0) 0 0 0 0 k []) m DW)) :: (.blk h 70 (DG (Op.mk 0 0 0 0 0 [] []) DW DW)) :: (.tok 101 3 [(sv m)]) :: G = e ∧ aeR a k aw aP = some (u, z, C) ∧ Slr Ty.str c (sv aS) aw) ?_ ?_
    ·refine Ei (fun j c e => ∃ (bj : Bool) (af : SV) (W : ae8) (aQ : Bool), [(0, (Vp b)), (2, (Vp h)), (3, (Vp i)), (74, (.bool bj))] = j ∧ bE = c ∧ (.blk b 90 (Eg (DR.mk W aQ) af)) :: (.blk i 70 (DG (Op.mk (FP EN a 0) 0 0 0 0 k []) m DW)) :: (.blk h 70 (DG (Op.mk 0 0 0 0 0 [] []) DW DW)) :: (.tok 101 3 [(sv m)]) :: G = e ∧ LA a k bj W aQ = some (u, z, C) ∧ Slr Ty.str c (sv af) W) ?_ ?_
     ·refine Dz<|EF 5 Z<|El (sv m) Z (Rb1 Z)<|Eq Z (EA (T := Eu) a8 Z Z)<|Ec Z<|Em Z<|?_
      refine Ee Z ?_ ?_
      ·intro an
       obtain ⟨an, H⟩ := It an H
       refine Vm Z ?_
       obtain ⟨ck, cl, dp, H⟩ := FA H
       refine GF Z Z Z Z (Ek Tryz.call79 Z (Jh b (DR.mk V ad) aA (⟨#[100, 114, 97, 119, 115]⟩ : ByteArray) ck cl dp _ _ bU) ?_)
       rintro _ _ _ - ⟨dB, rfl, rfl, rfl, c2⟩
       exact Vq Z (Fe Z)<|Et Z<|DC<|Pu3<|Pu3<|Pu3<|Pu3<|Sd<|⟨_, by exact R4, (!(ck)), dB, cl, ((DR.mk V ad).bad), Z, Z, Z, H, c2⟩
      ·intro an
       obtain ⟨an, H⟩ := If an H
       exact Ez Z<|Ez Z<|Ez Z<|Ef Z<|DC<|Pu3<|Pu3<|Pu3<|Pu3<|Sd<|⟨_, by exact R4, false, aA, V, ad, Z, Z, Z, H, bU⟩
     rintro _ _ _ - ⟨bj, af, W, aQ, rfl, rfl, rfl, H, b0⟩
     unfold LA at H
     refine DX Z ?_ ?_
     ·intro a4
      have H := ift a4 H
      refine Dz<|Em Z<|Eq Z (DK Z)<|EF 1 Z<|?_
      refine DN Z (So [(.bool true)] (Eg (DR.mk W true) af) Z .here Z ?_)
      exact DC<|Pu3<|Pu3<|Pu3<|Pu3<|Sd<|⟨_, by exact R3, af, W, true, Z, Z, Z, H, b0⟩
     ·intro a4
      have H := ED (btf a4) H
      exact D1<|Pu3<|Pu3<|Pu3<|Pu3<|Sd<|⟨_, by exact R3, af, W, aQ, Z, Z, Z, H, b0⟩
    rintro _ _ _ - ⟨aS, aw, aP, rfl, rfl, rfl, H, c1⟩
    unfold aeR at H
    refine DF<|Dz<|EF 5 Z<|El (sv m) Z (Rb1 Z)<|Eq Z (EA (T := Eu) a8 Z Z)<|Em Z<|DC<|D8<|?_
    refine EB (fun b9 j c e => ∃ (U : Int) (ag : SV) (X : ae8) (ae : Bool) (M : SV) (ax : ae9), [(0, (Vp b)), (2, (Vp h)), (3, (Vp i)), (80, (Vi (k.length : Int))), (81, (Vi U))] = j ∧ (.blk b 90 (Eg (DR.mk X ae) ag)) :: (.blk i 70 (DG (Op.mk (FP EN a 0) 0 0 0 0 k ax) m M)) :: (.blk h 70 (DG (Op.mk 0 0 0 0 0 [] []) DW DW)) :: (.tok 3 1 [(sv M)]) :: (.tok 101 3 [(sv m)]) :: G = e ∧ lp4 (I0 k a) b9 U X ae ax = some (u, z, C) ∧ Slr Ty.str c (sv ag) X ∧ Slr Ty.i64 c (sv M) ax) BIG ?_ ?_
    ·exact Shift.nilTok1 3 1<|Pu4<|Pu1<|Pu4<|Pu4<|Pu4<|Sd<|⟨_, by exact R5, 0, aS, aw, aP, DW, ([] : ae9), Z, Z, H, c1, (Slr.nil Ty.i64 _)⟩
    rintro b9 _ aZ _ a7 ⟨U, ag, X, ae, M, ax, rfl, rfl, H, bc, aL⟩
    obtain ⟨d3, dw, rfl, cF, H⟩ := ajT H
    unfold I0 at H
    refine DF<|Dz<|Ec Z<|DC<|DF<|?_
    refine DX Z ?_ ?_
    ·intro ao
     obtain ⟨ao, H⟩ := It ao H
     refine D1 ?_
     refine Ei (fun j c e => ∃ (aT : SV) (ay : ae8) (aR : Bool) (aC : SV) (az : ae9), [(0, (Vp b)), (2, (Vp h)), (3, (Vp i)), (80, (Vi (k.length : Int))), (81, (Vi U))] = j ∧ (.blk b 90 (Eg (DR.mk ay aR) aT)) :: (.blk i 70 (DG (Op.mk (FP EN a 0) 0 0 0 0 k az) m aC)) :: (.blk h 70 (DG (Op.mk 0 0 0 0 0 [] []) DW DW)) :: (.tok 3 1 [(sv aC)]) :: (.tok 101 3 [(sv m)]) :: G = e ∧ afK k U a dw ay aR az = some (u, z, C) ∧ Slr Ty.str c (sv aT) ay ∧ Slr Ty.i64 c (sv aC) az) ?_ ?_
     ·refine D8 ?_
      obtain ⟨t, aH, aI, b7, H⟩ := Gf H
      obtain ⟨aj, bh, H⟩ := bnd H
      refine En _ Z (Ic Mb2 (Ic Mb4 In0))<|JF 0 6 Z<|Jm 2 Z<|?_
      refine Eh 1 3 (by kernel_rfl) ?_ ?_
      ·refine id (Jyq Z (DI (v := (sv M)) Z Z Z (Rb1 Z)) ⟨(Ic Mb2 (Ic Mb4 In0)), ?_⟩)
       refine Ao 3 Z ?_
       have c5 := (hT.mono bG).mono a7
       refine Ek Tryz.call54 Z (Hf b (DR.mk X ae) ag t aH aI b7 _ _ bc c5) ?_
       rintro _ _ _ - ⟨dC, rfl, rfl, rfl, c6⟩
       refine ⟨(Ic Mb2 (Ic Mb4 In0)), ?_⟩
       refine Ao 4 Z ?_
       have bO : RowR Ty.i64 aZ [[(Vi t)]] [t] := RowR.cons Z (RowR.nil)
       refine Es (T := Ty.i64) (rows := [[(Vi t)]]) (l := [t]) Z Z Z bO Z Z Z Z Z Z Z Z (fun ec => ⟨(Ic Mb3 (Ic Mb5 In0)), ?_⟩)
       refine Ao 5 Z ?_
       refine D3 (T := Ty.i64) (bytes := 8) (q := 0) Z Z Z aL Mb4 Z (SrcT.row Mb0 bO Z) bh Z Z Z Z Z Z Z Z (fun bu dQ cA c7 => ⟨_, (.there (.there (.there (.there .here)))), ⟨(Ic Mb3 (Ic Mb5 In0)), ?_⟩⟩)
       refine Aw.shift (Re0 (Sd ⟨(Ic Mb2 (Ic Mb4 In0)), ?_⟩))
       refine JF 6 6 Z ?_
       refine Ao 7 Z ?_
       refine So [(sv bu)] (DG (Op.mk (FP EN a 0) 0 0 0 0 k aj) m bu) Z (.there .here) Z ⟨(Ic Mb2 (Ic Mb4 In0)), ?_⟩
       refine Ad<|Pu4<|Pu4<|Pu4<|Pu4<|Pu4<|?_
       have c8 := c6.mono cA
       exact Sd ⟨_, by exact R5, dC, aH, aI, bu, aj, Z, Z, H, c8, c7⟩
      ·refine id (Jy Z ?_)
       have c9 := (hT.mono bG).mono a7
       refine Ek Tryz.call54 Z (Hf b (DR.mk X ae) ag t aH aI b7 _ _ bc c9) ?_
       rintro _ _ _ - ⟨cf, rfl, rfl, rfl, b1⟩
       refine ⟨(Ic Mb2 (Ic Mb4 In0)), ?_⟩
       refine Eh 1 4 (by kernel_rfl) ?_ ?_
       ·refine id (Jyq Z (DI (v := (sv M)) Z Z Z (Rb1 Z)) ⟨(Ic Mb2 (Ic Mb4 In0)), ?_⟩)
        refine Ao 4 Z ?_
        have bP : RowR Ty.i64 aZ [[(Vi t)]] [t] := RowR.cons Z (RowR.nil)
        refine Es (T := Ty.i64) (rows := [[(Vi t)]]) (l := [t]) Z Z Z bP Z Z Z Z Z Z Z Z (fun ed => ⟨(Ic Mb3 (Ic Mb5 In0)), ?_⟩)
        refine Ao 5 Z ?_
        refine D3 (T := Ty.i64) (bytes := 8) (q := 0) Z Z Z aL Mb4 Z (SrcT.row Mb0 bP Z) bh Z Z Z Z Z Z Z Z (fun bv dR cB da => ⟨_, (.there (.there (.there (.there .here)))), ⟨(Ic Mb3 (Ic Mb5 In0)), ?_⟩⟩)
        refine Aw.shift (Re0 (Sd ⟨(Ic Mb2 (Ic Mb4 In0)), ?_⟩))
        refine JF 6 6 Z ?_
        refine Ao 7 Z ?_
        refine So [(sv bv)] (DG (Op.mk (FP EN a 0) 0 0 0 0 k aj) m bv) Z (.there .here) Z ⟨(Ic Mb2 (Ic Mb4 In0)), ?_⟩
        refine Ad<|Pu4<|Pu4<|Pu4<|Pu4<|Pu4<|?_
        have db := b1.mono cB
        exact Sd ⟨_, by exact R5, cf, aH, aI, bv, aj, Z, Z, H, db, da⟩
       ·refine id (Jy Z ?_)
        have bQ : RowR Ty.i64 aZ [[(Vi t)]] [t] := RowR.cons Z (RowR.nil)
        refine Es (T := Ty.i64) (rows := [[(Vi t)]]) (l := [t]) Z Z Z bQ Z Z Z Z Z Z Z Z (fun ee => ⟨(Ic Mb3 (Ic Mb5 In0)), ?_⟩)
        refine DO 1 (by kernel_rfl) (Jyq Z (DI (v := (sv M)) Z Z Z (Rb2 Z)) ⟨(Ic Mb3 (Ic Mb5 In0)), ?_⟩)
        refine Ao 5 Z ?_
        refine D3 (T := Ty.i64) (bytes := 8) (q := 0) Z Z Z aL Mb4 Z (SrcT.row Mb0 bQ Z) bh Z Z Z Z Z Z Z Z (fun bw dS cC dc => ⟨_, (.there (.there (.there (.there .here)))), ⟨(Ic Mb3 (Ic Mb5 In0)), ?_⟩⟩)
        refine Aw.shift (Re0 (Sd ⟨(Ic Mb2 (Ic Mb4 In0)), ?_⟩))
        refine JF 6 6 Z ?_
        refine Ao 7 Z ?_
        refine So [(sv bw)] (DG (Op.mk (FP EN a 0) 0 0 0 0 k aj) m bw) Z (.there .here) Z ⟨(Ic Mb2 (Ic Mb4 In0)), ?_⟩
        refine Ad<|Pu4<|Pu4<|Pu4<|Pu4<|Pu4<|?_
        have dd := b1.mono cC
        exact Sd ⟨_, by exact R5, cf, aH, aI, bw, aj, Z, Z, H, dd, dc⟩
     rintro _ dT _ d0 ⟨aT, ay, aR, aC, az, rfl, rfl, H, c3, c4⟩
     unfold afK at H
     exact Dz<|Er (wI (U + 1)) Z<|Em Z<|DC<|Pu4<|Pu4<|Pu4<|Pu4<|Pu4<|Sd<|⟨_, by exact R5, _, Nat.lt_succ_self _, (wI (U + 1)), aT, ay, aR, aC, az, Z, Z, (cF ▸ H), c3, c4⟩
    ·intro ao
     obtain ⟨ao, H⟩ := If ao H
     refine EE<|Pu3<|Pu4<|Pu4<|Pu4<|Pu4<|?_
     have de := a8.mono a7
     exact Sd ⟨_, by exact R3, ag, X, ae, 0, 0, m, k, M, ax, Z, Z, H, bc, de, aL⟩
   ·intro ar
    obtain ⟨ar, H⟩ := If ar H
    refine DF<|Dz<|Em Z<|?_
    obtain ⟨ak, bB, bC, dq, H⟩ := Gf H
    refine DN Z (Ek Tryz.call54 Z (Hf b (DR.mk O al) ah ak bB bC dq _ _ bd hT) ?_)
    rintro _ _ _ - ⟨cg, rfl, rfl, rfl, b2⟩
    refine EF 2 Z ?_
    refine DN Z (So [(Vi ak)] (DG (Op.mk (FP EN a 0) 0 ak 0 0 [] []) DW DW) Z (.there .here) Z ?_)
    refine DC<|DF<|Dz<|EF 0 Z<|El (Vi (FP EN a 0)) Z (Rb1 Z)<|Ec Z<|DC<|?_
    refine DX Z ?_ ?_
    ·intro ap
     obtain ⟨ap, H⟩ := It ap H
     refine Dz<|Em Z<|?_
     obtain ⟨aX, cm, cn, dr, H⟩ := Gf H
     refine DN Z (Ek Tryz.call55 Z (Ji b (DR.mk bB bC) cg aX cm cn dr _ _ b2 hT) ?_)
     rintro _ _ _ - ⟨dD, rfl, rfl, rfl, df⟩
     refine EF 3 Z ?_
     refine DN Z (So [(.int .u64 aX)] (DG (Op.mk (FP EN a 0) 0 ak aX 0 [] []) DW DW) Z (.there .here) Z ?_)
     exact DC<|Shift.nilTok1 101 3<|Shift.nilTok1 3 1<|Pu1<|Pu4<|Pu4<|Pu4<|Sd<|⟨_, by exact R3, dD, cm, cn, ak, aX, DW, ([] : af6), DW, ([] : ae9), Z, Z, H, df, (Slr.nil Eu _), (Slr.nil Ty.i64 _)⟩
    ·intro ap
     obtain ⟨ap, H⟩ := If ap H
     exact D1<|Shift.nilTok1 101 3<|Shift.nilTok1 3 1<|Pu1<|Pu4<|Pu4<|Pu4<|Sd<|⟨_, by exact R3, cg, bB, bC, ak, 0, DW, ([] : af6), DW, ([] : ae9), Z, Z, H, b2, (Slr.nil Eu _), (Slr.nil Ty.i64 _)⟩
 rintro _ cq _ cD ⟨aV, F, L, w, x, o, r, p, s, rfl, rfl, H, dj, dk, dl⟩
 unfold KE at H
 refine Ei (fun j c e => ∃ (aU : SV) (aN : ae8) (bk : Bool) (I J : Int), [(2, (Vp h)), (3, (Vp i))] = j ∧ cq = c ∧ (.blk b 90 (Eg (DR.mk aN bk) aU)) :: (.blk i 70 (DG (Op.mk (FP EN a 0) I w x J r s) o p)) :: (.blk h 70 (DG (Op.mk 0 0 0 0 0 [] []) DW DW)) :: (.tok 101 3 [(sv o)]) :: (.tok 3 1 [(sv p)]) :: G = e ∧ aeQ a w x r s aN bk I J = some (u, z, C) ∧ Slr Ty.str c (sv aU) aN) ?_ ?_
 ·refine DF<|Dz<|Em Z<|?_
  obtain ⟨dH, aJ, ds, H⟩ := FA H
  refine DN Z (Ek Tryz.call79 Z (Jh b (DR.mk F L) aV (⟨#[116, 114, 121]⟩ : ByteArray) dH aJ ds _ _ dj) ?_)
  rintro _ _ _ - ⟨ch, rfl, rfl, rfl, b3⟩
  refine DC ?_
  refine DX Z ?_ ?_
  ·intro a5
   have H := ift a5 H
   refine Dz<|EF 1 Z<|?_
   refine DN Z (So [(Vi 1)] (DG (Op.mk (FP EN a 0) 1 w x 0 r s) o p) Z (.there .here) Z ?_)
   exact DC<|Pu4<|Pu4<|Pu4<|Pu4<|Pu4<|Sd<|⟨_, by exact R2, ch, aJ, ((DR.mk F L).bad), 1, 0, Z, Z, Z, H, b3⟩
  ·intro a5
   have H := ED (btf a5) H
   refine DF<|Dz<|Em Z<|?_
   obtain ⟨dI, bD, dt, H⟩ := FA H
   refine DN Z (Ek Tryz.call79 Z (Jh b (DR.mk aJ ((DR.mk F L).bad)) ch (⟨#[117, 110, 116, 105, 108]⟩ : ByteArray) dI bD dt _ _ b3) ?_)
   rintro _ _ _ - ⟨ci, rfl, rfl, rfl, b4⟩
   refine DC ?_
   refine DX Z ?_ ?_
   ·intro a6
    have H := ift a6 H
    refine DF<|Dz<|EF 1 Z<|?_
    refine DN Z (So [(Vi 2)] (DG (Op.mk (FP EN a 0) 2 w x 0 r s) o p) Z (.there .here) Z ?_)
    refine DC<|Dz<|Em Z<|?_
    obtain ⟨aY, co, cp, du, H⟩ := Gf H
    have dh := hT.mono cD
    refine DN Z (Ek Tryz.call54 Z (Hf b (DR.mk bD ((DR.mk aJ ((DR.mk F L).bad)).bad)) ci aY co cp du _ _ b4 dh) ?_)
    rintro _ _ _ - ⟨dE, rfl, rfl, rfl, di⟩
    refine EF 4 Z ?_
    refine DN Z (So [(Vi aY)] (DG (Op.mk (FP EN a 0) 2 w x aY r s) o p) Z (.there .here) Z ?_)
    exact DC<|Pu4<|Pu4<|Pu4<|Pu4<|Pu4<|Sd<|⟨_, by exact R2, dE, co, cp, 2, aY, Z, Z, Z, H, di⟩
   ·intro a6
    have H := ED (btf a6) H
    exact D1<|Pu4<|Pu4<|Pu4<|Pu4<|Pu4<|Sd<|⟨_, by exact R2, ci, bD, ((DR.mk aJ ((DR.mk F L).bad)).bad), 0, 0, Z, Z, Z, H, b4⟩
 rintro _ _ _ - ⟨aU, aN, bk, I, J, rfl, rfl, rfl, H, dg⟩
 unfold aeQ at H
 refine DF<|Dz<|EL 7 (DG (Op.mk (FP EN a 0) I w x J r s) o p) Z (Rb1 Z)<|?_
 refine DN Z (Sa (DG (Op.mk (FP EN a 0) I w x J r s) o p) Z (.there (.there .here)) Z ?_)
 refine DC<|D7<|?_
 obtain ⟨dV, dX, dW⟩ := Gn H
 subst u z C
 refine ⟨(.inl Z), [(.agg (DG (Op.mk (FP EN a 0) I w x J r s) o p).toArray)], ⟨(.agg (DG (Op.mk (FP EN a 0) I w x J r s) o p).toArray), _, Z, ⟨_, 7, (DG (Op.mk (FP EN a 0) I w x J r s) o p), Z, Z, Z, Z, ⟨Z, Rb2 Z⟩, Z⟩, Z⟩, ?_⟩
 exact Pu4<|Pu4<|Pu2<|Re3<|Re3<|Sd<|⟨o, p, aU, Z, Z, dk, dl, dg⟩



end Go.Hx
