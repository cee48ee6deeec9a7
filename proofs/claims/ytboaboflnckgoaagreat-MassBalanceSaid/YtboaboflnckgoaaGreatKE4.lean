/- Texts that the proof needs, part 4. -/
import Derived.Test.YtboaboflnckgoaaGreatKE3
set_option linter.unusedVariables false
set_option linter.unusedSimpArgs false
noncomputable section
set_option maxRecDepth 10000
set_option maxHeartbeats 1000000
namespace Go.Proofs.YtboaboflnckgoaaGreat
open Bk Go Tryz
attribute [local irreducible] GL GC GQ W OpV
section
variable{w0:World}{h0:Mem}(hs:MLe h0 (mem w0))
include hs
theorem rH{s:Prop}{vn vd:Value}{xs ys:List Nat}(hn:Us .u32 h0 vn xs)(hd:Us .u32 h0 vd ys)(hl:xs.length<=500000000000)(hl':ys.length<=500000000000)(hd0:val ys≠0):
 Calls prog 46 #[vB s,vn,vd] w0 (Ret w0 h0 (λh r=>wR h r (mkRat (sg s (val xs)) (val ys)))):=by
 have bc:=vC hn.lt;have bb:=vC hd.lt;refine cb3 55 (vB s) vn vd func46 hs ?_;refine go2 ?_;refine zF (wG (cs:=[vB ((0:Rat).num<0),.slice none 0 0,.slice none 0 0]) yS I (by simp only[zb];rfl)) I I I ?_;intro v6 r6 ao;obtain⟨b6,rfl,rfl⟩:=ao;refine go5 ?_;refine cL (ev1 I) call91 (λw hs=>fV hs hn oM) λv9 h1 av D=>(go1 ?_);replace hd:=hd.mono av;refine cL (ev1 I) call91 (λw hs=>fV hs hd oM) λai h2 au G=>?_;replace D:=D.mono au;refine zJA (λan=>?_) λan=>?_
 ·
  refine go2 ?_;refine gv (yO (ps':=[]) (vs:=[vB ((0:Rat).num<0),.slice none 0 0,.slice none 0 0]) underlying26 yS I (vQ underlying26) trivial (by simp only[zb];exact uF)) I (xY (A:=[]) (r':=.var b6 26 [vB ((0:Rat).num<0),.slice none 0 0,.slice none 0 0]) (zH (k:=0) (cs:=[_,_,_]) (vs:=[_,_,_]) I I I I yB (bL I)) I I I (go4 ?_));refine yG (λE S=>zQ I (xN (cs:=[_,_,_]) mh0 underlying26 I yB I) E S) ?_;have e:val xs=0:=zdu λe=>by have:=yN.2 e;omega
  rw[e,zAK];exact wR.zero _
 have ad:val xs≠0:=yN.1 oM;have bd:Nat.gcd (val xs) (val ys)≠0:=yku (yhi _ oM);refine go6 ?_;refine cL (ev2 I I) call92 (λw hs=>zYJ hs D G oM oM) λay h3 aa M=>?_;have ar:=dG ((val (xs))) ((val (ys)));refine go9 ?_;refine gU 6 27 (vB (((↑(zB (Nat.gcd ((val (xs))) ((val (ys))))).length:Int)≠(1:Int))\/(((zB (Nat.gcd ((val (xs))) ((val (ys))))).getD (0) 0)≠(1:Nat)))) ?_ ?_
 ·
  refine yD ((↑(zB (Nat.gcd ((val (xs))) ((val (ys))))).length:Int)≠(1:Int)) (λO=>?_) (λO=>?_)
  ·
   refine gT O I (go6 ?_);refine gqU ?_;exact y0e (vV O)
  refine gF O I (go3 ?_);refine gv (zU (q:=0) (0) underlying22 sizeOf127 I I M I oM) I (go3 ?_);refine gv (fW (k:=.u32) (q:=1) I I) I (go2 ?_);refine gqU ?_;exact y0e (vW O)
 refine gc2 (λab=>?_) λab=>?_
 ·
  refine go4 ?_;replace D:=D.mono aa;refine cL (ev2 I I) call93 (λw hs=>zH3 hs D M oM oM) λax h4 am ah=>?_;obtain⟨ac,ba,rfl,H,ah⟩:=ah;have aq:=zR (zki ((val (xs))) ((Nat.gcd ((val (xs))) ((val (ys))))));refine uQ ?_;replace G:=G.mono (aa.trans am);replace M:=M.mono am;refine cL (ev2 I I) call93 (λw hs=>zH3 hs G M oM oM) λaw h5 ak ae=>?_;obtain⟨aj,az,rfl,U,ae⟩:=ae;have ap:=zR (zki ((val (ys))) ((Nat.gcd ((val (xs))) ((val (ys))))));refine rN ?_;refine gU 6 50 (vB (((↑(zB (((val (ys)))/((Nat.gcd ((val (xs))) ((val (ys))))))).length:Int)=(1:Int))/\(((zB (((val (ys)))/((Nat.gcd ((val (xs))) ((val (ys))))))).getD (0) 0)=(1:Nat)))) ?_ ?_
  ·
   refine yD ((↑(zB (((val (ys)))/((Nat.gcd ((val (xs))) ((val (ys))))))).length:Int)=(1:Int)) (λO=>?_) (λO=>?_)
   ·
    refine gT O I (go3 ?_);refine gv (zU (q:=0) (0) underlying22 sizeOf127 I I U I oM) I (go3 ?_);refine gv (gW (k:=.u32) (q:=1) I I) I (go2 ?_);refine gqU ?_;exact y0e (xS O)
   refine gF O I (go6 ?_);refine gqU ?_;exact y0e (xT O)
  refine gc2 (λJ=>?_) λJ=>?_
  ·
   refine go9 ?_;replace H:=H.mono ak;refine gv (yO (ps':=[(0,_),(1,_),(2,_)]) (vs:=[vB s,ac,.slice none 0 0]) underlying26 yS I (vQ underlying26) e6 (xD (A:=[]) (B:=[_]) (C:=[_,_]) (cs:=[_]) (off:=0) (size:=1) I I I I I (xD (A:=[_]) (B:=[_]) (C:=[_]) (cs:=[_]) (off:=1) (size:=1) I I I I H.cells (xD (A:=[_,_]) (B:=[_]) (C:=[]) (cs:=[_]) (off:=2) (size:=1) I I I I I uF)))) I (xY (A:=[]) (r':=.var b6 26 [vB s,ac,.slice none 0 0]) (zH (k:=0) (cs:=[_,_,_]) (vs:=[_,_,_]) I I I (ocr I (ocu H (ocr I oc0))) yB (bL I)) I I I (go3 ?_));refine yG (λE S=>zQ I (xN (cs:=[_,_,_]) mh0 underlying26 I yB I) E S) ?_;exact wR.fin1 ad hd0 H J
  refine go7 ?_;replace H:=H.mono ak;refine gv (yO (ps':=[(0,_),(1,_),(2,_)]) (vs:=[vB s,ac,aj]) underlying26 yS I (vQ underlying26) e6 (xD (A:=[]) (B:=[_]) (C:=[_,_]) (cs:=[_]) (off:=0) (size:=1) I I I I I (xD (A:=[_]) (B:=[_]) (C:=[_]) (cs:=[_]) (off:=1) (size:=1) I I I I H.cells (xD (A:=[_,_]) (B:=[_]) (C:=[]) (cs:=[_]) (off:=2) (size:=1) I I I I U.cells uF)))) I (xY (A:=[]) (r':=.var b6 26 [vB s,ac,aj]) (zH (k:=0) (cs:=[_,_,_]) (vs:=[_,_,_]) I I I (ocr I (ocu H (ocu U oc0))) yB (bL I)) I I I (go3 ?_));refine yG (λE S=>zQ I (xN (cs:=[_,_,_]) mh0 underlying26 I yB I) E S) ?_;exact wR.fin ad hd0 H U J
 replace G:=G.mono aa;refine go8 ?_;refine gU 6 50 (vB (((↑(zB (val (ys))).length:Int)=(1:Int))/\(((zB (val (ys))).getD (0) 0)=(1:Nat)))) ?_ ?_
 ·
  refine yD ((↑(zB (val (ys))).length:Int)=(1:Int)) (λO=>?_) (λO=>?_)
  ·
   refine gT O I (go3 ?_);refine gv (zU (q:=0) (0) underlying22 sizeOf127 I I G I oM) I (go3 ?_);refine gv (gW (k:=.u32) (q:=1) I I) I (go2 ?_);refine gqU ?_;exact y0e (xS O)
  refine gF O I (go6 ?_);refine gqU ?_;exact y0e (xT O)
 refine gc2 (λJ=>?_) λJ=>?_
 ·
  refine go9 ?_;replace D:=D.mono aa;refine gv (yO (ps':=[(0,_),(1,_),(2,_)]) (vs:=[vB s,v9,.slice none 0 0]) underlying26 yS I (vQ underlying26) e6 (xD (A:=[]) (B:=[_]) (C:=[_,_]) (cs:=[_]) (off:=0) (size:=1) I I I I I (xD (A:=[_]) (B:=[_]) (C:=[_]) (cs:=[_]) (off:=1) (size:=1) I I I I D.cells (xD (A:=[_,_]) (B:=[_]) (C:=[]) (cs:=[_]) (off:=2) (size:=1) I I I I I uF)))) I (xY (A:=[]) (r':=.var b6 26 [vB s,v9,.slice none 0 0]) (zH (k:=0) (cs:=[_,_,_]) (vs:=[_,_,_]) I I I (ocr I (ocu D (ocr I oc0))) yB (bL I)) I I I (go3 ?_));refine yG (λE S=>zQ I (xN (cs:=[_,_,_]) mh0 underlying26 I yB I) E S) ?_;have Z:=zE7 ab;exact wR.fin1 ad hd0 (by rw[Z,z2i];exact D) (by rw[Z,z2i];exact J)
 refine go7 ?_;replace D:=D.mono aa;refine gv (yO (ps':=[(0,_),(1,_),(2,_)]) (vs:=[vB s,v9,ai]) underlying26 yS I (vQ underlying26) e6 (xD (A:=[]) (B:=[_]) (C:=[_,_]) (cs:=[_]) (off:=0) (size:=1) I I I I I (xD (A:=[_]) (B:=[_]) (C:=[_]) (cs:=[_]) (off:=1) (size:=1) I I I I D.cells (xD (A:=[_,_]) (B:=[_]) (C:=[]) (cs:=[_]) (off:=2) (size:=1) I I I I G.cells uF)))) I (xY (A:=[]) (r':=.var b6 26 [vB s,v9,ai]) (zH (k:=0) (cs:=[_,_,_]) (vs:=[_,_,_]) I I I (ocr I (ocu D (ocu G oc0))) yB (bL I)) I I I (go3 ?_));refine yG (λE S=>zQ I (xN (cs:=[_,_,_]) mh0 underlying26 I yB I) E S) ?_;have Z:=zE7 ab;exact wR.fin ad hd0 (by rw[Z,z2i];exact D) (by rw[Z,z2i];exact G) (by rw[Z,z2i];exact J)
theorem zBG{n:Int}(hn1:-9223372036854775808<=n)(hn2:n<9223372036854775808):
 Calls prog 86 #[vI n] w0 (Ret w0 h0 (λh r=>∃u,r=.tuple #[u,vB (n<0)]/\Us .u32 h u (zB n.natAbs))):=by
 refine cb1 15 (vI n) func86 hs ?_;refine rN ?_;refine cnd (λC=>?_) λC=>?_
 ·
  refine go4 ?_;refine gv (nC I oM oM) I (gv (y5 (p:=(-(n+1)).toNat) (k':=.u64) (W:=18446744073709551616) underlying2 underlying130 I I (y0e (zbi vI oM)) oM) I (gv (tJ (k:=.u64) (q:=1) (W:=18446744073709551616) I I I I oM) I (cL (ev1 I) call131 (λw hs=>dZ hs oM) λM h1 H G=>(go6 ?_))));refine uA I I I ?_;rw[xR C,show n.natAbs=(-(n+1)).toNat+1 by omega];exact⟨_,I,G⟩
 refine go5 ?_;refine gv (y5 (p:=n.toNat) (k':=.u64) (W:=18446744073709551616) underlying2 underlying130 I I (y0e (zbi vI oM)) oM) I (cL (ev1 I) call131 (λw hs=>dZ hs oM) λJ h1 H D=>(go5 ?_));refine uA I I I ?_;rw[yV C,show n.natAbs=n.toNat by omega];exact⟨_,I,D⟩
theorem zQ9{n:Int}(hn1:-9223372036854775808<=n)(hn2:n<9223372036854775808){d:Int}(hd1:-9223372036854775808<=d)(hd2:d<9223372036854775808):
 Calls prog 49 #[vI n,vI d] w0 (Ret w0 h0 (λh r=>∃u,r=.tuple #[u,vI (if d=0 then 3 else 0)]/\wR h u (jS n d))):=by
 refine cb2 29 (vI n) (vI d) func49 hs ?_;refine go2 ?_;refine zF (wG (cs:=[vB ((0:Rat).num<0),.slice none 0 0,.slice none 0 0]) yS I (by simp only[zb];rfl)) I I I ?_;intro v4 r4 ab;obtain⟨b4,rfl,rfl⟩:=ab;refine zAV (λC=>?_) λC=>?_
 ·
  refine go2 ?_;refine gv (yO (ps':=[]) (vs:=[vB ((0:Rat).num<0),.slice none 0 0,.slice none 0 0]) underlying26 yS I (vQ underlying26) trivial (by simp only[zb];exact uF)) I (xY (A:=[]) (r':=.var b4 26 [vB ((0:Rat).num<0),.slice none 0 0,.slice none 0 0]) (zH (k:=0) (cs:=[_,_,_]) (vs:=[_,_,_]) I I I I yB (bL I)) I I I (go5 ?_));refine yG (λE S=>vO I (xN (cs:=[_,_,_]) mh0 underlying26 I yB I) (jE I) E S) ?_;rw[zau C,C,zEW];exact⟨_,I,wR.zero _⟩
 have ap:d.natAbs≠0:=by omega
 refine go5 ?_;refine cL (ev1 I) call86 (λw hs=>zBG hs oM oM) λaj h1 ao aa=>?_;obtain⟨am,rfl,D⟩:=aa;have ad:=gE (n:=n) oM oM;refine uQ ?_;refine cL (ev1 I) call86 (λw hs=>zBG hs oM oM) λai h2 ae Z=>?_;obtain⟨ak,rfl,U⟩:=Z;have ac:=gE (n:=d) oM oM;refine qG ?_;refine gv (tI underlying4 I I) I (go2 ?_);replace D:=D.mono ae;refine cL (ev3 I I I) call46 (λw hs=>rH hs D U oM oM (by first|(simp only[zE];omega)|(simp only[zE];first|exact zye _|exact z3e (zye _) (zye _)|exact yji|assumption)|assumption)) λah h3 an G=>?_
 try simp only[zE] at G
 obtain⟨M,O,rfl,H,J⟩:=G;refine xY (A:=[]) (r':=.var b4 26 [vB ((mkRat (sg (¬((n<0)↔(d<0))) (((n).natAbs))) (((d).natAbs))).num<0),M,O]) (zH (k:=0) (cs:=[_,_,_]) (vs:=[_,_,_]) I I I (ocr I (ocu H (ocu J oc0))) yB (bL I)) I I I (go4 ?_);refine yG (λE S=>vO I (xN (cs:=[_,_,_]) mh0 underlying26 I yB I) (jE I) E S) ?_;rw[zae C,<-zLA C];exact⟨_,I,_,_,I,H,J⟩
theorem zTY{n:Int}(hn1:-9223372036854775808<=n)(hn2:n<9223372036854775808):
 Calls prog 39 #[vI n] w0 (Ret w0 h0 (λh r=>wR h r (n:Rat))):=by
 refine cb1 13 (vI n) func39 hs ?_;refine go2 ?_;refine zF (wG (cs:=[vB ((0:Rat).num<0),.slice none 0 0,.slice none 0 0]) yS I (by simp only[zb];rfl)) I I I ?_;intro v2 r2 H;obtain⟨U,rfl,rfl⟩:=H;refine go5 ?_;refine cL (ev1 I) call86 (λw hs=>zBG hs oM oM) λZ h1 O G=>?_;obtain⟨J,rfl,D⟩:=G;have M:=gE (n:=n) oM oM;refine qG ?_;refine gv (yO (ps':=[(0,_),(1,_)]) (vs:=[vB (n<0),J,.slice none 0 0]) underlying26 yS I (vQ underlying26) e4z (xD (A:=[]) (B:=[_]) (C:=[_,_]) (cs:=[_]) (off:=0) (size:=1) I I I I I (xD (A:=[_]) (B:=[_]) (C:=[_]) (cs:=[_]) (off:=1) (size:=1) I I I I D.cells uF))) I (xY (A:=[]) (r':=.var U 26 [vB (n<0),J,.slice none 0 0]) (zH (k:=0) (cs:=[_,_,_]) (vs:=[_,_,_]) I I I (ocr I (ocu D (ocr I oc0))) yB (bL I)) I I I (go3 ?_));refine yG (λE S=>zQ I (xN (cs:=[_,_,_]) mh0 underlying26 I yB I) E S) ?_;exact wR.int D
theorem zGN{n:Int}(hn1:-9223372036854775808<=n)(hn2:n<9223372036854775808){d:Int}(hd1:-9223372036854775808<=d)(hd2:d<9223372036854775808):
 Calls prog 10 #[vI n,vI d] w0 (Ret w0 h0 (λh r=>wR h r (jS n d))):=by
 refine cb2 14 (vI n) (vI d) func10 hs ?_;refine go2 ?_;refine zF (wG (cs:=[vB ((0:Rat).num<0),.slice none 0 0,.slice none 0 0]) yS I (by simp only[zb];rfl)) I I I ?_;intro v4 r4 O;obtain⟨b4,rfl,rfl⟩:=O;refine go6 ?_;refine cL (ev2 I I) call49 (λw hs=>zQ9 hs oM oM oM oM) λZ h1 aa J=>?_;obtain⟨_,rfl,G,H,rfl,C,D⟩:=J;have U:=zDA (n:=n) (d:=d) oM oM oM oM;refine go3 ?_;refine zF (wG (cs:=[vB ((0:Rat).num<0),.slice none 0 0,.slice none 0 0]) yS I (by simp only[zb];rfl)) I I I ?_;intro v5 r5 M;obtain⟨b5,rfl,rfl⟩:=M;refine xY (A:=[]) (r':=.var b5 26 [vB ((jS n d).num<0),G,H]) (zH (k:=0) (cs:=[_,_,_]) (vs:=[_,_,_]) I I I (ocr I (ocu C (ocu D oc0))) yB (bL I)) I I I (go6 ?_);refine xY (A:=[_]) (r':=.var b4 26 [vB ((jS n d).num<0),G,H]) (zH (k:=0) (cs:=[_,_,_]) (vs:=[_,_,_]) I I I (ocr I (ocu C (ocu D oc0))) yB (bL I)) I I I (go3 ?_);refine yG (λE S=>zQ I (xN (cs:=[_,_,_]) mh1 underlying26 I yB I) E S) ?_;exact⟨_,_,I,C,D⟩
theorem zQ8{qa:Rat}{vna vda:Value}(hna:Us .u32 h0 vna (zB qa.num.natAbs))(hda:Us .u32 h0 vda (zB (wC qa.den))){qb:Rat}{vnb vdb:Value}(hnb:Us .u32 h0 vnb (zB qb.num.natAbs))(hdb:Us .u32 h0 vdb (zB (wC qb.den)))(hqa:lq qa<=100000000000)(hqb:lq qb<=100000000000):
 Calls prog 15 #[.agg #[vB (qa.num<0),vna,vda],.agg #[vB (qb.num<0),vnb,vdb]] w0 (Ret w0 h0 (λ_ r=>r=vB (qa=qb))):=by
 have ad:=wM qa;have ah:=wU qa;have aj:=wI qa;have ac:=wM qb;have ae:=wU qb;have ai:=wI qb;refine cb2 26 (.agg #[vB (qa.num<0),vna,vda]) (.agg #[vB (qb.num<0),vnb,vdb]) func15 hs ?_;refine go2 ?_;refine zF (xM (cs:=[_,_,_]) I I) I I I ?_;intro v2 r2 ab;obtain⟨b2,rfl,rfl⟩:=ab;refine zF (xM (cs:=[_,_,_]) I I) I I I ?_;intro v3 r3 aa;obtain⟨b3,rfl,rfl⟩:=aa;refine go9 ?_;refine gv (eG underlying4 I I) I ?_;refine uZ (ι:=Mem) 8 (λH=>MLe h0 H) (λ_=>[(17,vB (((qa.num<0)↔(qb.num<0))/\((tS (qa.num.natAbs) (qb.num.natAbs))=(0:Int)))),(2,vP b2 0),(3,vP b3 0)]) (λ_=>[.var b3 26 [vB (qb.num<0),vnb,vdb],.var b2 26 [vB (qa.num<0),vna,vda]]) (λH=>H) ?_ ?_
 ·
  refine yD ((qa.num<0)↔(qb.num<0)) (λG=>?_) (λG=>?_)
  ·
   refine gT G I (go9 ?_);refine cL (ev2 I I) call56 (λw hs=>mC hs hna hnb) λam h1 J U=>?_;subst U;refine go4 ?_;refine zS h1 J ⟨?_,I,I,y1i⟩ I I;exact y0e (xS G)
  refine gF G I (go8 ?_);refine zS h0 (MLe.refl _) ⟨?_,I,I,y1i⟩ I I;exact y0e (xT G)
 intro D C;refine sD ?_;refine uZ (ι:=Mem) 8 (λH=>MLe D H) (λ_=>[(25,vB ((((qa.num<0)↔(qb.num<0))/\((tS (qa.num.natAbs) (qb.num.natAbs))=(0:Int)))/\((tS ((wC qa.den)) ((wC qb.den)))=(0:Int))))]) (λ_=>[.var b3 26 [vB (qb.num<0),vnb,vdb],.var b2 26 [vB (qa.num<0),vna,vda]]) (λH=>H) ?_ ?_
 ·
  refine yD (((qa.num<0)↔(qb.num<0))/\((tS (qa.num.natAbs) (qb.num.natAbs))=(0:Int))) (λG=>?_) (λG=>?_)
  ·
   refine gT G I (go9 ?_);replace hda:=hda.mono C;replace hdb:=hdb.mono C;refine cL (ev2 I I) call56 (λw hs=>mC hs hda hdb) λak h1 J O=>?_;subst O;refine go4 ?_;refine zS h1 J ⟨?_,y1i⟩ I I;exact y0e (xS G)
  refine gF G I (go8 ?_);refine zS D (MLe.refl _) ⟨?_,y1i⟩ I I;exact y0e (xT G)
 intro Z M;refine sD ?_;refine go4 ?_;refine zD I I ?_;exact tB zWT
theorem zBH{qa:Rat}{vna vda:Value}(hna:Us .u32 h0 vna (zB qa.num.natAbs))(hda:Us .u32 h0 vda (zB (wC qa.den)))(hqa:lq qa<=100000000000):
 Calls prog 17 #[.agg #[vB (qa.num<0),vna,vda]] w0 (Ret w0 h0 (λ_ r=>r=vI (yW qa))):=by
 have H:=wM qa;have J:=wU qa;have M:=wI qa;refine cb1 9 (.agg #[vB (qa.num<0),vna,vda]) func17 hs ?_;refine go2 ?_;refine zF (xM (cs:=[_,_,_]) I I) I I I ?_;intro v1 r1 G;obtain⟨O,rfl,rfl⟩:=G;refine zJA (λD=>?_) λD=>?_
 ·
  refine go7 ?_;refine zD I I ?_;rw[lM (cR D)]
 refine gc9 (λC=>?_) λC=>?_
 ·
  refine go7 ?_;refine zD I I ?_;rw[t8 C]
 refine go8 ?_;refine zD I I ?_;rw[t7 (zEJ D) C]
theorem zJ7{qa:Rat}{vna vda:Value}(hna:Us .u32 h0 vna (zB qa.num.natAbs))(hda:Us .u32 h0 vda (zB (wC qa.den)))(hqa:lq qa<=100000000000):
 Calls prog 31 #[.agg #[vB (qa.num<0),vna,vda]] w0 (Ret w0 h0 (λh r=>wR h r (-qa))):=by
 have H:=wM qa;have J:=wU qa;have M:=wI qa;refine cb1 14 (.agg #[vB (qa.num<0),vna,vda]) func31 hs ?_;refine go2 ?_;refine zF (xM (cs:=[_,_,_]) I I) I I I ?_;intro v1 r1 G;obtain⟨U,rfl,rfl⟩:=G;refine zF (wG (cs:=[vB ((0:Rat).num<0),.slice none 0 0,.slice none 0 0]) yS I (by simp only[zb];rfl)) I I I ?_;intro v2 r2 D;obtain⟨O,rfl,rfl⟩:=D;refine go7 ?_;refine gU 6 11 (vB ((¬(qa.num<0))/\((0:Int)<(↑(zB qa.num.natAbs).length:Int)))) ?_ ?_
 ·
  refine yD (¬(qa.num<0)) (λC=>?_) (λC=>?_)
  ·
   refine gT C I (uQ ?_);refine gqU ?_;exact y0e (xS C)
  refine gF C I (go6 ?_);refine gqU ?_;exact y0e (xT C)
 refine go1 ?_;refine xY (A:=[_]) (r':=.var U 26 [vB ((¬(qa.num<0))/\((0:Int)<(↑(zB qa.num.natAbs).length:Int))),vna,vda]) (zH (k:=0) (cs:=[_,_,_]) (vs:=[_]) I I I I zTD (bL I)) I I I (go5 ?_);refine xY (A:=[]) (r':=.var O 26 [vB ((¬(qa.num<0))/\((0:Int)<(↑(zB qa.num.natAbs).length:Int))),vna,vda]) (zH (k:=0) (cs:=[_,_,_]) (vs:=[_,_,_]) I I I (ocr I (ocu hna (ocu hda oc0))) yB (bL I)) I I I (go3 ?_);refine yG (λE S=>zQ I (xN (cs:=[_,_,_]) mh0 underlying26 I yB I) E S) ?_;exact wR.negB hna hda
theorem zT0{qa:Rat}{vna vda:Value}(hna:Us .u32 h0 vna (zB qa.num.natAbs))(hda:Us .u32 h0 vda (zB (wC qa.den)))(hqa:lq qa<=100000000000):
 Calls prog 29 #[.agg #[vB (qa.num<0),vna,vda]] w0 (Ret w0 h0 (λh r=>wR h r (eZ qa))):=by
 have G:=wM qa;have H:=wU qa;have J:=wI qa;refine cb1 5 (.agg #[vB (qa.num<0),vna,vda]) func29 hs ?_;refine go2 ?_;refine zF (xM (cs:=[_,_,_]) I I) I I I ?_;intro v1 r1 D;obtain⟨O,rfl,rfl⟩:=D;refine zF (wG (cs:=[vB ((0:Rat).num<0),.slice none 0 0,.slice none 0 0]) yS I (by simp only[zb];rfl)) I I I ?_;intro v2 r2 C;obtain⟨M,rfl,rfl⟩:=C;refine go5 ?_;refine xY (A:=[_]) (r':=.var O 26 [.bool false,vna,vda]) (zH (k:=0) (cs:=[_,_,_]) (vs:=[_]) I I I I zTD (bL I)) I I I (go5 ?_);refine xY (A:=[]) (r':=.var M 26 [.bool false,vna,vda]) (zH (k:=0) (cs:=[_,_,_]) (vs:=[_,_,_]) I I I (ocr I (ocu hna (ocu hda oc0))) yB (bL I)) I I I (go3 ?_);refine yG (λE S=>zQ I (xN (cs:=[_,_,_]) mh0 underlying26 I yB I) E S) ?_;exact wR.abs hna hda
theorem zDY{qa:Rat}{vna vda:Value}(hna:Us .u32 h0 vna (zB qa.num.natAbs))(hda:Us .u32 h0 vda (zB (wC qa.den))){qb:Rat}{vnb vdb:Value}(hnb:Us .u32 h0 vnb (zB qb.num.natAbs))(hdb:Us .u32 h0 vdb (zB (wC qb.den)))(hqa:lq qa<=100000000000)(hqb:lq qb<=100000000000):
 Calls prog 37 #[.agg #[vB (qa.num<0),vna,vda],.agg #[vB (qb.num<0),vnb,vdb]] w0 (Ret w0 h0 (λh r=>wR h r (qa+qb))):=by
 have bx:=wM qa;have ca:=wU qa;have cc:=wI qa;have bw:=wM qb;have bz:=wU qb;have cb:=wI qb;refine cb2 75 (.agg #[vB (qa.num<0),vna,vda]) (.agg #[vB (qb.num<0),vnb,vdb]) func37 hs ?_;refine go2 ?_;refine zF (xM (cs:=[_,_,_]) I I) I I I ?_;intro v2 r2 bo;obtain⟨b2,rfl,rfl⟩:=bo;refine zF (xM (cs:=[_,_,_]) I I) I I I ?_;intro v3 r3 bn;obtain⟨b3,rfl,rfl⟩:=bn;refine zF (wG (cs:=[vB ((0:Rat).num<0),.slice none 0 0,.slice none 0 0]) yS I (by simp only[zb];rfl)) I I I ?_;intro v4 r4 bm;obtain⟨b4,rfl,rfl⟩:=bm;refine zE9 (λay=>?_) λay=>?_
 ·
  refine go3 ?_;refine xY (A:=[]) (r':=.var b4 26 [vB (qb.num<0),vnb,vdb]) (zH (k:=0) (cs:=[_,_,_]) (vs:=[_,_,_]) I I I (ocr I (ocu hnb (ocu hdb oc0))) yB (bL I)) I I I (go4 ?_);refine yG (λE S=>zQ I (xN (cs:=[_,_,_]) mh0 underlying26 I yB I) E S) ?_;rw[cR ay,Rat.zero_add];exact⟨_,_,I,hnb,hdb⟩
 refine zE9 (λax=>?_) λax=>?_
 ·
  refine go3 ?_;refine xY (A:=[]) (r':=.var b4 26 [vB (qa.num<0),vna,vda]) (zH (k:=0) (cs:=[_,_,_]) (vs:=[_,_,_]) I I I (ocr I (ocu hna (ocu hda oc0))) yB (bL I)) I I I (go4 ?_);refine yG (λE S=>zQ I (xN (cs:=[_,_,_]) mh0 underlying26 I yB I) E S) ?_;rw[cR ax,Rat.add_zero];exact⟨_,_,I,hna,hda⟩
 refine go3 ?_;refine zK 12 _ [] [(0,.q),(1,.q),(2,.q),(5,.q),(6,.q),(7,.q),(3,.c),(4,.c),(8,.c),(9,.c),(10,.q),(11,.q)] yC nX zot nX (λr hr=>hr) (go6 ?_);refine w_c I (sC (ev1 I) call48 (λw hs=>sH hs I hnb hdb) λcq h1 ao aw=>?_);rw[uP] at aw;refine w_c I ?_;replace hna:=hna.mono ao;refine sC (ev2 I I) call47 (λw hs=>pW hs hna aw oM oM) λcp h2 an D=>?_
 try simp only[zE] at D
 have bu:=yH ((qa.num.natAbs)) ((qb.den));refine w_c I ?_;replace hna:=hna.mono an;replace hda:=hda.mono (ao.trans an);refine sC (ev1 I) call48 (λw hs=>sH hs I hna hda) λco h3 Z av=>?_;rw[uP] at av;refine w_c I ?_;replace hnb:=hnb.mono ((ao.trans an).trans Z);refine sC (ev2 I I) call47 (λw hs=>pW hs hnb av oM oM) λcn h4 U C=>?_
 try simp only[zE] at C
 have bt:=yH ((qb.num.natAbs)) ((qa.den));refine go5 ?_;refine zK 6 _ [] [(0,.q),(2,.q),(1,.c),(3,.c),(4,.c),(5,.q)] yC nX zot nX (λr hr=>hr) (go2 ?_);refine w_c I ?_;replace hna:=hna.mono (Z.trans U);replace hda:=hda.mono (Z.trans U);refine sC (ev1 I) call48 (λw hs=>sH hs I hna hda) λcm h5 O J=>?_;rw[uP] at J;refine w_c I ?_;replace hnb:=hnb.mono (U.trans O);replace hdb:=hdb.mono ((((ao.trans an).trans Z).trans U).trans O);refine sC (ev1 I) call48 (λw hs=>sH hs I hnb hdb) λcl h6 ad au=>?_;rw[uP] at au;refine w_c I ?_;replace J:=J.mono ad;refine sC (ev2 I I) call47 (λw hs=>pW hs J au oM oM) λck h7 am G=>?_
 try simp only[zE] at G
 have bs:=yH ((qa.den)) ((qb.den));refine uQ ?_;refine gv (eG underlying4 I I) I (gc2 (λM=>?_) λM=>?_)
 ·
  refine go1 ?_;refine zK 7 _ [] (zai 0 4 [(5,.q),(4,.c),(6,.c),(7,.t)]) yC nX zot nX (λr hr=>hr) (go5 ?_);refine w_c I ?_;replace D:=D.mono ((((Z.trans U).trans O).trans ad).trans am);replace C:=C.mono ((O.trans ad).trans am);refine sC (ev2 I I) call84 (λw hs=>zYK hs D C oM oM) λcj h8 H bk=>?_;have br:=uJ ((((qa.num.natAbs))*((qb.den)))) ((((qb.num.natAbs))*((qa.den))));refine w_c I ?_;replace G:=G.mono H;refine sC (ev3 I I I) call46 (λw hs=>rH hs bk G oM oM (by first|(simp only[zE];omega)|(simp only[zE];first|exact zye _|exact z3e (zye _) (zye _)|exact yji|assumption)|assumption)) λci h9 ak ar=>?_
  try simp only[zE] at ar
  obtain⟨bb,be,rfl,ac,ai⟩:=ar;refine gL (A:=[]) (q':=.var b4 26 [vB ((mkRat (sg (qa.num<0) (((((((qa.num.natAbs))*((qb.den))))+((((qb.num.natAbs))*((qa.den)))))))) (((((qa.den))*((qb.den)))))).num<0),bb,be]) I (zH (k:=0) (cs:=[_,_,_]) (vs:=[_,_,_]) I I I (ocr I (ocu ac (ocu ai oc0))) yB (bL I)) I (go4 ?_);refine yG (λE S=>zQ I (xN (cs:=[_,_,_]) mh0 underlying26 I yB I) E S) ?_;rw[zXL M] at ac ai ⊢;exact⟨_,_,I,ac,ai⟩
 refine go7 ?_;replace D:=D.mono ((((Z.trans U).trans O).trans ad).trans am);replace C:=C.mono ((O.trans ad).trans am);refine cL (ev2 I I) call56 (λw hs=>mC hs D C) λch h8 H bj=>?_;subst bj;refine gc3 (λaj=>?_) λaj=>?_
 ·
  refine go4 ?_;replace D:=D.mono H;replace C:=C.mono H;refine cL (ev2 I I) call85 (λw hs=>zPC hs C D oM) λcg h9 ak bi=>?_;obtain⟨cu,rfl,bg⟩:=bi;have bq:=zR (yiu ((((qb.num.natAbs))*((qa.den)))) ((((qa.num.natAbs))*((qb.den)))));refine rN ?_;replace G:=G.mono (H.trans ak);refine cL (ev3 I I I) call46 (λw hs=>rH hs bg G oM oM (by first|(simp only[zE];omega)|(simp only[zE];first|exact zye _|exact z3e (zye _) (zye _)|exact yji|assumption)|assumption)) λcf bv bl aq=>?_
  try simp only[zE] at aq
  obtain⟨ba,bd,rfl,ab,ah⟩:=aq;refine xY (A:=[]) (r':=.var b4 26 [vB ((mkRat (sg (qb.num<0) (((((((qb.num.natAbs))*((qa.den))))-((((qa.num.natAbs))*((qb.den)))))))) (((((qa.den))*((qb.den)))))).num<0),ba,bd]) (zH (k:=0) (cs:=[_,_,_]) (vs:=[_,_,_]) I I I (ocr I (ocu ab (ocu ah oc0))) yB (bL I)) I I I (go4 ?_);refine yG (λE S=>zQ I (xN (cs:=[_,_,_]) mh0 underlying26 I yB I) E S) ?_;rw[yFF M (by have:=fC.1 aj;omega)] at ab ah ⊢;exact⟨_,_,I,ab,ah⟩
 refine go6 ?_;replace D:=D.mono H;replace C:=C.mono H;refine cL (ev2 I I) call85 (λw hs=>zPC hs D C oM) λce h9 ak bh=>?_;obtain⟨ct,rfl,bf⟩:=bh;have bp:=zR (yiu ((((qa.num.natAbs))*((qb.den)))) ((((qb.num.natAbs))*((qa.den)))));refine rN ?_;replace G:=G.mono (H.trans ak);refine cL (ev3 I I I) call46 (λw hs=>rH hs bf G oM oM (by first|(simp only[zE];omega)|(simp only[zE];first|exact zye _|exact z3e (zye _) (zye _)|exact yji|assumption)|assumption)) λcd bv bl ap=>?_
 try simp only[zE] at ap
 obtain⟨az,bc,rfl,aa,ae⟩:=ap;refine xY (A:=[]) (r':=.var b4 26 [vB ((mkRat (sg (qa.num<0) (((((((qa.num.natAbs))*((qb.den))))-((((qb.num.natAbs))*((qa.den)))))))) (((((qa.den))*((qb.den)))))).num<0),az,bc]) (zH (k:=0) (cs:=[_,_,_]) (vs:=[_,_,_]) I I I (ocr I (ocu aa (ocu ae oc0))) yB (bL I)) I I I (go3 ?_);refine yG (λE S=>zQ I (xN (cs:=[_,_,_]) mh0 underlying26 I yB I) E S) ?_;rw[yFG M (ybe (λh=>aj (fC.2 h)))] at aa ae ⊢;exact⟨_,_,I,aa,ae⟩
theorem zTV{qa:Rat}{vna vda:Value}(hna:Us .u32 h0 vna (zB qa.num.natAbs))(hda:Us .u32 h0 vda (zB (wC qa.den))){qb:Rat}{vnb vdb:Value}(hnb:Us .u32 h0 vnb (zB qb.num.natAbs))(hdb:Us .u32 h0 vdb (zB (wC qb.den)))(hqa:lq qa<=100000000000)(hqb:lq qb<=100000000000):
 Calls prog 16 #[.agg #[vB (qa.num<0),vna,vda],.agg #[vB (qb.num<0),vnb,vdb]] w0 (Ret w0 h0 (λh r=>wR h r (qa-qb))):=by
 have ai:=wM qa;have ak:=wU qa;have an:=wI qa;have ah:=wM qb;have aj:=wU qb;have am:=wI qb;refine cb2 9 (.agg #[vB (qa.num<0),vna,vda]) (.agg #[vB (qb.num<0),vnb,vdb]) func16 hs ?_;refine go2 ?_;refine zF (xM (cs:=[_,_,_]) I I) I I I ?_;intro v2 r2 aa;obtain⟨b2,rfl,rfl⟩:=aa;refine zF (xM (cs:=[_,_,_]) I I) I I I ?_;intro v3 r3 Z;obtain⟨b3,rfl,rfl⟩:=Z;refine zF (wG (cs:=[vB ((0:Rat).num<0),.slice none 0 0,.slice none 0 0]) yS I (by simp only[zb];rfl)) I I I ?_;intro v4 r4 U;obtain⟨b4,rfl,rfl⟩:=U;refine go3 ?_;refine zK 4 _ [] [(0,.q),(1,.q),(2,.c),(3,.c),(4,.t)] yC nX zot nX (λr hr=>hr) (go2 ?_);refine w_c I (sC (ev1 I) call31 (λw hs=>zJ7 hs hnb hdb oM) λv7 h1 G O=>?_);obtain⟨ao,ap,rfl,ab,ac⟩:=O;have ae:=zOA qb;refine w_c I ?_;replace hna:=hna.mono G;replace hda:=hda.mono G;refine sC (ev2 I I) call37 (λw hs=>zDY hs hna hda ab ac oM oM) λv8 h2 aq M=>?_;obtain⟨H,J,rfl,C,D⟩:=M;have ad:=jX qa (-qb);refine gL (A:=[]) (q':=.var b4 26 [vB ((qa+(-qb)).num<0),H,J]) I (zH (k:=0) (cs:=[_,_,_]) (vs:=[_,_,_]) I I I (ocr I (ocu C (ocu D oc0))) yB (bL I)) I (go3 ?_);refine yG (λE S=>zQ I (xN (cs:=[_,_,_]) mh0 underlying26 I yB I) E S) ?_;rw[<-yyi] at C D ⊢;exact⟨_,_,I,C,D⟩
theorem zJ8{qa:Rat}{vna vda:Value}(hna:Us .u32 h0 vna (zB qa.num.natAbs))(hda:Us .u32 h0 vda (zB (wC qa.den))){qb:Rat}{vnb vdb:Value}(hnb:Us .u32 h0 vnb (zB qb.num.natAbs))(hdb:Us .u32 h0 vdb (zB (wC qb.den)))(hqa:lq qa<=100000000000)(hqb:lq qb<=100000000000):
 Calls prog 9 #[.agg #[vB (qa.num<0),vna,vda],.agg #[vB (qb.num<0),vnb,vdb]] w0 (Ret w0 h0 (λh r=>wR h r (qa*qb))):=by
 have an:=wM qa;have ap:=wU qa;have ar:=wI qa;have am:=wM qb;have ao:=wU qb;have aq:=wI qb;refine cb2 21 (.agg #[vB (qa.num<0),vna,vda]) (.agg #[vB (qb.num<0),vnb,vdb]) func9 hs ?_;refine go2 ?_;refine zF (xM (cs:=[_,_,_]) I I) I I I ?_;intro v2 r2 ah;obtain⟨b2,rfl,rfl⟩:=ah;refine zF (xM (cs:=[_,_,_]) I I) I I I ?_;intro v3 r3 ae;obtain⟨b3,rfl,rfl⟩:=ae;refine zF (wG (cs:=[vB ((0:Rat).num<0),.slice none 0 0,.slice none 0 0]) yS I (by simp only[zb];rfl)) I I I ?_;intro v4 r4 ad;obtain⟨b4,rfl,rfl⟩:=ad;refine go3 ?_;refine zK 16 _ [] (zai 0 9 [(10,.q),(12,.q),(9,.c),(11,.c),(13,.c),(14,.c),(15,.c),(16,.t)]) yC nX zot nX (λr hr=>hr) (go4 ?_);refine wK I (λ_ _=>tI underlying4 I I) I (go6 ?_);refine w_c I (sC (ev2 I I) call47 (λw hs=>pW hs hna hnb oM oM) λay h1 J D=>?_)
 try simp only[zE] at D
 have aj:=yH ((qa.num.natAbs)) ((qb.num.natAbs));refine w_c I ?_;replace hna:=hna.mono J;replace hda:=hda.mono J;refine sC (ev1 I) call48 (λw hs=>sH hs I hna hda) λax h2 Z C=>?_;rw[uP] at C;refine w_c I ?_;replace hnb:=hnb.mono (J.trans Z);replace hdb:=hdb.mono (J.trans Z);refine sC (ev1 I) call48 (λw hs=>sH hs I hnb hdb) λaw h3 ac U=>?_;rw[uP] at U;refine w_c I ?_;replace C:=C.mono ac;refine sC (ev2 I I) call47 (λw hs=>pW hs C U oM oM) λav h4 ak O=>?_
 try simp only[zE] at O
 have ai:=yH ((qa.den)) ((qb.den));refine w_c I ?_;replace D:=D.mono ((Z.trans ac).trans ak);refine sC (ev3 I I I) call46 (λw hs=>rH hs D O oM oM (by first|(simp only[zE];omega)|(simp only[zE];first|exact zye _|exact z3e (zye _) (zye _)|exact yji|assumption)|assumption)) λau h5 az M=>?_
 try simp only[zE] at M
 obtain⟨aa,ab,rfl,G,H⟩:=M;refine gL (A:=[]) (q':=.var b4 26 [vB ((mkRat (sg (¬((qa.num<0)↔(qb.num<0))) (((((qa.num.natAbs))*((qb.num.natAbs)))))) (((((qa.den))*((qb.den)))))).num<0),aa,ab]) I (zH (k:=0) (cs:=[_,_,_]) (vs:=[_,_,_]) I I I (ocr I (ocu G (ocu H oc0))) yB (bL I)) I (go3 ?_);refine yG (λE S=>zQ I (xN (cs:=[_,_,_]) mh0 underlying26 I yB I) E S) ?_;rw[zU9] at G H ⊢;exact⟨_,_,I,G,H⟩
theorem zTW{qa:Rat}{vna vda:Value}(hna:Us .u32 h0 vna (zB qa.num.natAbs))(hda:Us .u32 h0 vda (zB (wC qa.den))){qb:Rat}{vnb vdb:Value}(hnb:Us .u32 h0 vnb (zB qb.num.natAbs))(hdb:Us .u32 h0 vdb (zB (wC qb.den)))(hqa:lq qa<=100000000000)(hqb:lq qb<=100000000000):
 Calls prog 112 #[.agg #[vB (qa.num<0),vna,vda],.agg #[vB (qb.num<0),vnb,vdb]] w0 (Ret w0 h0 (λh r=>∃u,r=.tuple #[u,vI (if qb=0 then 3 else 0)]/\wR h u (if qb=0 then 0 else qa/qb))):=by
 have aq:=wM qa;have au:=wU qa;have aw:=wI qa;have ap:=wM qb;have ar:=wU qb;have av:=wI qb;refine cb2 27 (.agg #[vB (qa.num<0),vna,vda]) (.agg #[vB (qb.num<0),vnb,vdb]) func112 hs ?_;refine go2 ?_;refine zF (xM (cs:=[_,_,_]) I I) I I I ?_;intro v2 r2 aj;obtain⟨b2,rfl,rfl⟩:=aj;refine zF (xM (cs:=[_,_,_]) I I) I I I ?_;intro v3 r3 ai;obtain⟨b3,rfl,rfl⟩:=ai;refine zF (wG (cs:=[vB ((0:Rat).num<0),.slice none 0 0,.slice none 0 0]) yS I (by simp only[zb];rfl)) I I I ?_;intro v4 r4 ah;obtain⟨b4,rfl,rfl⟩:=ah;refine zJA (λH=>?_) λH=>?_
 ·
  refine go2 ?_;refine gv (yO (ps':=[]) (vs:=[vB ((0:Rat).num<0),.slice none 0 0,.slice none 0 0]) underlying26 yS I (vQ underlying26) trivial (by simp only[zb];exact uF)) I (xY (A:=[]) (r':=.var b4 26 [vB ((0:Rat).num<0),.slice none 0 0,.slice none 0 0]) (zH (k:=0) (cs:=[_,_,_]) (vs:=[_,_,_]) I I I I yB (bL I)) I I I (go5 ?_));refine yG (λE S=>vO I (xN (cs:=[_,_,_]) mh0 underlying26 I yB I) (jE I) E S) ?_;rw[zau (cR H),zau (cR H)];exact⟨_,I,wR.zero _⟩
 have J:=zEJ H;have ao:=zEK.2 J;have bd:qa.den*qb.num.natAbs≠0:=z3e qa.den_nz ao;refine go3 ?_;refine zK 16 _ [] (zai 0 8 [(10,.q),(12,.q),(13,.q),(8,.c),(9,.c),(11,.c),(14,.c),(15,.c),(16,.t),(17,.t)]) yC nX zot nX (λr hr=>hr) (go4 ?_);refine wK I (λ_ _=>tI underlying4 I I) I (go6 ?_);refine w_c I (sC (ev1 I) call48 (λw hs=>sH hs I hnb hdb) λbb h1 ab Z=>?_);rw[uP] at Z;refine w_c I ?_;replace hna:=hna.mono ab;refine sC (ev2 I I) call47 (λw hs=>pW hs hna Z oM oM) λba h2 aa C=>?_
 try simp only[zE] at C
 have am:=yH ((qa.num.natAbs)) ((qb.den));refine w_c I ?_;replace hna:=hna.mono aa;replace hda:=hda.mono (ab.trans aa);refine sC (ev1 I) call48 (λw hs=>sH hs I hna hda) λaz h3 ae U=>?_;rw[uP] at U;refine w_c I ?_;replace hnb:=hnb.mono ((ab.trans aa).trans ae);refine sC (ev2 I I) call47 (λw hs=>pW hs U hnb oM oM) λay h4 an O=>?_
 try simp only[zE] at O
 have ak:=yH ((qa.den)) ((qb.num.natAbs));refine w_c I ?_;replace C:=C.mono (ae.trans an);refine sC (ev3 I I I) call46 (λw hs=>rH hs C O oM oM (by first|(simp only[zE];omega)|(simp only[zE];first|exact zye _|exact z3e (zye _) (zye _)|exact yji|assumption)|assumption)) λax h5 bc M=>?_
 try simp only[zE] at M
 obtain⟨ac,ad,rfl,D,G⟩:=M;refine gL (A:=[]) (q':=.var b4 26 [vB ((mkRat (sg (¬((qa.num<0)↔(qb.num<0))) (((((qa.num.natAbs))*((qb.den)))))) (((((qa.den))*((qb.num.natAbs)))))).num<0),ac,ad]) I (zH (k:=0) (cs:=[_,_,_]) (vs:=[_,_,_]) I I I (ocr I (ocu D (ocu G oc0))) yB (bL I)) I (iB I (fZ (v:=vI (0)) I) I (go3 ?_));refine yG (λE S=>vO I (xN (cs:=[_,_,_]) mh0 underlying26 I yB I) (jE I) E S) ?_;rw[zae J,zae J];rw[zUB _ J] at D G ⊢;exact⟨_,I,_,_,I,D,G⟩
theorem zTZ{qa:Rat}{vna vda:Value}(hna:Us .u32 h0 vna (zB qa.num.natAbs))(hda:Us .u32 h0 vda (zB (wC qa.den))){qb:Rat}{vnb vdb:Value}(hnb:Us .u32 h0 vnb (zB qb.num.natAbs))(hdb:Us .u32 h0 vdb (zB (wC qb.den)))(hqa:lq qa<=100000000000)(hqb:lq qb<=100000000000):
 Calls prog 18 #[.agg #[vB (qa.num<0),vna,vda],.agg #[vB (qb.num<0),vnb,vdb]] w0 (Ret w0 h0 (λ_ r=>r=vI (wQ qa qb))):=by
 have au:=wM qa;have aw:=wU qa;have ay:=wI qa;have ar:=wM qb;have av:=wU qb;have ax:=wI qb;have bg:-1<=tS (qa.num.natAbs*qb.den) (qb.num.natAbs*qa.den)/\tS (qa.num.natAbs*qb.den) (qb.num.natAbs*qa.den)<=1:=zL2 qa qb;refine cb2 34 (.agg #[vB (qa.num<0),vna,vda]) (.agg #[vB (qb.num<0),vnb,vdb]) func18 hs ?_;refine go2 ?_;refine zF (xM (cs:=[_,_,_]) I I) I I I ?_;intro v2 r2 am;obtain⟨b2,rfl,rfl⟩:=am;refine zF (xM (cs:=[_,_,_]) I I) I I I ?_;intro v3 r3 ak;obtain⟨b3,rfl,rfl⟩:=ak;refine go5 ?_;refine zK 6 _ [] [(0,.q),(2,.q),(1,.c),(3,.c),(4,.q),(5,.q)] yC nX zot nX (λr hr=>hr) (go2 ?_);refine w_c I (sC (ev1 I) call17 (λw hs=>zBH hs hna hda oM) λv9 h1 M aj=>?_);have aq:=wB qa;subst aj;refine w_c I ?_;replace hnb:=hnb.mono M;replace hdb:=hdb.mono M;refine sC (ev1 I) call17 (λw hs=>zBH hs hnb hdb oM) λbe h2 J ae=>?_;have ai:=wB qb;subst ae;refine zE9 (λD=>?_) λD=>?_
 ·
  refine gc8 (λH=>?_) λH=>?_
  ·
   refine go8 ?_;refine zD I I ?_;rw[zAZ D,zau H]
  refine go9 ?_;refine zD I I ?_;rw[zAZ D,zae H]
 have ac:=zJW D;refine go3 ?_;refine zK 12 _ [] [(0,.q),(1,.q),(2,.q),(5,.q),(6,.q),(7,.q),(3,.c),(4,.c),(8,.c),(9,.c),(10,.c),(11,.q)] yC nX zot nX (λr hr=>hr) (go6 ?_);refine w_c I ?_;replace hnb:=hnb.mono J;replace hdb:=hdb.mono J;refine sC (ev1 I) call48 (λw hs=>sH hs I hnb hdb) λbd h3 ab Z=>?_;rw[uP] at Z;refine w_c I ?_;replace hna:=hna.mono ((M.trans J).trans ab);refine sC (ev2 I I) call47 (λw hs=>pW hs hna Z oM oM) λbc h4 aa C=>?_
 try simp only[zE] at C
 have ao:=yH ((qa.num.natAbs)) ((qb.den));refine w_c I ?_;replace hna:=hna.mono aa;replace hda:=hda.mono (((M.trans J).trans ab).trans aa);refine sC (ev1 I) call48 (λw hs=>sH hs I hna hda) λbb h5 ah U=>?_;rw[uP] at U;refine w_c I ?_;replace hnb:=hnb.mono ((ab.trans aa).trans ah);refine sC (ev2 I I) call47 (λw hs=>pW hs hnb U oM oM) λba h6 ap O=>?_
 try simp only[zE] at O
 have an:=yH ((qb.num.natAbs)) ((qa.den));refine w_c I ?_;replace C:=C.mono (ah.trans ap);refine sC (ev2 I I) call56 (λw hs=>mC hs C O) λaz h7 bf ad=>?_;subst ad;refine zAV (λG=>?_) λG=>?_
 ·
  refine go3 ?_;refine gv (nC I oM oM) I (go5 ?_);refine zD I I ?_;rw[zQI ac G];rfl
 refine go9 ?_;refine zD I I ?_;rw[zLX ac G];rfl
theorem zTX{qa:Rat}{vna vda:Value}(hna:Us .u32 h0 vna (zB qa.num.natAbs))(hda:Us .u32 h0 vda (zB (wC qa.den))){qb:Rat}{vnb vdb:Value}(hnb:Us .u32 h0 vnb (zB qb.num.natAbs))(hdb:Us .u32 h0 vdb (zB (wC qb.den)))(hqa:lq qa<=10000000000)(hqb:lq qb<=10000000000):
 Calls prog 38 #[.agg #[vB (qa.num<0),vna,vda],.agg #[vB (qb.num<0),vnb,vdb]] w0 (Ret w0 h0 (λh r=>wR h r (zBS qa qb))):=by
 have an:=wM qa;have ap:=wU qa;have ar:=wI qa;have am:=wM qb;have ao:=wU qb;have aq:=wI qb;refine cb2 10 (.agg #[vB (qa.num<0),vna,vda]) (.agg #[vB (qb.num<0),vnb,vdb]) func38 hs ?_;refine go2 ?_;refine zF (xM (cs:=[_,_,_]) I I) I I I ?_;intro v2 r2 ad;obtain⟨b2,rfl,rfl⟩:=ad;refine zF (xM (cs:=[_,_,_]) I I) I I I ?_;intro v3 r3 ac;obtain⟨b3,rfl,rfl⟩:=ac;refine zF (wG (cs:=[vB ((0:Rat).num<0),.slice none 0 0,.slice none 0 0]) yS I (by simp only[zb];rfl)) I I I ?_;intro v4 r4 ab;obtain⟨b4,rfl,rfl⟩:=ab;refine go6 ?_;refine cL (ev2 I I) call37 (λw hs=>zDY hs hna hda hnb hdb oM oM) λv7 h1 az aa=>?_;obtain⟨av,ax,rfl,D,H⟩:=aa;have ak:=jX qa qb;refine cL (vs:=[vI (1),vI (2)]) e2z call10 (λw hs=>zGN hs oM oM oM oM) λv8 h2 J Z=>?_;have aj:=zDA (n:=(1:Int)) (d:=(2:Int)) oM oM oM oM;obtain⟨au,aw,rfl,ae,ah⟩:=Z;replace D:=D.mono J;replace H:=H.mono J;refine cL (ev2 I I) call9 (λw hs=>zJ8 hs D H ae ah oM oM) λv9 h3 ay U=>?_;obtain⟨M,O,rfl,C,G⟩:=U;have ai:=rA (qa+qb) (jS (1:Int) (2:Int));refine xY (A:=[]) (r':=.var b4 26 [vB (((qa+qb)*(jS (1:Int) (2:Int))).num<0),M,O]) (zH (k:=0) (cs:=[_,_,_]) (vs:=[_,_,_]) I I I (ocr I (ocu C (ocu G oc0))) yB (bL I)) I I I (go3 ?_);refine yG (λE S=>zQ I (xN (cs:=[_,_,_]) mh0 underlying26 I yB I) E S) ?_;rw[zHB] at C G ⊢;exact⟨_,_,I,C,G⟩
theorem zQ7{qa:Rat}{vna vda:Value}(hna:Us .u32 h0 vna (zB qa.num.natAbs))(hda:Us .u32 h0 vda (zB (wC qa.den)))(hqa:lq qa<=100000000000):
 Calls prog 173 #[.agg #[vB (qa.num<0),vna,vda]] w0 (Ret w0 h0 (λ_ r=>r=.string (qD (qF qa)))):=by
 have ab:=wM qa;have ac:=wU qa;have ad:=wI qa;refine cb1 22 (.agg #[vB (qa.num<0),vna,vda]) func173 hs ?_;refine go2 ?_;refine zF (xM (cs:=[_,_,_]) I I) I I I ?_;intro v1 r1 U;obtain⟨b1,rfl,rfl⟩:=U;refine go7 ?_;refine cL (ev1 I) call197 (λw hs=>zD2 hs hna oM) λv6 h1 J O=>?_;subst O;have aa:=j2 ((qa.num.natAbs));refine zAV (λG=>?_) λG=>?_
 ·
  refine go2 ?_;refine gv (wT (pa:=([45]:List Nat)) (pb:=(txt ((qa.num.natAbs)))) I I zou) I ?_;replace hda:=hda.mono J;refine zJA (λC=>?_) λC=>?_
  ·
   refine go4 ?_;refine cL (ev1 I) call197 (λw hs=>zD2 hs hda oM) λM h2 Z D=>?_;subst D;have H:=j2 (((wC qa.den)));refine gv (wT (pa:=([47]:List Nat)) (pb:=(txt (((wC qa.den))))) I I zou) I (gv (wT (pa:=(([45]:List Nat)++(txt ((qa.num.natAbs))))) (pb:=(([47]:List Nat)++(txt (((wC qa.den)))))) I I zou) I (uQ ?_));refine zD I I ?_;rw[<-yBO G C]
  refine go9 ?_;refine zD I I ?_;rw[<-zXU G C]
 replace hda:=hda.mono J;refine zE9 (λC=>?_) λC=>?_
 ·
  refine go4 ?_;refine cL (ev1 I) call197 (λw hs=>zD2 hs hda oM) λM h2 Z D=>?_;subst D;have H:=j2 (((wC qa.den)));refine gv (wT (pa:=([47]:List Nat)) (pb:=(txt (((wC qa.den))))) I I zou) I (gv (wT (pa:=(txt ((qa.num.natAbs)))) (pb:=(([47]:List Nat)++(txt (((wC qa.den)))))) I I zou) I (uQ ?_));refine zD I I ?_;rw[<-zXV G C]
 refine go9 ?_;refine zD I I ?_;rw[<-zXW G C]
theorem rJ{k l:Nat}{va:Value}{a:Rat}(ra:(rpQ k).Is h0 va a){vb:Value}{b:Rat}(rb:(rpQ l).Is h0 vb b)(hcd0:k+l<=10000000000):
 Calls prog 70 #[va,vb] w0 (Ret w0 h0 (λh r=>(rpQ (k+l+1)).Is h r (a+b))):=by
 obtain⟨M,U,rfl,D,H,aa⟩:=qN ra;obtain⟨J,O,rfl,C,G,Z⟩:=qN rb;exact(zH4 hs D H C G oM oM).mono (jR λh r x=>oN x (by have:=jX a b;omega))
theorem bU{k l:Nat}{va:Value}{a:Rat}(ra:(rpQ k).Is h0 va a){vb:Value}{b:Rat}(rb:(rpQ l).Is h0 vb b)(hcd0:k+l<=10000000000):
 Calls prog 179 #[va,vb] w0 (Ret w0 h0 (λh r=>(rpQ (k+l+1)).Is h r (a-b))):=by
 obtain⟨M,U,rfl,D,H,aa⟩:=qN ra;obtain⟨J,O,rfl,C,G,Z⟩:=qN rb;exact(zYM hs D H C G oM oM).mono (jR λh r x=>oN x (by have:=mN a b;omega))
theorem kG{k l:Nat}{va:Value}{a:Rat}(ra:(rpQ k).Is h0 va a){vb:Value}{b:Rat}(rb:(rpQ l).Is h0 vb b)(hcd0:k+l<=10000000000):
 Calls prog 76 #[va,vb] w0 (Ret w0 h0 (λh r=>(rpQ (k+l)).Is h r (a*b))):=by
 obtain⟨M,U,rfl,D,H,aa⟩:=qN ra;obtain⟨J,O,rfl,C,G,Z⟩:=qN rb;exact(zYO hs D H C G oM oM).mono (jR λh r x=>oN x (by have:=rA a b;omega))
theorem y7{k:Nat}{va:Value}{a:Rat}(ra:(rpQ k).Is h0 va a)(hcd0:k<=10000000000):
 Calls prog 51 #[va] w0 (Ret w0 h0 (λ_ r=>r=vI (yW a))):=by
 obtain⟨G,H,rfl,C,D,J⟩:=qN ra;exact s6 hs C D oM
theorem zGW{k l:Nat}{va:Value}{a:Rat}(ra:(rpQ k).Is h0 va a){vb:Value}{b:Rat}(rb:(rpQ l).Is h0 vb b)(hcd0:k+l<=10000000000):
 Calls prog 74 #[va,vb] w0 (Ret w0 h0 (λh r=>∃u0,r=.tuple #[u0,vI (if b=0 then 3 else 0)]/\(rpQ (k+l)).Is h u0 (if b=0 then 0 else a/b))):=by
 obtain⟨M,U,rfl,D,H,aa⟩:=qN ra;obtain⟨J,O,rfl,C,G,Z⟩:=qN rb;exact(zYN hs D H C G oM oM).mono (jR λh r x=>by obtain⟨u,e,y⟩:=x;exact⟨u,e,oN y (by have:=zPZ a b;omega)⟩)
theorem sY{k l:Nat}{va:Value}{a:Rat}(ra:(rpQ k).Is h0 va a){vb:Value}{b:Rat}(rb:(rpQ l).Is h0 vb b)(hcd0:k+l<=10000000000):
 Calls prog 37 #[va,vb] w0 (Ret w0 h0 (λh r=>(rpQ (k+l+1)).Is h r (a+b))):=by
 obtain⟨M,U,rfl,D,H,aa⟩:=qN ra;obtain⟨J,O,rfl,C,G,Z⟩:=qN rb;exact(zDY hs D H C G oM oM).mono (jR λh r x=>oN x (by have:=jX a b;omega))
theorem fP{k l:Nat}{va:Value}{a:Rat}(ra:(rpQ k).Is h0 va a){vb:Value}{b:Rat}(rb:(rpQ l).Is h0 vb b)(hcd0:k+l<=10000000000):
 Calls prog 16 #[va,vb] w0 (Ret w0 h0 (λh r=>(rpQ (k+l+1)).Is h r (a-b))):=by
 obtain⟨M,U,rfl,D,H,aa⟩:=qN ra;obtain⟨J,O,rfl,C,G,Z⟩:=qN rb;exact(zTV hs D H C G oM oM).mono (jR λh r x=>oN x (by have:=mN a b;omega))
theorem qO{k l:Nat}{va:Value}{a:Rat}(ra:(rpQ k).Is h0 va a){vb:Value}{b:Rat}(rb:(rpQ l).Is h0 vb b)(hcd0:k+l<=10000000000):
 Calls prog 9 #[va,vb] w0 (Ret w0 h0 (λh r=>(rpQ (k+l)).Is h r (a*b))):=by
 obtain⟨M,U,rfl,D,H,aa⟩:=qN ra;obtain⟨J,O,rfl,C,G,Z⟩:=qN rb;exact(zJ8 hs D H C G oM oM).mono (jR λh r x=>oN x (by have:=rA a b;omega))
theorem zEC{k l:Nat}{va:Value}{a:Rat}(ra:(rpQ k).Is h0 va a){vb:Value}{b:Rat}(rb:(rpQ l).Is h0 vb b)(hcd0:k+l<=10000000000):
 Calls prog 38 #[va,vb] w0 (Ret w0 h0 (λh r=>(rpQ (k+l+2)).Is h r (zBS a b))):=by
 obtain⟨M,U,rfl,D,H,aa⟩:=qN ra;obtain⟨J,O,rfl,C,G,Z⟩:=qN rb;exact(zTX hs D H C G oM oM).mono (jR λh r x=>oN x (by have:=yDV a b;omega))
theorem fQ{k l:Nat}{va:Value}{a:Rat}(ra:(rpQ k).Is h0 va a){vb:Value}{b:Rat}(rb:(rpQ l).Is h0 vb b)(hcd0:k+l<=10000000000):
 Calls prog 18 #[va,vb] w0 (Ret w0 h0 (λ_ r=>r=vI (wQ a b))):=by
 obtain⟨M,U,rfl,D,H,aa⟩:=qN ra;obtain⟨J,O,rfl,C,G,Z⟩:=qN rb;exact zTZ hs D H C G oM oM
theorem uK{k:Nat}{va:Value}{a:Rat}(ra:(rpQ k).Is h0 va a)(hcd0:k<=10000000000):
 Calls prog 17 #[va] w0 (Ret w0 h0 (λ_ r=>r=vI (yW a))):=by
 obtain⟨G,H,rfl,C,D,J⟩:=qN ra;exact zBH hs C D oM
theorem qT{k l:Nat}{va:Value}{a:Rat}(ra:(rpQ k).Is h0 va a){vb:Value}{b:Rat}(rb:(rpQ l).Is h0 vb b)(hcd0:k+l<=10000000000):
 Calls prog 15 #[va,vb] w0 (Ret w0 h0 (λ_ r=>r=vB (a=b))):=by
 obtain⟨M,U,rfl,D,H,aa⟩:=qN ra;obtain⟨J,O,rfl,C,G,Z⟩:=qN rb;exact zQ8 hs D H C G oM oM
theorem zNM{k l:Nat}{va:Value}{a:Rat}(ra:(rpQ k).Is h0 va a){vb:Value}{b:Rat}(rb:(rpQ l).Is h0 vb b)(hcd0:k+l<=10000000000):
 Calls prog 112 #[va,vb] w0 (Ret w0 h0 (λh r=>∃u0,r=.tuple #[u0,vI (if b=0 then 3 else 0)]/\(rpQ (k+l)).Is h u0 (if b=0 then 0 else a/b))):=by
 obtain⟨M,U,rfl,D,H,aa⟩:=qN ra;obtain⟨J,O,rfl,C,G,Z⟩:=qN rb;exact(zTW hs D H C G oM oM).mono (jR λh r x=>by obtain⟨u,e,y⟩:=x;exact⟨u,e,oN y (by have:=zPZ a b;omega)⟩)
theorem mI{k:Nat}{va:Value}{a:Rat}(ra:(rpQ k).Is h0 va a)(hcd0:k<=10000000000):
 Calls prog 31 #[va] w0 (Ret w0 h0 (λh r=>(rpQ k).Is h r (-a))):=by
 obtain⟨G,H,rfl,C,D,J⟩:=qN ra;exact(zJ7 hs C D oM).mono (jR λh r x=>oN x (by have:=zOA a;omega))
theorem zNN{k:Nat}{va:Value}{a:Rat}(ra:(rpQ k).Is h0 va a)(hcd0:k<=10000000000):
 Calls prog 29 #[va] w0 (Ret w0 h0 (λh r=>(rpQ k).Is h r (eZ a))):=by
 obtain⟨G,H,rfl,C,D,J⟩:=qN ra;exact(zT0 hs C D oM).mono (jR λh r x=>oN x (by have:=yDX a;omega))
theorem qP{n:Int}(hn1:-9223372036854775808<=n)(hn2:n<9223372036854775808):
 Calls prog 39 #[vI n] w0 (Ret w0 h0 (λh r=>(rpQ 2).Is h r ((n:Int):Rat))):=by
 exact(zTY hs hn1 hn2).mono (jR λh r x=>oN x (by exact mO n hn1 hn2))
theorem iL{n:Int}(hn1:-9223372036854775808<=n)(hn2:n<9223372036854775808):
 Calls prog 75 #[vI n] w0 (Ret w0 h0 (λh r=>(rpQ 2).Is h r ((n:Int):Rat))):=by
 exact(zYR hs hn1 hn2).mono (jR λh r x=>oN x (by exact mO n hn1 hn2))
theorem zCH{n:Int}(hn1:-9223372036854775808<=n)(hn2:n<9223372036854775808){d:Int}(hd1:-9223372036854775808<=d)(hd2:d<9223372036854775808):
 Calls prog 10 #[vI n,vI d] w0 (Ret w0 h0 (λh r=>(rpQ 2).Is h r (jS n d))):=by
 exact(zGN hs hn1 hn2 hd1 hd2).mono (jR λh r x=>oN x (by exact zDA hn1 hn2 hd1 hd2))
theorem zX0{qa:Rat}{vna vda:Value}(hna:Us .u32 h0 vna (zB qa.num.natAbs))(hda:Us .u32 h0 vda (zB (wC qa.den))){qb:Rat}{vnb vdb:Value}(hnb:Us .u32 h0 vnb (zB qb.num.natAbs))(hdb:Us .u32 h0 vdb (zB (wC qb.den)))(hqa:lq qa<=100000000000)(hqb:lq qb<=100000000000):
 Calls prog 102 #[.agg #[vB (qa.num<0),vna,vda],.agg #[vB (qb.num<0),vnb,vdb]] w0 (Ret w0 h0 (λh r=>zJI h r [zEU qa qb,nL qa qb])):=by
 have ak:=rX;refine cb2 12 (.agg #[vB (qa.num<0),vna,vda]) (.agg #[vB (qb.num<0),vnb,vdb]) func102 hs ?_;refine go2 ?_;refine zF (xM (cs:=[_,_,_]) I I) I I I ?_;intro v2 r2 ai;obtain⟨b2,rfl,rfl⟩:=ai;refine zF (xM (cs:=[_,_,_]) I I) I I I ?_;intro v3 r3 ah;obtain⟨b3,rfl,rfl⟩:=ah;refine zF (wG (cs:=[vB ((0:Rat).num<0),.slice none 0 0,.slice none 0 0,vB ((0:Rat).num<0),.slice none 0 0,.slice none 0 0]) fS I (by simp only[zb];rfl)) I I I ?_;intro v4 r4 ae;obtain⟨b4,rfl,rfl⟩:=ae;refine go3 ?_;refine zK 7 _ [] [(0,.q),(1,.q),(3,.q),(4,.q),(2,.c),(5,.c),(6,.q),(7,.t)] yC nX zot nX (λr hr=>hr) (go4 ?_);refine w_c I (sC (ev2 I I) call148 (λw hs=>zYP hs hna hda hnb hdb oM oM) λv7 h1 G ad=>?_);obtain⟨Z,aa,rfl,D,H⟩:=ad;have am:=zVO qa qb;refine w_c I ?_;replace hna:=hna.mono G;replace hda:=hda.mono G;replace hnb:=hnb.mono G;replace hdb:=hdb.mono G;refine sC (ev2 I I) call149 (λw hs=>zYQ hs hna hda hnb hdb oM oM) λan h2 ac ab=>?_;obtain⟨J,M,rfl,O,U⟩:=ab;have aj:=zVP qa qb;refine wK I (λ_ _=>yO (ps':=[(0,_),(1,_)]) (vs:=[vB ((zEU qa qb).num<0),Z,aa,vB ((nL qa qb).num<0),J,M]) underlying34 fS I (lV underlying34) e4z (xD (A:=[]) (B:=[_,_,_]) (C:=[_,_,_]) (cs:=[_,_,_]) (off:=0) (size:=3) I I I I I (xD (A:=[_,_,_]) (B:=[_,_,_]) (C:=[]) (cs:=[_,_,_]) (off:=3) (size:=3) I I I I I uF))) I ?_;replace D:=D.mono ac;replace H:=H.mono ac;refine gL (A:=[]) (q':=.var b4 34 [vB ((zEU qa qb).num<0),Z,aa,vB ((nL qa qb).num<0),J,M]) I (zH (k:=0) (cs:=[_,_,_,_,_,_]) (vs:=[_,_,_,_,_,_]) I I I (ocr I (ocu D (ocu H (ocr I (ocu O (ocu U oc0)))))) dX (bL I)) I (go3 ?_);refine yG (λE S=>zQ I (xN (cs:=[_,_,_,_,_,_]) mh0 underlying34 I dX I) E S) ?_;exact⟨_,I,_,_,_,I,D,H,_,_,_,I,O,U,I⟩
theorem zML{qa:Rat}{vna vda:Value}(hna:Us .u32 h0 vna (zB qa.num.natAbs))(hda:Us .u32 h0 vda (zB (wC qa.den)))(hqa:lq qa<=100000000000):
 Calls prog 53 #[.agg #[vB (qa.num<0),vna,vda]] w0 (Ret w0 h0 (λh r=>zJI h r [qa,qa])):=by
 have ae:=rX;refine cb1 6 (.agg #[vB (qa.num<0),vna,vda]) func53 hs ?_;refine go2 ?_;refine zF (xM (cs:=[_,_,_]) I I) I I I ?_;intro v1 r1 ad;obtain⟨b1,rfl,rfl⟩:=ad;refine zF (wG (cs:=[vB ((0:Rat).num<0),.slice none 0 0,.slice none 0 0,vB ((0:Rat).num<0),.slice none 0 0,.slice none 0 0]) fS I (by simp only[zb];rfl)) I I I ?_;intro v2 r2 ac;obtain⟨b2,rfl,rfl⟩:=ac;refine go6 ?_;refine cL (ev2 I I) call102 (λw hs=>zX0 hs hna hda hna hda oM oM) λv5 h1 ah ab=>?_;have aa:=zVO qa qa;have Z:=zVP qa qa;obtain⟨_,rfl,M,U,_,rfl,D,H,J,O,_,rfl,C,G,rfl⟩:=ab;refine xY (A:=[]) (r':=.var b2 34 [vB ((zEU qa qa).num<0),M,U,vB ((nL qa qa).num<0),J,O]) (zH (k:=0) (cs:=[_,_,_,_,_,_]) (vs:=[_,_,_,_,_,_]) I I I (ocr I (ocu D (ocu H (ocr I (ocu C (ocu G oc0)))))) dX (bL I)) I I I (go3 ?_);refine yG (λE S=>zQ I (xN (cs:=[_,_,_,_,_,_]) mh0 underlying34 I dX I) E S) ?_;rw[zG5] at D H;rw[zG6] at C G;rw[zG5,zG6];exact⟨_,I,_,_,_,I,D,H,_,_,_,I,C,G,I⟩
theorem zTB{qa0:Rat}{vna0 vda0:Value}(hna0:Us .u32 h0 vna0 (zB qa0.num.natAbs))(hda0:Us .u32 h0 vda0 (zB (wC qa0.den))){qa1:Rat}{vna1 vda1:Value}(hna1:Us .u32 h0 vna1 (zB qa1.num.natAbs))(hda1:Us .u32 h0 vda1 (zB (wC qa1.den))){qb0:Rat}{vnb0 vdb0:Value}(hnb0:Us .u32 h0 vnb0 (zB qb0.num.natAbs))(hdb0:Us .u32 h0 vdb0 (zB (wC qb0.den))){qb1:Rat}{vnb1 vdb1:Value}(hnb1:Us .u32 h0 vnb1 (zB qb1.num.natAbs))(hdb1:Us .u32 h0 vdb1 (zB (wC qb1.den)))(hqa0:lq qa0<=100000000000)(hqa1:lq qa1<=100000000000)(hqb0:lq qb0<=100000000000)(hqb1:lq qb1<=100000000000):
 Calls prog 89 #[.agg #[vB (qa0.num<0),vna0,vda0,vB (qa1.num<0),vna1,vda1],.agg #[vB (qb0.num<0),vnb0,vdb0,vB (qb1.num<0),vnb1,vdb1]] w0 (Ret w0 h0 (λh r=>zJI h r [qa0+qb0,qa1+qb1])):=by
 have ak:=rX;refine cb2 16 (.agg #[vB (qa0.num<0),vna0,vda0,vB (qa1.num<0),vna1,vda1]) (.agg #[vB (qb0.num<0),vnb0,vdb0,vB (qb1.num<0),vnb1,vdb1]) func89 hs ?_;refine go2 ?_;refine zF (xM (cs:=[_,_,_,_,_,_]) I I) I I I ?_;intro v2 r2 ai;obtain⟨b2,rfl,rfl⟩:=ai;refine zF (xM (cs:=[_,_,_,_,_,_]) I I) I I I ?_;intro v3 r3 ah;obtain⟨b3,rfl,rfl⟩:=ah;refine zF (wG (cs:=[vB ((0:Rat).num<0),.slice none 0 0,.slice none 0 0,vB ((0:Rat).num<0),.slice none 0 0,.slice none 0 0]) fS I (by simp only[zb];rfl)) I I I ?_;intro v4 r4 ae;obtain⟨b4,rfl,rfl⟩:=ae;refine go3 ?_;refine zK 11 _ [] (zai 0 4 (zai 5 4 [(4,.c),(9,.c),(10,.q),(11,.t)])) yC nX zot nX (λr hr=>hr) (go8 ?_);refine w_c I (sC (ev2 I I) call70 (λw hs=>zH4 hs hna0 hda0 hnb0 hdb0 oM oM) λv9 h1 G ad=>?_);obtain⟨Z,aa,rfl,D,H⟩:=ad;have am:=jX qa0 qb0;refine w_c I ?_;replace hna1:=hna1.mono G;replace hda1:=hda1.mono G;replace hnb1:=hnb1.mono G;replace hdb1:=hdb1.mono G;refine sC (ev2 I I) call70 (λw hs=>zH4 hs hna1 hda1 hnb1 hdb1 oM oM) λan h2 ac ab=>?_;obtain⟨J,M,rfl,O,U⟩:=ab;have aj:=jX qa1 qb1;refine wK I (λ_ _=>yO (ps':=[(0,_),(1,_)]) (vs:=[vB ((qa0+qb0).num<0),Z,aa,vB ((qa1+qb1).num<0),J,M]) underlying34 fS I (lV underlying34) e4z (xD (A:=[]) (B:=[_,_,_]) (C:=[_,_,_]) (cs:=[_,_,_]) (off:=0) (size:=3) I I I I I (xD (A:=[_,_,_]) (B:=[_,_,_]) (C:=[]) (cs:=[_,_,_]) (off:=3) (size:=3) I I I I I uF))) I ?_;replace D:=D.mono ac;replace H:=H.mono ac;refine gL (A:=[]) (q':=.var b4 34 [vB ((qa0+qb0).num<0),Z,aa,vB ((qa1+qb1).num<0),J,M]) I (zH (k:=0) (cs:=[_,_,_,_,_,_]) (vs:=[_,_,_,_,_,_]) I I I (ocr I (ocu D (ocu H (ocr I (ocu O (ocu U oc0)))))) dX (bL I)) I (go3 ?_);refine yG (λE S=>zQ I (xN (cs:=[_,_,_,_,_,_]) mh0 underlying34 I dX I) E S) ?_;exact⟨_,I,_,_,_,I,D,H,_,_,_,I,O,U,I⟩
theorem zVH{n m:Int}(hm:0<m)(hm2:m<4611686018427387904):
 Calls prog 12 #[vI n,vI m] w0 (Ret w0 h0 (λ_ r=>r=vI (zRZ n m))):=by
 have D:=zDP n hm;refine cb2 14 (vI n) (vI m) func12 hs ?_;refine go9 ?_;refine gv (zRK I I oM) I (zAV (λC=>?_) λC=>?_)
 ·
  refine sN ?_;refine zD I I ?_;rw[zRZ,zau C]
 refine go9 ?_;refine zD I I ?_;rw[zRZ,zae C]
theorem zN7{vl:Value}{xs:List Int}(hl:Is h0 vl xs):
 Calls prog 19 #[vl] w0 (Ret w0 h0 (λ_ r=>r=vB ((↑xs.length:Int)<=500))):=by
 refine cb1 6 vl func19 hs ?_;refine go8 ?_;refine gv (zGS underlying32 I hl) I (go5 ?_);refine zD I I ?_
 rfl
theorem zR1{vl:Value}{xs:List Int}(hl:Is h0 vl xs):
 Calls prog 20 #[vl] w0 (rG w0 h0 (λ_ r L=>∃b,r=vP b 0/\L=[.var b 97 [vl,vI ↑0]])):=by
 refine cb1 6 vl func20 hs ?_;refine go8 ?_;refine gv (yO (ps':=[(0,_)]) (vs:=[vl,vI 0]) underlying97 zV3 I (zUH underlying97) e2z (xD (A:=[]) (B:=[_]) (C:=[_]) (cs:=[_]) (off:=0) (size:=1) I I I I hl.cells uF)) I (zF (xM (cs:=[_,_]) I I) I I I ?_);intro G H D;obtain⟨J,rfl,rfl⟩:=D;refine go4 ?_;refine uY I I ?_;exact⟨_,I,I⟩
end
theorem vN{w0 w:World}{h0 h:Mem}{b k:Nat}{vl:Value}{xs:List Int}(hl:Is h vl xs)(hk:k<=xs.length){n:Int}(hn:0<n)(hn2:n<4611686018427387904){L:List Res}(hs:St w0 h0 (.var b 97 [vl,vI ↑k]::L) h w):
 Calls prog 33 #[vP b 0,vI n] w (u9 w0 h0 h L (λg r q'=>∃k':Nat,∃z,q'=.var b 97 [vl,vI ↑k']/\k'<=xs.length/\(r=vI z/\0<=z/\z<n))):=by
 have M:=hl.lt63;refine kS (n:=35) (e:=[(0,vP b 0),(1,vI n)]) (vs:=[vP b 0,vI n]) func33 rfl rfl (bL rfl) hs e2z (go7 ?_);refine zK 10 _ [] (zai 0 10 []) yC nX zot nX (λr H=>H) (go1 ?_);refine wK I (λ_ _=>tH I) I (go3 ?_);refine wK I (λ_ _=>tH I) I (go2 ?_);refine w_q I (λh' L' hh hR=>zGS underlying32 I (hl.mono hh)) I (gc3 (λG=>?_) λG=>?_)
 ·
  refine go7 ?_;refine uY I I ?_;exact⟨_,(zti _),(MLe.refl _),k,0,I,hk,I,by omega,hn⟩
 refine go5 ?_;refine gv (tH I) I (go3 ?_);refine gv (tH I) I (go1 ?_);refine xY (A:=[]) (r':=.var b 97 [vl,vI ((↑k:Int)+(1:Int))]) (zH (k:=1) (cs:=[_,_]) (vs:=[_]) I I I I yAG (bL I)) I I I (go3 ?_);refine zK 14 _ [] (zai 0 12 [(12,.c),(13,.q)]) yC nX zot nX (λr H=>H) (go1 ?_);refine wK I (λ_ _=>tH I) I (go3 ?_);refine wK I (λ_ _=>tH I) I (go3 ?_);refine w_q I (λh' L' hh hR=>zKJ (k) underlying32 sizeOf3 I I (hl.mono hh) oM oM) I (w_q I (λh' L' hh hR=>zM9 isAgg3 I (hl.mono hh) oM) I (go1 ?_));refine w_c I (sC (ev2 I I) call12 (λw hs=>zVH hs oM oM) λO h1 J D=>?_);have C:=zN3 ((xs).getD (k) 0) (q:=n) oM;subst D;refine go4 ?_;refine uY I I ?_;exact⟨_,(zti _),J,k+1,_,I,by omega,I,C.1,C.2⟩
end Go.Proofs.YtboaboflnckgoaaGreat
namespace Bk
open Go Go.RowKit
theorem Is.up{h h':Mem}{v:Value}{xs:List Int}(r:Is h v xs)(hm:MLe h h':=by exact mle):Is h' v xs:=r.mono hm
end Bk
namespace Go.Proofs.YtboaboflnckgoaaGreat
open Bk Go Tryz
attribute [local irreducible] GL GC GQ W OpV
section
variable{w0:World}{h0:Mem}(hs:MLe h0 (mem w0))
include hs
theorem zUX{k l:Nat}{va:Value}{a:Tq}(ra:(tPt k).Is h0 va a){vb:Value}{b:Tq}(rb:(tPt l).Is h0 vb b)(hcd0:k+l<=1000000000):
 Calls prog 34 #[va,vb] w0 (Ret w0 h0 (λh r=>(tPt (k+3*l+3)).Is h r (T3.mk (a.x+b.x) (a.y+b.y) (a.z+b.z)))):=by
 refine cb2 20 va vb func34 hs ?_;refine go2 ?_;refine nB ra λb2 bm ar=>(nB rb λb3 bl ac=>(nA (ρ:=(tPt (k+3*l+3))) (X:=zT) yM (xE (yE oM)) λb4 bk bb=>(go9 ?_)));refine tP (go4 ?_);refine gv (OpV.tr dC (yL (q:=3) I I)) I (go7 ?_);refine zK 9 _ [] (zai 0 7 [(7,.c),(8,.q),(9,.t)]) yC nX zot nX (λr hr=>hr) (go3 ?_);refine wX I (xB yI (y2e pH) ar) λba am=>(go2 ?_);refine wX I (xB yI (y2e pH) ac) λax ai=>?_;refine w_c I (sC (ev2 I I) call37 (λw hs=>sY hs am ai oM) λZ h1 bj G=>?_)
 change (rpQ (k+l+1)).Is h1 Z (a.x+b.x) at G
 refine go1 ?_;have ap:=(Le.t (Le.q (l:=k+l+1) oM)).R ar;refine yJ (A:=[_,_]) I (uB sizeOf26 (y2e pH) ap G) λbg M=>(go5 ?_);refine gv ((zY (q:=1) I I oM oM).cv (show _=vI (1) from I)) I (go2 ?_);refine wP (go4 ?_);refine gv (OpV.tr dC (yL (q:=3) I I)) I (go7 ?_);refine zK 9 _ [] (zai 0 7 [(7,.c),(8,.q),(9,.t)]) yC nX zot nX (λr hr=>hr) (go3 ?_);refine wX I (xB yI (y3i pH) M) λaz ak=>(go2 ?_);refine wX I (xB yI (y3i pH) ac) λaw ah=>?_;refine w_c I (sC (ev2 I I) call37 (λw hs=>sY hs ak ah oM) λU h2 bi D=>?_)
 change (rpQ ((k+l+1)+l+1)).Is h2 U (a.y+b.y) at D
 replace D:=Rp.Is.le D (Le.q (l:=k+2*l+2) oM);refine go1 ?_;have ao:=(Le.t (Le.q (l:=k+2*l+2) oM)).R M;refine yJ (A:=[_,_]) I (uB sizeOf26 (y3i pH) ao D) λbf J=>(go5 ?_);refine gv ((zY (q:=1) I I oM oM).cv (show _=vI (2) from I)) I (go2 ?_);refine wP (go4 ?_);refine gv (OpV.tr dC (yL (q:=3) I I)) I (go7 ?_);refine zK 9 _ [] (zai 0 7 [(7,.c),(8,.q),(9,.t)]) yC nX zot nX (λr hr=>hr) (go3 ?_);refine wX I (xB yI (y3u pH) J) λay aj=>(go2 ?_);refine wX I (xB yI (y3u pH) ac) λav ae=>?_;refine w_c I (sC (ev2 I I) call37 (λw hs=>sY hs aj ae oM) λO h3 bh C=>?_)
 change (rpQ ((k+2*l+2)+l+1)).Is h3 O (a.z+b.z) at C
 replace C:=Rp.Is.le C (Le.q (l:=k+3*l+3) oM);refine go1 ?_;have an:=(Le.t (Le.q (l:=k+3*l+3) oM)).R J;refine yJ (A:=[_,_]) I (uB sizeOf26 (y3u pH) an C) λbe aq=>(go5 ?_);refine gv ((zY (q:=1) I I oM oM).cv (show _=vI (3) from I)) I (go2 ?_);refine wP (go4 ?_);refine gv (OpV.fa dC (yL (q:=3) I I)) I (uQ ?_);refine lX (xB zO pH aq) λau ad=>(zV (A:=[]) (uB sizeOf53 pH bb ad) λbc ab=>(go3 ?_));refine xW (jA (t:=4) zO mh0 I ab) ?_;intro bd H aa;refine yG (λE S=>zQ I H E S) ?_;exact aa
theorem zKU{k l:Nat}{va:Value}{a:Tq}(ra:(tPt k).Is h0 va a){vb:Value}{b:Tq}(rb:(tPt l).Is h0 vb b)(hcd0:k+l<=1000000000):
 Calls prog 125 #[va,vb] w0 (Ret w0 h0 (λh r=>(tPt (k+3*l+3)).Is h r (T3.mk (a.x-b.x) (a.y-b.y) (a.z-b.z)))):=by
 refine cb2 20 va vb func125 hs ?_;refine go2 ?_;refine nB ra λb2 bm ar=>(nB rb λb3 bl ai=>(nA (ρ:=(tPt (k+3*l+3))) (X:=zT) yM (xE (yE oM)) λb4 bk bb=>(go9 ?_)));refine tP (go4 ?_);refine gv (OpV.tr dC (yL (q:=3) I I)) I (go7 ?_);refine zK 9 _ [] (zai 0 7 [(7,.c),(8,.q),(9,.t)]) yC nX zot nX (λr hr=>hr) (go3 ?_);refine wX I (xB yI (y2e pH) ar) λba aq=>(go2 ?_);refine wX I (xB yI (y2e pH) ai) λax an=>?_;refine w_c I (sC (ev2 I I) call16 (λw hs=>fP hs aq an oM) λZ h1 bj J=>?_)
 change (rpQ (k+l+1)).Is h1 Z (a.x-b.x) at J
 refine go1 ?_;have ac:=(Le.t (Le.q (l:=k+l+1) oM)).R ar;refine yJ (A:=[_,_]) I (uB sizeOf26 (y2e pH) ac J) λbf H=>(go5 ?_);refine gv ((zY (q:=1) I I oM oM).cv (show _=vI (1) from I)) I (go2 ?_);refine wP (go4 ?_);refine gv (OpV.tr dC (yL (q:=3) I I)) I (go7 ?_);refine zK 9 _ [] (zai 0 7 [(7,.c),(8,.q),(9,.t)]) yC nX zot nX (λr hr=>hr) (go3 ?_);refine wX I (xB yI (y3i pH) H) λaz ap=>(go2 ?_);refine wX I (xB yI (y3i pH) ai) λaw am=>?_;refine w_c I (sC (ev2 I I) call16 (λw hs=>fP hs ap am oM) λU h2 bi D=>?_)
 change (rpQ ((k+l+1)+l+1)).Is h2 U (a.y-b.y) at D
 replace D:=Rp.Is.le D (Le.q (l:=k+2*l+2) oM);refine go1 ?_;have ab:=(Le.t (Le.q (l:=k+2*l+2) oM)).R H;refine yJ (A:=[_,_]) I (uB sizeOf26 (y3i pH) ab D) λbe G=>(go5 ?_);refine gv ((zY (q:=1) I I oM oM).cv (show _=vI (2) from I)) I (go2 ?_);refine wP (go4 ?_);refine gv (OpV.tr dC (yL (q:=3) I I)) I (go7 ?_);refine zK 9 _ [] (zai 0 7 [(7,.c),(8,.q),(9,.t)]) yC nX zot nX (λr hr=>hr) (go3 ?_);refine wX I (xB yI (y3u pH) G) λay ao=>(go2 ?_);refine wX I (xB yI (y3u pH) ai) λav ak=>?_;refine w_c I (sC (ev2 I I) call16 (λw hs=>fP hs ao ak oM) λO h3 bh C=>?_)
 change (rpQ ((k+2*l+2)+l+1)).Is h3 O (a.z-b.z) at C
 replace C:=Rp.Is.le C (Le.q (l:=k+3*l+3) oM);refine go1 ?_;have aa:=(Le.t (Le.q (l:=k+3*l+3) oM)).R G;refine yJ (A:=[_,_]) I (uB sizeOf26 (y3u pH) aa C) λbd ah=>(go5 ?_);refine gv ((zY (q:=1) I I oM oM).cv (show _=vI (3) from I)) I (go2 ?_);refine wP (go4 ?_);refine gv (OpV.fa dC (yL (q:=3) I I)) I (uQ ?_);refine lX (xB zO pH ah) λau aj=>(zV (A:=[]) (uB sizeOf53 pH bb aj) λbc ae=>(go3 ?_));refine xW (jA (t:=4) zO mh0 I ae) ?_;intro bg M ad;refine yG (λE S=>zQ I M E S) ?_;exact ad
theorem zEG{l k:Nat}{vq:Value}{q:Rat}(rq:(rpQ l).Is h0 vq q){va:Value}{a:Tq}(ra:(tPt k).Is h0 va a)(hcd0:k+l<=1000000000):
 Calls prog 111 #[vq,va] w0 (Ret w0 h0 (λh r=>(tPt (k+3*l+1)).Is h r (T3.mk (q*a.x) (q*a.y) (q*a.z)))):=by
 refine cb2 18 vq va func111 hs ?_;refine go2 ?_;refine nB rq λb2 bm ao=>(nB ra λb3 bl ar=>(nA (ρ:=(tPt (k+3*l+1))) (X:=zT) yM (xE (yE oM)) λb4 bk bb=>(go9 ?_)));refine tP (go4 ?_);refine gv (OpV.tr dC (yL (q:=3) I I)) I (go7 ?_);refine zK 7 _ [] (zai 0 5 [(5,.c),(6,.q),(7,.t)]) yC nX zot nX (λr hr=>hr) (go1 ?_);refine wX I (xB yI pH ao) λba aq=>(go2 ?_);refine wX I (xB yI (y2e pH) ar) λaz ap=>?_;refine w_c I (sC (ev2 I I) call9 (λw hs=>qO hs aq ap oM) λae h1 bj G=>?_)
 change (rpQ (l+k)).Is h1 ae (q*a.x) at G
 replace G:=Rp.Is.le G (Le.q (l:=k+l) oM);refine go1 ?_;have aj:=(Le.t (Le.q (l:=k+l) oM)).R ar;refine yJ (A:=[_]) I (uB sizeOf26 (y2e pH) aj G) λbf J=>(go5 ?_);refine gv ((zY (q:=1) I I oM oM).cv (show _=vI (1) from I)) I (go2 ?_);refine wP (go4 ?_);refine gv (OpV.tr dC (yL (q:=3) I I)) I (go7 ?_);refine zK 7 _ [] (zai 0 5 [(5,.c),(6,.q),(7,.t)]) yC nX zot nX (λr hr=>hr) (go1 ?_);refine wX I (xB yI pH ao) λay ac=>(go2 ?_);refine wX I (xB yI (y3i pH) J) λaw aa=>?_;refine w_c I (sC (ev2 I I) call9 (λw hs=>qO hs ac aa oM) λO h2 bi D=>?_)
 change (rpQ (l+(k+l))).Is h2 O (q*a.y) at D
 replace D:=Rp.Is.le D (Le.q (l:=k+2*l) oM);refine go1 ?_;have ai:=(Le.t (Le.q (l:=k+2*l) oM)).R J;refine yJ (A:=[_]) I (uB sizeOf26 (y3i pH) ai D) λbe H=>(go5 ?_);refine gv ((zY (q:=1) I I oM oM).cv (show _=vI (2) from I)) I (go2 ?_);refine wP (go4 ?_);refine gv (OpV.tr dC (yL (q:=3) I I)) I (go7 ?_);refine zK 7 _ [] (zai 0 5 [(5,.c),(6,.q),(7,.t)]) yC nX zot nX (λr hr=>hr) (go1 ?_);refine wX I (xB yI pH ao) λax ab=>(go2 ?_);refine wX I (xB yI (y3u pH) H) λav Z=>?_;refine w_c I (sC (ev2 I I) call9 (λw hs=>qO hs ab Z oM) λM h3 bh C=>?_)
 change (rpQ (l+(k+2*l))).Is h3 M (q*a.z) at C
 replace C:=Rp.Is.le C (Le.q (l:=k+3*l) oM);refine go1 ?_;have ah:=(Le.t (Le.q (l:=k+3*l) oM)).R H;refine yJ (A:=[_]) I (uB sizeOf26 (y3u pH) ah C) λbd an=>(go5 ?_);refine gv ((zY (q:=1) I I oM oM).cv (show _=vI (3) from I)) I (go2 ?_);refine wP (go4 ?_);refine gv (OpV.fa dC (yL (q:=3) I I)) I (uQ ?_);refine lX (xB zO pH an) λau U=>(zV (A:=[]) (uB sizeOf53 pH bb (U.le (Le.t (Le.q (l:=k+3*l+1) oM)))) λbc am=>(go3 ?_));refine xW (jA (t:=4) zO mh0 I am) ?_;intro bg ad ak;refine yG (λE S=>zQ I ad E S) ?_;exact ak
theorem fR{x:Int}(hx1:-9223372036854775808<=x)(hx2:x<9223372036854775808){y:Int}(hy1:-9223372036854775808<=y)(hy2:y<9223372036854775808){z:Int}(hz1:-9223372036854775808<=z)(hz2:z<9223372036854775808):
 Calls prog 45 #[vI x,vI y,vI z] w0 (Ret w0 h0 (λh r=>(tPt 2).Is h r (T3.mk ((x:Int):Rat) ((y:Int):Rat) ((z:Int):Rat)))):=by
 refine cb3 14 (vI x) (vI y) (vI z) func45 hs ?_;refine go2 ?_;refine nA (ρ:=(tPt 1)) (X:=zT) yM (xE (yE dC)) λb6 aj J=>(go5 ?_);refine cL (ev1 I) call39 (λw hs=>qP hs oM oM) λv8 h1 ai r8=>(go1 ?_);refine cL (ev1 I) call39 (λw hs=>qP hs oM oM) λad h2 ah U=>(go1 ?_);refine cL (ev1 I) call39 (λw hs=>qP hs oM oM) λac h3 ae O=>(lX (xV (ρ:=(tPt 2)) (wL (ps':=[(0,_),(1,_),(2,_)]) underlying53 yM I I sizeOf26 e6 I (xE (yE dC)) (zC I (y2e (y1u _)) r8.up (zC I (y3i (y1u _)) U.up (zC I (y3u (y1u _)) O zN))))) λab M=>?_);have D:=(Le.t (Le.q (l:=2) dC)).R J;refine zV (A:=[]) (uB sizeOf53 pH D M) λZ H=>(go3 ?_);refine xW (jA (t:=6) zO mh0 I H) ?_;intro aa C G;refine yG (λE S=>zQ I C E S) ?_;exact G
end
end Go.Proofs.YtboaboflnckgoaaGreat
namespace Bk
open Go Go.RowKit
open Classical
abbrev Pl:=Pt×Rat
theorem zX9{x:Rat}:yW x=1↔0<x:=by
 have h2:=wB x;rw[<-iG];omega
theorem oE{a b:Pt}:a=b↔a.x=b.x/\a.y=b.y/\a.z=b.z:=by cases a;cases b;exact T3.mk.injEq ..▸Iff.rfl
def axI(n:Pt):Nat:=if 0<n.z then 0 else if n.z<0 then 1 else if 0<n.y then 2 else if n.y<0 then 0 else if 0<n.x then 1 else if n.x<0 then 2 else 1
def axJ(n:Pt):Nat:=if 0<n.z then 1 else if n.z<0 then 0 else if 0<n.y then 0 else if n.y<0 then 2 else if 0<n.x then 2 else if n.x<0 then 1 else 2
def axK(n:Pt):Nat:=if n.z≠0 then 2 else if n.y≠0 then 1 else 0
theorem zA4(n:Pt):(0<n.z/\axI n=0/\axJ n=1/\axK n=2)\/(n.z<0/\axI n=1/\axJ n=0/\axK n=2)\/(n.z=0/\0<n.y/\axI n=2/\axJ n=0/\axK n=1)\/(n.z=0/\n.y<0/\axI n=0/\axJ n=2/\axK n=1)\/
 (n.z=0/\n.y=0/\0<n.x/\axI n=1/\axJ n=2/\axK n=0)\/(n.z=0/\n.y=0/\n.x<0/\axI n=2/\axJ n=1/\axK n=0)\/(n.z=0/\n.y=0/\n.x=0/\axI n=1/\axJ n=2/\axK n=0):=by
 have C:∀a:Rat,0<a\/(a<0/\¬0<a)\/(a=0/\¬0<a/\¬a<0):=λa=>by grind
 unfold axI axJ axK
 rcases C n.z with h|⟨h,h'⟩|⟨h,h',h''⟩
 · left;simp only[zau h,zau (show n.z≠0 by grind)];exact⟨h,y1i,y1i,y1i⟩
 · right;left;simp only[zae h',zau h,zau (show n.z≠0 by grind)];exact⟨h,y1i,y1i,y1i⟩
 · simp only[zae h',zae h'',zae (show ¬n.z≠0 by grind)]
   rcases C n.y with k|⟨k,k'⟩|⟨k,k',k''⟩
   · right;right;left;simp only[zau k,zau (show n.y≠0 by grind)];exact⟨h,k,y1i,y1i,y1i⟩
   · right;right;right;left;simp only[zae k',zau k,zau (show n.y≠0 by grind)];exact⟨h,k,y1i,y1i,y1i⟩
   · simp only[zae k',zae k'',zae (show ¬n.y≠0 by grind)]
     rcases C n.x with l|⟨l,l'⟩|⟨l,l',l''⟩
     · right;right;right;right;left;simp only[zau l];exact⟨h,k,l,y1i,y1i,y1i⟩
     · right;right;right;right;right;left;simp only[zae l',zau l];exact⟨h,k,l,y1i,y1i,y1i⟩
     · right;right;right;right;right;right;simp only[zae l',zae l''];exact⟨h,k,l,y1i,y1i,y1i⟩
theorem zOX(n:Pt):axI n+axJ n<=3/\axI n<3/\axJ n<3/\axK n=3-axI n-axJ n:=by
 rcases zA4 n with h|h|h|h|h|h|h<;>omega
theorem zXE(n:Pt):axI n<3:=(zOX n).2.1
theorem zXD(n:Pt):axJ n<3:=(zOX n).2.2.1
theorem zZ8(n:Pt):n.at (axK n)=0↔n=T3.mk (0:Rat) 0 0:=by
 obtain⟨x,y,z⟩:=n;rw[T3.mk.injEq]
 rcases zA4 ⟨x,y,z⟩ with h|h|h|h|h|h|h<;>simp only at h<;>obtain⟨h,h1⟩:=h
 all_goals first|rw[h1.2.2]|rw[h1.2.2.2]|rw[h1.2.2.2.2]
 all_goals simp only[T3.at]
 all_goals grind
def gY(pl:Pl)(p:Pt):Pt:=T3.mk (p.at (axI pl.1)) (p.at (axJ pl.1)) (0:Rat)
def zVU(pl:Pl)(q:Pt):Rat:=if pl.1.at (axK pl.1)=0 then 0 else(pl.2-(pl.1.at (axI pl.1)*q.x+pl.1.at (axJ pl.1)*q.y))/pl.1.at (axK pl.1)
def dH(pl:Pl)(q:Pt):Pt:=if pl.1.at (axK pl.1)=0 then T3.mk (0:Rat) 0 0 else(((T3.mk (0:Rat) 0 0).set (axI pl.1) q.x).set (axJ pl.1) q.y).set (axK pl.1) (zVU pl q)
def vZ(a b:Pt):Rat:=a.x*b.x+a.y*b.y+a.z*b.z
def uC(a b:Pt):Pt:=T3.mk (a.y*b.z-a.z*b.y) (a.z*b.x-a.x*b.z) (a.x*b.y-a.y*b.x)
def kT(a b:Pt):Pt:=T3.mk (a.x-b.x) (a.y-b.y) (a.z-b.z)
theorem yA2(a b c:Pt):uG [a,b,c] 0 1 3=(b.x-a.x)*(c.y-a.y)-(b.y-a.y)*(c.x-a.x):=by
 simp[uG,gp,T3.at];grind
theorem zGD{ni nj nk d ai aj ak bi bj bk ci cj ck:Rat}(ha:nk*ak=d-(ni*ai+nj*aj))(hb:nk*bk=d-(ni*bi+nj*bj))(hc:nk*ck=d-(ni*ci+nj*cj)):
 nk*(((bj-aj)*(ck-ak)-(bk-ak)*(cj-aj))*ni+((bk-ak)*(ci-ai)-(bi-ai)*(ck-ak))*nj+((bi-ai)*(cj-aj)-(bj-aj)*(ci-ai))*nk)=(ni*ni+nj*nj+nk*nk)*((bi-ai)*(cj-aj)-(bj-aj)*(ci-ai)):=by
 grind
theorem zJY(a:Rat):wQ a 0=yW a:=by rw[zWU,show a-0=a by grind]
theorem oW{c:Rat}(hc:0<c)(x:Rat):yW (c*x)=yW x:=by
 have h:=zWV x 0 c;rw[Rat.zero_mul,zJY,zJY,zX9.2 hc,Int.mul_one,Rat.mul_comm] at h;exact h
theorem zGM{c e x y:Rat}(hc:0<c)(he:0<e)(h:c*x=e*y):yW x=yW y:=by
 rw[<-oW hc x,<-oW he y,h]
theorem zTA{i j k:Rat}(hk:k≠0):0<i*i+j*j+k*k:=by
 have h1:0<=i*i:=by rcases @Rat.le_total 0 i with h|h;exact zod h h;have:=zod (a:=-i) (b:=-i) zo2 zo2;grind
 have h2:0<=j*j:=by rcases @Rat.le_total 0 j with h|h;exact zod h h;have:=zod (a:=-j) (b:=-j) zo2 zo2;grind
 have h3:0<k*k:=by
  rcases @Rat.le_total 0 k with h|h
  · exact z7e zo2 zo2
  · have:=z7e (a:=-k) (b:=-k) zo2 zo2;grind
 grind
theorem zDC{n d m q:Rat}(h:¬n=0):n*((d-m)/n)=d-m:=by
 rw[Rat.mul_comm,Rat.div_mul_cancel h]
theorem zDM{ni nj nk d ai aj ak bi bj bk ci cj ck:Rat}(hk:0<nk)(ha:nk*ak=d-(ni*ai+nj*aj))(hb:nk*bk=d-(ni*bi+nj*bj))(hc:nk*ck=d-(ni*ci+nj*cj)){X:Rat}
    (hX:X=((bj-aj)*(ck-ak)-(bk-ak)*(cj-aj))*ni+((bk-ak)*(ci-ai)-(bi-ai)*(ck-ak))*nj+((bi-ai)*(cj-aj)-(bj-aj)*(ci-ai))*nk):
    yW ((bi-ai)*(cj-aj)-(bj-aj)*(ci-ai))=yW X:=by
 rw[hX];exact(zGM hk (zTA zo2) (zGD ha hb hc)).symm
theorem zDN{ni nj nk d ai aj ak bi bj bk ci cj ck:Rat}(hk:nk<0)(ha:nk*ak=d-(ni*ai+nj*aj))(hb:nk*bk=d-(ni*bi+nj*bj))(hc:nk*ck=d-(ni*ci+nj*cj)){X:Rat}
    (hX:X= -(((bj-aj)*(ck-ak)-(bk-ak)*(cj-aj))*ni+((bk-ak)*(ci-ai)-(bi-ai)*(ck-ak))*nj+((bi-ai)*(cj-aj)-(bj-aj)*(ci-ai))*nk)):
    yW ((bi-ai)*(cj-aj)-(bj-aj)*(ci-ai))=yW X:=by
 refine(zGM (c:=-nk) zo2 (zTA (i:=ni) (j:=nj) (k:=nk) zo2) ?_).symm;rw[hX,<-zGD ha hb hc];grind
theorem zSY(pl:Pl)(p q r:Pt)(h:¬pl.1.at (axK pl.1)=0):
 yW (uG [gY pl (dH pl p),gY pl (dH pl q),gY pl (dH pl r)] 0 1 3)=yW (vZ (uC (kT (dH pl q) (dH pl p)) (kT (dH pl r) (dH pl p))) pl.1):=by
 rw[yA2];have O:=zDC (d:=pl.2) (m:=pl.1.at (axI pl.1)*p.x+pl.1.at (axJ pl.1)*p.y) (q:=0) h;have M:=zDC (d:=pl.2) (m:=pl.1.at (axI pl.1)*q.x+pl.1.at (axJ pl.1)*q.y) (q:=0) h;have J:=zDC (d:=pl.2) (m:=pl.1.at (axI pl.1)*r.x+pl.1.at (axJ pl.1)*r.y) (q:=0) h;unfold dH zVU gY;rw[zae h,zae h,zae h,zae h,zae h,zae h];generalize (pl.2-(pl.1.at (axI pl.1)*p.x+pl.1.at (axJ pl.1)*p.y))/pl.1.at (axK pl.1)=u at *;generalize (pl.2-(pl.1.at (axI pl.1)*q.x+pl.1.at (axJ pl.1)*q.y))/pl.1.at (axK pl.1)=v at *;generalize (pl.2-(pl.1.at (axI pl.1)*r.x+pl.1.at (axJ pl.1)*r.y))/pl.1.at (axK pl.1)=w at *;obtain⟨⟨x,y,z⟩,d⟩:=pl;obtain⟨p1,p2,p3⟩:=p;obtain⟨q1,Z,U⟩:=q;obtain⟨r1,r2,r3⟩:=r
 rcases zA4 ⟨x,y,z⟩ with e|e|e|e|e|e|e
 · obtain⟨H,G,D,C⟩:=e
   simp only[G,D,C,T3.at,T3.set,vZ,uC,kT] at *;exact zDM H O M J zo2
 · obtain⟨H,G,D,C⟩:=e
   simp only[G,D,C,T3.at,T3.set,vZ,uC,kT] at *;exact zDN H O M J zo2
 · obtain⟨h1,H,G,D,C⟩:=e
   simp only[G,D,C,T3.at,T3.set,vZ,uC,kT] at *;exact zDM H O M J zo2
 · obtain⟨h1,H,G,D,C⟩:=e
   simp only[G,D,C,T3.at,T3.set,vZ,uC,kT] at *;exact zDN H O M J zo2
 · obtain⟨h1,h2,H,G,D,C⟩:=e
   simp only[G,D,C,T3.at,T3.set,vZ,uC,kT] at *;exact zDM H O M J zo2
 · obtain⟨h1,h2,H,G,D,C⟩:=e
   simp only[G,D,C,T3.at,T3.set,vZ,uC,kT] at *;exact zDN H O M J zo2
 · obtain⟨h1,h2,h3,G,D,C⟩:=e
   rw[C] at h;exact absurd h3 h
theorem zZ9(n:Pt):(axI n=0/\axJ n=1/\axK n=2)\/(axI n=1/\axJ n=0/\axK n=2)\/(axI n=2/\axJ n=0/\axK n=1)\/(axI n=0/\axJ n=2/\axK n=1)\/(axI n=1/\axJ n=2/\axK n=0)\/(axI n=2/\axJ n=1/\axK n=0):=by
 rcases zA4 n with h|h|h|h|h|h|h<;>omega
theorem zBV{s:Pl}{p:Pt}(h:¬s.1.at (axK s.1)=0)(hs:yW (vZ s.1 p-s.2)=0):dH s (gY s p)=p:=by
 rw[uT] at hs;have C:=zDC (d:=s.2) (m:=s.1.at (axI s.1)*p.at (axI s.1)+s.1.at (axJ s.1)*p.at (axJ s.1)) (q:=0) h;unfold dH zVU gY;rw[zae h,zae h];simp only;generalize (s.2-(s.1.at (axI s.1)*p.at (axI s.1)+s.1.at (axJ s.1)*p.at (axJ s.1)))/s.1.at (axK s.1)=u at *;obtain⟨⟨x,y,z⟩,d⟩:=s;obtain⟨a,b,c⟩:=p;have hz:∀{n u v:Rat},¬n=0->n*u=n*v->u=v:=λ{n u v} h e=>by
  have h1:n*(u-v)=0:=by grind
  rcases zoe.1 h1 with h2|h2
  · exact absurd h2 h
  · grind
 rcases zZ9 ⟨x,y,z⟩ with⟨e1,e2,e3⟩|⟨e1,e2,e3⟩|⟨e1,e2,e3⟩|⟨e1,e2,e3⟩|⟨e1,e2,e3⟩|⟨e1,e2,e3⟩<;>simp only[e1,e2,e3,T3.at,T3.set,vZ] at *<;>rw[T3.mk.injEq]<;>simp only[true_and,and_true]<;>exact hz h zo2
end Bk
namespace Bk
open Classical
def i3(x y z:Int):Pt:=T3.mk ((x:Int):Rat) ((y:Int):Rat) ((z:Int):Rat)
end Bk
namespace Go.Proofs.YtboaboflnckgoaaGreat
open Bk Go Tryz
attribute [local irreducible] GL GC GQ W OpV
section
variable{w0:World}{h0:Mem}(hs:MLe h0 (mem w0))
include hs
theorem zYX{qa:Rat}{vna vda:Value}(hna:Us .u32 h0 vna (zB qa.num.natAbs))(hda:Us .u32 h0 vda (zB (wC qa.den)))(hqa:lq qa<=100000000000):
 Calls prog 54 #[.agg #[vB (qa.num<0),vna,vda]] w0 (Ret w0 h0 (λh r=>wR h r qa)):=by
 have ad:=wM qa;have ae:=wU qa;have ah:=wI qa;refine cb1 12 (.agg #[vB (qa.num<0),vna,vda]) func54 hs ?_;refine go2 ?_;refine zF (xM (cs:=[_,_,_]) I I) I I I ?_;intro v1 r1 aa;obtain⟨b1,rfl,rfl⟩:=aa;refine zF (wG (cs:=[vB ((0:Rat).num<0),.slice none 0 0,.slice none 0 0]) yS I (by simp only[zb];rfl)) I I I ?_;intro v2 r2 Z;obtain⟨b2,rfl,rfl⟩:=Z;refine go3 ?_;refine zK 9 _ [] (zai 0 4 [(5,.q),(6,.q),(4,.c),(7,.c),(8,.c),(9,.t)]) yC nX zot nX (λr hr=>hr) (go6 ?_);refine w_c I ?_;refine pL (vs:=[_]) call103 ⟨I,y1i⟩ (λw hs=>cE hs hna oM) I ?_;intro v7 h1 L7 O U;obtain rfl:=U;refine w_c I ?_;replace hda:=hda.mono O;refine pL (vs:=[_]) call103 ⟨I,y1i⟩ (λw hs=>cE hs hda oM) I ?_;intro H h2 ai M J;obtain rfl:=J;refine w_c I ?_;replace hna:=hna.mono (O.trans M);refine cG (A:=[_]) (by exact hna.lt) (by simp only[zfi,zgi,or_false];rintro r (rfl|rfl) _<;>simp) ?_;intro h3 ac D;replace hda:=hda.mono (M.trans ac);refine cG (A:=[]) (by exact hda.lt) (by simp only[zfi,zgi,or_false];rintro r (rfl|rfl) _<;>simp) ?_;intro h4 ab G;replace D:=D.mono ab;refine zTQ (λX=>yO (ps':=[(0,_),(1,_),(2,_)]) (vs:=[vB (qa.num<0),v7,H]) underlying26 yS I (vQ underlying26) e6 (xD (A:=[]) (B:=[_]) (C:=[_,_]) (cs:=[_]) (off:=0) (size:=1) I I I I I (xD (A:=[_]) (B:=[_]) (C:=[_]) (cs:=[_]) (off:=1) (size:=1) I I I I D.cells (xD (A:=[_,_]) (B:=[_]) (C:=[]) (cs:=[_]) (off:=2) (size:=1) I I I I G.cells uF)))) I (gL (A:=[]) (q':=.var b2 26 [vB (qa.num<0),v7,H]) I (zH (k:=0) (cs:=[_,_,_]) (vs:=[_,_,_]) I I I (ocr I (ocu D (ocu G oc0))) yB (bL I)) I (go3 ?_));refine yG (λE S=>zQ I (xN (cs:=[_,_,_]) mh0 underlying26 I yB I) E S) ?_;exact⟨_,_,I,D,G⟩
theorem nI{k:Nat}{va:Value}{a:Rat}(ra:(rpQ k).Is h0 va a)(hcd0:k<=10000000000):
 Calls prog 54 #[va] w0 (Ret w0 h0 (λh r=>(rpQ k).Is h r a)):=by
 obtain⟨G,H,rfl,C,D,J⟩:=qN ra;exact(zYX hs C D oM).mono (jR λh r x=>oN x oM)
theorem zBP{k l:Nat}{va:Value}{a:Tq}(ra:(tPt k).Is h0 va a){vb:Value}{b:Tq}(rb:(tPt l).Is h0 vb b)(hcd0:k+l<=1000000000):
 Calls prog 27 #[va,vb] w0 (Ret w0 h0 (λ_ r=>r=vB (a=b))):=by
 refine cb2 24 va vb func27 hs ?_;refine go2 ?_;refine nB ra λb2 aa H=>(nB rb λb3 Z G=>(go6 ?_));refine lX (xB yI (y2e pH) H) λv6 r6=>(go1 ?_);refine lX (xB yI (y2e pH) G) λv8 r8=>(cL (ev2 I I) call15 (λw hs=>qT hs r6 r8 oM) λv9 h1 ar r9=>?_);obtain rfl:v9=vB (a.x=b.x):=r9;refine uZ (ι:=Mem) 7 (λJ=>MLe h1 J) (λ_=>[(16,vB ((a.x=b.x)/\(a.y=b.y))),(2,vP b2 0),(3,vP b3 0)]) (λ_=>[.var b3 53 Z,.var b2 53 aa]) (λJ=>J) ?_ ?_
 ·
  refine yD (a.x=b.x) (λD=>?_) (λD=>?_)
  ·
   refine gT D I (go3 ?_);refine lX (xB yI (y3i pH) H) λaq am=>(go3 ?_);refine lX (xB yI (y3i pH) G) λap ak=>(go1 ?_);refine cL (ev2 I I) call15 (λw hs=>qT hs am ak oM) λad h2 M aj=>?_;obtain rfl:ad=vB (a.y=b.y):=aj;refine go2 ?_;refine zS h2 M ⟨?_,I,I,y1i⟩ I I;exact y0e (xS D)
  refine gF D I (go7 ?_);refine zS h1 (MLe.refl _) ⟨?_,I,I,y1i⟩ I I;exact y0e (xT D)
 intro C U;refine sD ?_;refine uZ (ι:=Mem) 7 (λJ=>MLe C J) (λ_=>[(23,vB (((a.x=b.x)/\(a.y=b.y))/\(a.z=b.z)))]) (λ_=>[.var b3 53 Z,.var b2 53 aa]) (λJ=>J) ?_ ?_
 ·
  refine yD ((a.x=b.x)/\(a.y=b.y)) (λD=>?_) (λD=>?_)
  ·
   refine gT D I (go3 ?_);refine lX (xB yI (y3u pH) H) λao ai=>(go3 ?_);refine lX (xB yI (y3u pH) G) λan ah=>(go1 ?_);refine cL (ev2 I I) call15 (λw hs=>qT hs ai ah oM) λac h2 M ae=>?_;obtain rfl:ac=vB (a.z=b.z):=ae;refine go2 ?_;refine zS h2 M ⟨?_,y1i⟩ I I;exact y0e (xS D)
  refine gF D I (go7 ?_);refine zS C (MLe.refl _) ⟨?_,y1i⟩ I I;exact y0e (xT D)
 intro ab O;refine sD ?_;refine go4 ?_;refine zD I I ?_
 first|exact tB (by rw[oE];grind)|exact(xR (by rw[oE];grind)).symm|exact(yV (by rw[oE];grind)).symm
theorem nH{k:Nat}{va:Value}{a:Tq}(ra:(tPt k).Is h0 va a)(hcd0:k<=1000000):
 Calls prog 42 #[va] w0 (Ret w0 h0 (λ_ r=>r=vB (a=zT))):=by
 refine cb1 6 va func42 hs ?_;refine go2 ?_;refine nB ra λM J C=>(go5 ?_);refine lX (xB zO pH C) λv3 r3=>(lX (xV (ρ:=(tPt 1)) (wL (ps':=[]) underlying53 yM I I sizeOf26 trivial I (xE (yE dC)) zN)) λv4 r4=>(cL (ev2 I I) call27 (λw hs=>zBP hs r3 r4 oM) λD h1 H G=>?_));obtain rfl:D=vB (a=zT):=G;refine go4 ?_;refine zD I I ?_
 rfl
theorem cQ{k l:Nat}{va:Value}{a:Tq}(ra:(tPt k).Is h0 va a){vb:Value}{b:Tq}(rb:(tPt l).Is h0 vb b)(hcd0:k+l<=1000000000):
 Calls prog 44 #[va,vb] w0 (Ret w0 h0 (λh r=>(rpQ (3*k+3*l+9)).Is h r (vZ a b))):=by
 refine cb2 21 va vb func44 hs ?_;refine go2 ?_;refine nB ra λb2 ce am=>(nB rb λb3 cd ak=>(nA (ρ:=(rpQ (3*k+3*l+9))) (X:=(0:Rat)) yS (yE oM) λb4 cc bo=>(go4 ?_)));refine nA (ρ:=(rpQ 1)) (X:=(0:Rat)) yS (yE dC) λb5 cb bd=>(go9 ?_);refine tP (go4 ?_);refine gv (OpV.tr dC (yL (q:=3) I I)) I (go7 ?_);refine zK 9 _ [] (zai 0 7 [(7,.c),(8,.c),(9,.t)]) yC nX zot nX (λr hr=>hr) (wX I (xB yI pH bd) λbn ay=>(go2 ?_));refine wX I (xB yI (y2e pH) am) λbk av=>(go2 ?_);refine wX I (xB yI (y2e pH) ak) λbh aq=>?_;refine w_c I (sC (ev2 I I) call9 (λw hs=>qO hs av aq oM) λah h1 ca M=>?_)
 change (rpQ (k+l)).Is h1 ah (a.x*b.x) at M
 refine w_c I (sC (ev2 I I) call37 (λw hs=>sY hs ay.up M oM) λac h2 bz G=>?_)
 change (rpQ (1+(k+l)+1)).Is h2 ac ((0:Rat)+(a.x*b.x)) at G
 replace G:=Rp.Is.le G (Le.q (l:=k+l+2) oM);have bb:=(Le.q (l:=k+l+2) oM).R bd;refine yJ (A:=[]) I (uB sizeOf26 pH bb G) λbt Z=>(go5 ?_);refine gv ((zY (q:=1) I I oM oM).cv (show _=vI (1) from I)) I (go2 ?_);refine wP (go4 ?_);refine gv (OpV.tr dC (yL (q:=3) I I)) I (go7 ?_);refine zK 9 _ [] (zai 0 7 [(7,.c),(8,.c),(9,.t)]) yC nX zot nX (λr hr=>hr) (wX I (xB yI pH Z) λbm ax=>(go2 ?_));refine wX I (xB yI (y3i pH) am) λbj au=>(go2 ?_);refine wX I (xB yI (y3i pH) ak) λbg ap=>?_;refine w_c I (sC (ev2 I I) call9 (λw hs=>qO hs au ap oM) λae h3 bx J=>?_)
 change (rpQ (k+l)).Is h3 ae (a.y*b.y) at J
 refine w_c I (sC (ev2 I I) call37 (λw hs=>sY hs ax.up J oM) λab h4 bw D=>?_)
 change (rpQ ((k+l+2)+(k+l)+1)).Is h4 ab (((0:Rat)+(a.x*b.x))+(a.y*b.y)) at D
 replace D:=Rp.Is.le D (Le.q (l:=2*k+2*l+3) oM);have ba:=(Le.q (l:=2*k+2*l+3) oM).R Z;refine yJ (A:=[]) I (uB sizeOf26 pH ba D) λbs U=>(go5 ?_);refine gv ((zY (q:=1) I I oM oM).cv (show _=vI (2) from I)) I (go2 ?_);refine wP (go4 ?_);refine gv (OpV.tr dC (yL (q:=3) I I)) I (go7 ?_);refine zK 9 _ [] (zai 0 7 [(7,.c),(8,.c),(9,.t)]) yC nX zot nX (λr hr=>hr) (wX I (xB yI pH U) λbl aw=>(go2 ?_));refine wX I (xB yI (y3u pH) am) λbi ar=>(go2 ?_);refine wX I (xB yI (y3u pH) ak) λbf ao=>?_;refine w_c I (sC (ev2 I I) call9 (λw hs=>qO hs ar ao oM) λad h5 bv H=>?_)
 change (rpQ (k+l)).Is h5 ad (a.z*b.z) at H
 refine w_c I (sC (ev2 I I) call37 (λw hs=>sY hs aw.up H oM) λaa h6 bu C=>?_)
 change (rpQ ((2*k+2*l+3)+(k+l)+1)).Is h6 aa ((((0:Rat)+(a.x*b.x))+(a.y*b.y))+(a.z*b.z)) at C
 replace C:=Rp.Is.le C (Le.q (l:=3*k+3*l+4) oM);have az:=(Le.q (l:=3*k+3*l+4) oM).R U;refine yJ (A:=[]) I (uB sizeOf26 pH az C) λbr bc=>(go5 ?_);refine gv ((zY (q:=1) I I oM oM).cv (show _=vI (3) from I)) I (go2 ?_);refine wP (go4 ?_);refine gv (OpV.fa dC (yL (q:=3) I I)) I (uQ ?_);refine lX (xB yI pH bc) λbe an=>(zV (A:=[_]) (uB sizeOf26 pH bo (an.le (Le.q (l:=3*k+3*l+9) oM))) λbp aj=>(go3 ?_));refine xW (jA (t:=4) yI mh1 I aj) ?_;intro bq O ai;refine yG (λE S=>zQ I O E S) ?_;exact(Rp.Is.cast ai (by unfold vZ;grind))
theorem y8{k l:Nat}{va:Value}{a:Tq}(ra:(tPt k).Is h0 va a){vb:Value}{b:Tq}(rb:(tPt l).Is h0 vb b)(hcd0:k+l<=1000000000):
 Calls prog 43 #[va,vb] w0 (Ret w0 h0 (λh r=>(tPt (2*k+2*l+3)).Is h r (uC a b))):=by
 refine cb2 37 va vb func43 hs ?_;refine go2 ?_;refine nB ra λb2 cq J=>(nB rb λb3 cp H=>(nA (ρ:=(tPt (2*k+2*l+3))) (X:=zT) yM (xE (yE oM)) λb4 co bx=>(go4 ?_)));refine nA (ρ:=(tPt (2*k+2*l+3))) (X:=zT) yM (xE (yE oM)) λb5 cn bw=>(go9 ?_);refine tP (go4 ?_);refine gv (OpV.tr dC (yL (q:=3) I I)) I (uQ ?_);refine gv ((zY (q:=1) I I oM oM).cv (show _=vI (1) from I)) I (gv ((wO (q:=3) I I oM oM).cv (show _=vI (1) from I)) I (go1 ?_));refine gv ((zY (q:=2) I I oM oM).cv (show _=vI (2) from I)) I (gv ((wO (q:=3) I I oM oM).cv (show _=vI (2) from I)) I (go4 ?_));refine zK 17 _ [] (zai 0 7 (zai 8 6 [(7,.c),(14,.c),(15,.c),(16,.q),(17,.t)])) yC nX (wV zot) nX (λr hr=>hr) (go3 ?_);refine wX I (xB yI (y3i pH) J) λbv bi=>(go2 ?_);refine wX I (xB yI (y3u pH) H) λbs bf=>(go2 ?_);refine wX I (xB yI (y3u pH) J) λbp bc=>(go2 ?_);refine wX I (xB yI (y3i pH) H) λbm az=>?_;refine w_c I (sC (ev2 I I) call9 (λw hs=>qO hs bi bf oM) λao h1 cm ab=>?_)
 change (rpQ (k+l)).Is h1 ao (a.y*b.z) at ab
 refine w_c I (sC (ev2 I I) call9 (λw hs=>qO hs bc.up az.up oM) λak h2 cl U=>?_)
 change (rpQ (k+l)).Is h2 ak (a.z*b.y) at U
 refine w_c I (sC (ev2 I I) call16 (λw hs=>fP hs ab.up U oM) λah h3 ck G=>?_)
 change (rpQ ((k+l)+(k+l)+1)).Is h3 ah ((a.y*b.z)-(a.z*b.y)) at G
 replace G:=Rp.Is.le G (Le.q (l:=2*k+2*l+1) oM);refine go1 ?_;refine yJ (A:=[]) I (uB sizeOf26 (y2e pH) bw (G.le (Le.q (l:=2*k+2*l+3) oM))) λcc av=>(go5 ?_);refine gv ((zY (q:=1) I I oM oM).cv (show _=vI (1) from I)) I (go2 ?_);refine wP (go4 ?_);refine gv (OpV.tr dC (yL (q:=3) I I)) I (uQ ?_);refine gv ((zY (q:=1) I I oM oM).cv (show _=vI (2) from I)) I (gv ((wO (q:=3) I I oM oM).cv (show _=vI (2) from I)) I (go1 ?_));refine gv ((zY (q:=2) I I oM oM).cv (show _=vI (3) from I)) I (gv ((wO (q:=3) I I oM oM).cv (show _=vI (0) from I)) I (go4 ?_));refine zK 17 _ [] (zai 0 7 (zai 8 6 [(7,.c),(14,.c),(15,.c),(16,.q),(17,.t)])) yC nX (wV zot) nX (λr hr=>hr) (go3 ?_);refine wX I (xB yI (y3u pH) J) λbu bh=>(go2 ?_);refine wX I (xB yI (y2e pH) H) λbr be=>(go2 ?_);refine wX I (xB yI (y2e pH) J) λbo bb=>(go2 ?_);refine wX I (xB yI (y3u pH) H) λbl ay=>?_;refine w_c I (sC (ev2 I I) call9 (λw hs=>qO hs bh be oM) λan h4 cj aa=>?_)
 change (rpQ (k+l)).Is h4 an (a.z*b.x) at aa
 refine w_c I (sC (ev2 I I) call9 (λw hs=>qO hs bb.up ay.up oM) λaj h5 ci O=>?_)
 change (rpQ (k+l)).Is h5 aj (a.x*b.z) at O
 refine w_c I (sC (ev2 I I) call16 (λw hs=>fP hs aa.up O oM) λae h6 ch D=>?_)
 change (rpQ ((k+l)+(k+l)+1)).Is h6 ae ((a.z*b.x)-(a.x*b.z)) at D
 replace D:=Rp.Is.le D (Le.q (l:=2*k+2*l+1) oM);refine go1 ?_;refine yJ (A:=[]) I (uB sizeOf26 (y3i pH) av (D.le (Le.q (l:=2*k+2*l+3) oM))) λcb au=>(go5 ?_);refine gv ((zY (q:=1) I I oM oM).cv (show _=vI (2) from I)) I (go2 ?_);refine wP (go4 ?_);refine gv (OpV.tr dC (yL (q:=3) I I)) I (uQ ?_);refine gv ((zY (q:=1) I I oM oM).cv (show _=vI (3) from I)) I (gv ((wO (q:=3) I I oM oM).cv (show _=vI (0) from I)) I (go1 ?_));refine gv ((zY (q:=2) I I oM oM).cv (show _=vI (4) from I)) I (gv ((wO (q:=3) I I oM oM).cv (show _=vI (1) from I)) I (go4 ?_));refine zK 17 _ [] (zai 0 7 (zai 8 6 [(7,.c),(14,.c),(15,.c),(16,.q),(17,.t)])) yC nX (wV zot) nX (λr hr=>hr) (go3 ?_);refine wX I (xB yI (y2e pH) J) λbt bg=>(go2 ?_);refine wX I (xB yI (y3i pH) H) λbq bd=>(go2 ?_);refine wX I (xB yI (y3i pH) J) λbn ba=>(go2 ?_);refine wX I (xB yI (y2e pH) H) λbk ax=>?_;refine w_c I (sC (ev2 I I) call9 (λw hs=>qO hs bg bd oM) λam h7 cg Z=>?_)
 change (rpQ (k+l)).Is h7 am (a.x*b.y) at Z
 refine w_c I (sC (ev2 I I) call9 (λw hs=>qO hs ba.up ax.up oM) λai h8 cf M=>?_)
 change (rpQ (k+l)).Is h8 ai (a.y*b.x) at M
 refine w_c I (sC (ev2 I I) call16 (λw hs=>fP hs Z.up M oM) λad h9 ce C=>?_)
 change (rpQ ((k+l)+(k+l)+1)).Is h9 ad ((a.x*b.y)-(a.y*b.x)) at C
 replace C:=Rp.Is.le C (Le.q (l:=2*k+2*l+1) oM);refine go1 ?_;refine yJ (A:=[]) I (uB sizeOf26 (y3u pH) au (C.le (Le.q (l:=2*k+2*l+3) oM))) λca ar=>(go5 ?_);refine gv ((zY (q:=1) I I oM oM).cv (show _=vI (3) from I)) I (go2 ?_);refine wP (go4 ?_);refine gv (OpV.fa dC (yL (q:=3) I I)) I (uQ ?_);refine lX (xB zO pH ar) λbj aw=>(zV (A:=[_]) (uB sizeOf53 pH bx aw) λbz aq=>(go3 ?_));refine xW (jA (t:=4) zO mh1 I aq) ?_;intro cd ac ap;refine yG (λE S=>zQ I ac E S) ?_;exact ap
theorem zRO{m l:Nat}{vs:Value}{s:Pq}(rs:(tPl m l).Is h0 vs s)(hcd0:m<=1000000000):
 Calls prog 209 #[vs] w0 (Ret w0 h0 (λh r=>r=.tuple #[vI (↑(axI s.1):Int),vI (↑(axJ s.1):Int),vI (↑(axK s.1):Int)])):=by
 refine cb1 29 vs func209 hs ?_;refine go2 ?_;refine nB rs λb1 av G=>(oO ?_);refine lX (xB yI (y2i (y3u pH)) G) λar ak=>(cL (ev1 I) call17 (λw hs=>uK hs ak oM) λae h1 au aj=>?_);obtain rfl:ae=vI (yW s.1.z):=aj;have an:=wB s.1.z;refine gc3 (λac=>?_) λac=>?_
 ·
  refine qG ?_;refine lX (xB yI (y2i (y3i pH)) G) λaq ai=>(cL (ev1 I) call17 (λw hs=>uK hs ai oM) λad h2 ap ah=>?_);obtain rfl:ad=vI (yW s.1.y):=ah;have am:=wB s.1.y;refine gc3 (λab=>?_) λab=>?_
  ·
   refine uV ?_;refine lX (xB yI (y2i (y2e pH)) G) λaa J=>(cL (ev1 I) call17 (λw hs=>uK hs J oM) λD h3 ao H=>?_);obtain rfl:D=vI (yW s.1.x):=H;have M:=wB s.1.x;refine gc3 (λC=>?_) λC=>?_
   ·
    refine zV7 ?_;refine jK I I I I ?_;have Z:axI s.1=2:=by unfold axI;simp only[uT,qW] at *;grind
    have U:axJ s.1=1:=by unfold axJ;simp only[uT,qW] at *;grind
    have O:axK s.1=0:=by unfold axK;simp only[uT,qW] at *;grind
    rw[Z,U,O];rfl
   refine rN ?_;refine jK I I I I ?_;have Z:axI s.1=1:=by unfold axI;simp only[uT,qW] at *;grind
   have U:axJ s.1=2:=by unfold axJ;simp only[uT,qW] at *;grind
   have O:axK s.1=0:=by unfold axK;simp only[uT,qW] at *;grind
   rw[Z,U,O];rfl
  refine go8 ?_;refine lX (xB yI (y2i (y3i pH)) G) λaa J=>(cL (ev1 I) call17 (λw hs=>uK hs J oM) λD h3 ao H=>?_);obtain rfl:D=vI (yW s.1.y):=H;have M:=wB s.1.y;refine gc3 (λC=>?_) λC=>?_
  ·
   refine zV7 ?_;refine jK I I I I ?_;have Z:axI s.1=0:=by unfold axI;simp only[uT,qW] at *;grind
   have U:axJ s.1=2:=by unfold axJ;simp only[uT,qW] at *;grind
   have O:axK s.1=1:=by unfold axK;simp only[uT,qW] at *;grind
   rw[Z,U,O];rfl
  refine rN ?_;refine jK I I I I ?_;have Z:axI s.1=2:=by unfold axI;simp only[uT,qW] at *;grind
  have U:axJ s.1=0:=by unfold axJ;simp only[uT,qW] at *;grind
  have O:axK s.1=1:=by unfold axK;simp only[uT,qW] at *;grind
  rw[Z,U,O];rfl
 refine go8 ?_;refine lX (xB yI (y2i (y3u pH)) G) λaa J=>(cL (ev1 I) call17 (λw hs=>uK hs J oM) λD h2 ap H=>?_);obtain rfl:D=vI (yW s.1.z):=H;have M:=wB s.1.z;refine gc3 (λC=>?_) λC=>?_
 ·
  refine zV7 ?_;refine jK I I I I ?_;have Z:axI s.1=1:=by unfold axI;simp only[uT,qW] at *;grind
  have U:axJ s.1=0:=by unfold axJ;simp only[uT,qW] at *;grind
  have O:axK s.1=2:=by unfold axK;simp only[uT,qW] at *;grind
  rw[Z,U,O];rfl
 refine rN ?_;refine jK I I I I ?_;have Z:axI s.1=0:=by unfold axI;simp only[uT,qW] at *;grind
 have U:axJ s.1=1:=by unfold axJ;simp only[uT,qW] at *;grind
 have O:axK s.1=2:=by unfold axK;simp only[uT,qW] at *;grind
 rw[Z,U,O];rfl
theorem zII{m l k:Nat}{vs:Value}{s:Pq}(rs:(tPl m l).Is h0 vs s){vp:Value}{p:Tq}(rp:(tPt k).Is h0 vp p)(hcd0:k<=1000000000)(hcd1:m<=1000000000):
 Calls prog 208 #[vs,vp] w0 (Ret w0 h0 (λh r=>(tPt (k+1)).Is h r (gY s p))):=by
 refine cb2 21 vs vp func208 hs ?_;refine go2 ?_;refine nB rs λb2 ao O=>(nB rp λJ an H=>(nA (ρ:=(tPt (k+1))) (X:=zT) yM (xE (yE oM)) λb4 am M=>(go4 ?_)));refine lX (xB iU pH O) λv9 r9=>(cL (ev1 I) call209 (λw hs=>zRO hs r9 oM) λaj h1 ak ab=>?_);obtain rfl:=ab;refine uQ ?_;refine zK 7 _ [] (zai 0 7 [(7,.t)]) yC nX zot nX (λr hr=>hr) (go1 ?_);refine wK I (λ_ _=>(wE (sz:=3) (axI s.1) underlying53 sizeOf26 I I zo0 (by exact zXE _)).cv (show _=vP J (((axI s.1)*3+0)) from zbi (vP J) oM)) I (wX I (xB yI (Pc.ta pH (axI s.1) (by exact zXE _)) H) λai aa=>(go1 ?_));refine wK I (λ_ _=>(wE (sz:=3) (axJ s.1) underlying53 sizeOf26 I I zo0 (by exact zXD _)).cv (show _=vP J (((axJ s.1)*3+0)) from zbi (vP J) oM)) I (wX I (xB yI (Pc.ta pH (axJ s.1) (by exact zXD _)) H) λah Z=>(wX I (xV (ρ:=(tPt (k+1))) (wL (ps':=[(0,_),(1,_)]) underlying53 yM I I sizeOf26 e4z I (xE (yE oM)) (zC I (y2e (y1u _)) (aa.le (Le.q (l:=k+1) oM)) (zC I (y3i (y1u _)) (Z.le (Le.q (l:=k+1) oM)) zN)))) λae U=>(yJ (A:=[]) I (uB sizeOf53 pH M U) λac G=>(go3 ?_))));refine xW (jA (t:=4) zO mh0 I G) ?_;intro ad C D;refine yG (λE S=>zQ I C E S) ?_;exact D
theorem zRP{m l k:Nat}{vs:Value}{s:Pq}(rs:(tPl m l).Is h0 vs s){vp:Value}{p:Tq}(rp:(tPt k).Is h0 vp p)(hcd0:k<=1000000)(hcd1:l<=1000000)(hcd2:m<=1000000):
 Calls prog 153 #[vs,vp] w0 (Ret w0 h0 (λ_ r=>r=vI (yW (vZ s.1 p-s.2)))):=by
 refine cb2 13 vs vp func153 hs ?_;refine go2 ?_;refine nB rs λb2 ah D=>(nB rp λb3 ae H=>(go4 ?_));refine zK 9 _ [] [(0,.q),(1,.q),(2,.q),(4,.q),(5,.q),(3,.c),(6,.c),(7,.c),(8,.q)] yC nX zot nX (λr hr=>hr) (go1 ?_);refine wX I (xB zO (y2i pH) D) λv6 r6=>(wX I (xB zO pH H) λv7 r7=>(go1 ?_));refine wX I (xB yI (y2u pH) D) λaa O=>?_;refine w_c I (sC (ev2 I I) call44 (λw hs=>cQ hs r6 r7 oM) λv8 h1 ad J=>?_);replace J:=Rp.Is.le J (Le.q (l:=3*k+3*m+9) oM);refine w_c I (sC (ev2 I I) call16 (λw hs=>fP hs J O.up oM) λZ h2 ac C=>?_);replace C:=Rp.Is.le C (Le.q (l:=3*k+l+3*m+10) oM);refine w_c I (sC (ev1 I) call17 (λw hs=>uK hs C oM) λG h3 ab M=>?_);obtain rfl:G=vI (yW ((vZ s.1 p)-s.2)):=M;have U:=wB ((vZ s.1 p)-s.2);refine go4 ?_;refine zD I I ?_
 rfl
end
end Go.Proofs.YtboaboflnckgoaaGreat
namespace Bk
open Classical
def lpP(x:List Int):Prop:=(3<=x.length/\x.length<=64)/\∀i,i<x.length->(0<=(x.getD i 0)/\(x.getD i 0)<512)/\∀k,k<i->¬(x.getD i 0)=(x.getD k 0)
def vfP(L:List (List Int)):Prop:=(1<=L.length/\L.length<=16)/\∀l,l<L.length->lpP ((L.getD l []))
def vaP(F:List (List (List Int))):Prop:=F.length<=256/\∀f,f<F.length->vfP ((F.getD f []))
abbrev E5:=Int×Int×Int×Int×Int
def edX(x:List Int)(f l:Nat):Nat->List E5:=uD λi=>((x.getD i 0),(x.getD ((i+1)%x.length) 0),(f:Int),(l:Int),(i:Int))
def edL(L:List (List Int))(f:Nat):Nat->List E5:=jY λl=>edX ((L.getD l [])) f l ((L.getD l [])).length
def edF(F:List (List (List Int))):Nat->List E5:=jY λf=>edL ((F.getD f [])) f ((F.getD f [])).length
def edZ(F:List (List (List Int))):List E5:=edF F F.length
abbrev e0:E5:=((0:Int),(0:Int),(0:Int),(0:Int),(0:Int))
def zZY(e:E5)(a b:Int):Prop:=e.1=a/\e.2.1=b
def j6(E:List E5)(a b:Int):Nat->Int
  |0=>0
  |m+1=>if zZY ((E.getD m ((0:Int),(0:Int),(0:Int),(0:Int),(0:Int)))) a b then j6 E a b m+1 else j6 E a b m
theorem j5(E:List E5)(a b:Int):∀m,0<=j6 E a b m/\j6 E a b m<=m
  |0=>by unfold j6;omega
  |m+1=>by
   have h:=j5 E a b m;unfold j6
   split<;>omega
theorem tm_t{E:List E5}{a b:Int}{m:Nat}(h:zZY ((E.getD m ((0:Int),(0:Int),(0:Int),(0:Int),(0:Int)))) a b):j6 E a b m+1=j6 E a b (m+1):=(zau h).symm
theorem tm_f{E:List E5}{a b:Int}{m:Nat}(h:¬zZY ((E.getD m ((0:Int),(0:Int),(0:Int),(0:Int),(0:Int)))) a b):j6 E a b m=j6 E a b (m+1):=(zae h).symm
def tmZ(E:List E5)(a b:Int):Int:=j6 E a b E.length
def yGN(E:List E5)(i:Nat):Prop:=tmZ E ((E.getD i ((0:Int),(0:Int),(0:Int),(0:Int),(0:Int)))).2.1 ((E.getD i ((0:Int),(0:Int),(0:Int),(0:Int),(0:Int)))).1<tmZ E ((E.getD i ((0:Int),(0:Int),(0:Int),(0:Int),(0:Int)))).1 ((E.getD i ((0:Int),(0:Int),(0:Int),(0:Int),(0:Int)))).2.1
def yEU(E:List E5):Nat->List E5:=pG (yGN E) λi=>((30:Int),(-1:Int),((E.getD i ((0:Int),(0:Int),(0:Int),(0:Int),(0:Int)))).2.2.1,((E.getD i ((0:Int),(0:Int),(0:Int),(0:Int),(0:Int)))).2.2.2.1,((E.getD i ((0:Int),(0:Int),(0:Int),(0:Int),(0:Int)))).2.2.2.2)
def clZ(F:List (List (List Int))):List E5:=if vaP F then yEU (edZ F) (edZ F).length else[((1:Int),(-1:Int),(-1:Int),(-1:Int),(-1:Int))]
theorem zLS(x:List Int)(f l m:Nat):(edX x f l m).length=m:=xH _ _
theorem zFE{L:List (List Int)}(h:∀l,l<L.length->((L.getD l [])).length<=64)(f:Nat):∀m,m<=L.length->(edL L f m).length<=64*m
  |0,_=>zbe _
  |m+1,hm=>by
   have h1:=zFE h f m zos;have h2:=h m zos
   show List.length (edL L f m++edX (L.getD m []) f m (L.getD m []).length)<=_
   rw[lAz,zLS];omega
theorem zAX{F:List (List (List Int))}(h:∀f,f<F.length->((F.getD f [])).length<=16/\∀l,l<((F.getD f [])).length->((((F.getD f [])).getD l [])).length<=64):∀m,m<=F.length->(edF F m).length<=1024*m
  |0,_=>zbe _
  |m+1,hm=>by
   have h1:=zAX h m zos;have h2:=h m zos;have h3:=zFE h2.2 m _ (zbe _)
   show List.length (edF F m++edL (F.getD m []) m (F.getD m []).length)<=_
   rw[lAz];omega
end Bk
namespace Bk
open Go Go.RowKit
section
variable {P:Program}{n:Nat}{w0:World}{h0:Mem}{e:List (Nat×Value)}{L:List Res}{h:Mem}{Q:Exit->Act->World->Prop}
variable {ty:TypeId}{ps:String}{af:Array Edge}
end
end Bk
namespace Go.Proofs.YtboaboflnckgoaaGreat
open Bk Go Tryz
attribute [local irreducible] GL GC GQ W OpV
section
variable{w0:World}{h0:Mem}(hs:MLe h0 (mem w0))
include hs
theorem eH{vL:Value}{L:(List (List Int))}(rL:tII.Is h0 vL L):
 Calls prog 186 #[vL] w0 (Ret w0 h0 (λ_ r=>r=vB (vfP L))):=by
 refine cb1 65 vL func186 hs ?_;refine qG ?_;refine gU 5 14 (vB (((↑(L).length:Int)<(1:Int))\/((16:Int)<(↑(L).length:Int)))) ?_ ?_
 ·
  refine yD ((↑(L).length:Int)<(1:Int)) (λC=>?_) (λC=>?_)
  ·
   refine gT C I (go5 ?_);refine gqU ?_;exact y0e (vV C)
  refine gF C I (go8 ?_);refine gqU ?_;exact y0e (vW C)
 refine gc2 (λah=>?_) λah=>?_
 ·
  refine go7 ?_;refine zD I I ?_;exact(yV (λe=>by have:=e.1;omega)).symm
 refine go9 ?_;refine gcL (ι:=Nat×Mem) (λ(l,O)=>(MLe h0 O/\(l<=L.length/\∀u,u<l->lpP (L.getD u [])),[(0,vL),(3,vI ↑l)],[],O,L.length-l)) (0,h0) ?_ ?_
 · exact⟨mle,by omega,λu h=>by omega⟩
 rintro⟨l,O⟩ ⟨ba,bo,U⟩
 refine yQ ?_;refine gc9 (λae=>?_) λae=>?_
 ·
  refine go8 ?_;refine lX (xI [] l underlying81 fE rL) λbn ar=>(lX (xA fE ar) λJ G=>(go9 ?_));refine gU 5 32 (vB (((↑((L.getD l [])).length:Int)<(3:Int))\/((64:Int)<(↑((L.getD l [])).length:Int)))) ?_ ?_
  ·
   refine yD ((↑((L.getD l [])).length:Int)<(3:Int)) (λC=>?_) (λC=>?_)
   ·
    refine gT C I (go5 ?_);refine gqU ?_;exact y0e (vV C)
   refine gF C I (go8 ?_);refine gqU ?_;exact y0e (vW C)
  refine gc2 (λad=>?_) λad=>?_
  ·
   refine uV ?_;refine zD I I ?_;exact(yV (λe=>by have:=(e.2 l oM).1;omega)).symm
  refine go8 ?_;refine gcL (ι:=Nat×Mem) (λ(i,H)=>(MLe O H/\(i<=(L.getD l []).length/\∀u,u<i->(0<=(L.getD l []).getD u 0/\(L.getD l []).getD u 0<512)/\∀k,k<u->¬(L.getD l []).getD u 0=(L.getD l []).getD k 0),[(0,vL),(3,vI ↑l),(4,J),(5,vI ↑i)],[],H,(L.getD l []).length-i)) (0,O) ?_ ?_
  · exact⟨mle,by omega,λu h=>by omega⟩
  rintro⟨i,H⟩ ⟨az,bq,hi2⟩
  refine yQ ?_;refine gc9 (λac=>?_) λac=>?_
  ·
   refine go9 ?_;refine lX (xI (0:Int) i underlying32 ty3 G) λbm aq=>(lX (xA ty3 aq) λbl ap=>?_);obtain⟨rfl,be,ax⟩:=kF ap;refine go1 ?_;refine gU 7 50 (vB ((((L.getD l []).getD i (0:Int))<(0:Int))\/((512:Int)<=((L.getD l []).getD i (0:Int))))) ?_ ?_
   ·
    refine yD (((L.getD l []).getD i (0:Int))<(0:Int)) (λC=>?_) (λC=>?_)
    ·
     refine gT C I (go7 ?_);refine gqU ?_;exact y0e (vV C)
    refine gF C I (go5 ?_);refine lX (xI (0:Int) i underlying32 ty3 G) λbk ao=>(go1 ?_);refine lX (xA ty3 ao) λbj an=>?_;obtain⟨rfl,bd,aw⟩:=kF an;refine go4 ?_;refine gqU ?_;exact y0e (vW C)
   refine gc2 (λab=>?_) λab=>?_
   ·
    refine zBY ?_;refine zD I I ?_;exact(yV (λe=>by have:=((e.2 l oM).2 i oM).1;omega)).symm
   refine go8 ?_;refine gcL (ι:=Nat×Mem) (λ(k,M)=>(MLe H M/\(k<=i/\∀v,v<k->¬(L.getD l []).getD i 0=(L.getD l []).getD v 0),[(0,vL),(3,vI ↑l),(4,J),(5,vI ↑i),(6,vI ↑k)],[],M,i-k)) (0,H) ?_ ?_
   · exact⟨mle,by omega,λu h=>by omega⟩
   rintro⟨k,M⟩ ⟨ay,bp,Z⟩
   refine yQ ?_;refine gc8 (λaa=>?_) λaa=>?_
   ·
    refine go5 ?_;refine zK 9 _ [] (zai 0 9 []) yC nX zot nX (λr hr=>hr) (go2 ?_);refine wX I (xI (0:Int) i underlying32 ty3 G) λbi am=>(wX I (xA ty3 am) λbh ak=>?_);obtain⟨rfl,bc,av⟩:=kF ak;refine go2 ?_;refine wX I (xI (0:Int) k underlying32 ty3 G) λbg aj=>(wX I (xA ty3 aj) λbf ai=>?_);obtain⟨rfl,bb,au⟩:=kF ai;refine gc3 (λD=>?_) λD=>?_
    ·
     refine yGL ?_;refine zD I I ?_;exact(yV (λe=>((e.2 l oM).2 i oM).2 k oM D)).symm
    refine go8 ?_;refine gqL ((k+1),M) ?_ ?_
    · exact⟨mle,by omega,qA (Q:=λv=>¬(L.getD l []).getD i 0=(L.getD l []).getD v 0) Z D⟩
    omega
   refine qG ?_;refine gqL ((i+1),M) ?_ ?_
   · exact⟨mle,by omega,qA (Q:=λu=>(0<=(L.getD l []).getD u 0/\(L.getD l []).getD u 0<512)/\∀k,k<u->¬(L.getD l []).getD u 0=(L.getD l []).getD k 0) hi2 ⟨by omega,λk hk=>Z k oM⟩⟩
   omega
  refine qG ?_;refine gqL ((l+1),H) ?_ ?_
  · exact⟨mle,by omega,qA (Q:=λu=>lpP (L.getD u [])) U ⟨by omega,λu hu=>hi2 u oM⟩⟩
  omega
 refine qG ?_;refine zD I I ?_;exact(xR ⟨by omega,λu hu=>U u oM⟩).symm
theorem zNO{vF:Value}{F:(List (List (List Int)))}(rF:(rpS tII).Is h0 vF F):
 Calls prog 190 #[vF] w0 (Ret w0 h0 (λ_ r=>r=vB (vaP F))):=by
 refine cb1 19 vF func190 hs ?_;refine rN ?_;refine cnd (λZ=>?_) λZ=>?_
 ·
  refine go7 ?_;refine zD I I ?_;exact(yV (λe=>by have:=e.1;omega)).symm
 refine go9 ?_;refine gcL (ι:=Nat×Mem) (λ(f,U)=>(MLe h0 U/\(f<=F.length/\∀u,u<f->vfP (F.getD u [])),[(0,vF),(3,vI ↑f)],[],U,F.length-f)) (0,h0) ?_ ?_
 · exact⟨mle,by omega,λu h=>by omega⟩
 rintro⟨f,U⟩ ⟨aa,ae,D⟩
 refine yQ ?_;refine gc9 (λG=>?_) λG=>?_
 ·
  refine go8 ?_;refine lX (xI [] f underlying175 cD rF) λac O=>(lX (xA cD O) λab M=>(cL (ev1 I) call186 (λw hs=>eH hs M) λH h1 ad J=>?_));obtain rfl:H=vB (vfP (F.getD f [])):=J;refine gc3 (λC=>?_) λC=>?_
  ·
   refine qG ?_;refine zD I I ?_;exact(yV (λe=>C (e.2 f oM))).symm
  refine go8 ?_;refine gqL ((f+1),h1) ?_ ?_
  · exact⟨mle,by omega,qA (Q:=λu=>vfP (F.getD u [])) D (zdi C)⟩
  omega
 refine qG ?_;refine zD I I ?_;exact(xR ⟨by omega,λu hu=>D u oM⟩).symm
theorem zEE{vF:Value}{F:(List (List (List Int)))}(rF:(rpS tII).Is h0 vF F)(hcd0:F.length<=1000)(hcd1:∀f,f<F.length->(F.getD f []).length<=16/\∀l,l<(F.getD f []).length->((F.getD f []).getD l []).length<=64):
 Calls prog 174 #[vF] w0 (Ret w0 h0 (λh r=>(rpS tE5).Is h r (edZ F))):=by
 refine cb1 56 vF func174 hs ?_;refine oO ?_;refine xC 193 5 ?_;have ae:=RL.nil (ρ:=rpP rpI (rpP rpI (rpP rpI (rpP rpI rpI)))) (h:=h0);refine gcL (ι:=Nat×List (Int×Int×Int×Int×Int)×Value×List Value×Mem) (λ(f,D0,H,M,ma)=>(MLe h0 ma/\(RL tE5 ma M D0/\f<=F.length/\D0=edF F f),[(0,vF),(3,H),(4,vI ↑f)],[.gs 193 5 H D0.length M],ma,F.length-f)) (0,[],(.slice none 0 0),[],h0) ?_ ?_
 · exact⟨mle,ae,by omega,I⟩
 rintro⟨f,D0,H,M,ma⟩ ⟨bi,Z,cj,ao⟩
 refine yQ ?_;refine gc9 (λam=>?_) λam=>?_
 ·
  refine uQ ?_;refine gcL (ι:=Nat×List (Int×Int×Int×Int×Int)×Value×List Value×Mem) (λ(l,D1,C,D,mb)=>(MLe ma mb/\(RL tE5 mb D D1/\l<=(F.getD f []).length/\D1=edF F f++edL (F.getD f []) f l),[(0,vF),(3,C),(4,vI ↑f),(5,vI ↑l)],[.gs 193 5 C D1.length D],mb,(F.getD f []).length-l)) (0,D0,H,M,ma) ?_ ?_
  · exact⟨mle,Z,by omega,by rw[ao];exact(zli _).symm⟩
  rintro⟨l,D1,C,D,mb⟩ ⟨bh,U,ch,an⟩
  refine yQ ?_;refine go6 ?_;refine lX (xI [] f underlying175 cD rF) λbw bc=>(lX (xA cD bc) λbv bx=>(gc4 (λak=>?_) λak=>?_))
  ·
   refine go8 ?_;refine lX (xI [] f underlying175 cD rF) λbu bb=>(lX (xA cD bb) λbt ba=>(go1 ?_));refine lX (xI [] l underlying81 fE ba) λbs az=>(lX (xA fE az) λar ac=>(go9 ?_));refine gcL (ι:=Nat×List (Int×Int×Int×Int×Int)×Value×List Value×Mem) (λ(i,D2,G,J,mc)=>(MLe mb mc/\(RL tE5 mc J D2/\i<=((F.getD f []).getD l []).length/\D2=edF F f++edL (F.getD f []) f l++edX ((F.getD f []).getD l []) f l i),[(0,vF),(3,G),(4,vI ↑f),(5,vI ↑l),(6,ar),(7,vI ↑i)],[.gs 193 5 G D2.length J],mc,((F.getD f []).getD l []).length-i)) (0,D1,C,D,mb) ?_ ?_
   · exact⟨mle,U,by omega,by rw[an];exact(zli _).symm⟩
   rintro⟨i,D2,G,J,mc⟩ ⟨bg,O,ci,ad⟩
   refine yQ ?_;have cg:=zAX hcd1 f oM;have cf:=(hcd1 f oM).1;have ce:=zFE (hcd1 f oM).2 f l oM;have cd:=(hcd1 f oM).2 l oM;have cc:=zLS ((F.getD f []).getD l []) f l i;have cb:D2.length<=1100000:=by rw[ad,lAz,lAz];omega
   refine gc9 (λaj=>?_) λaj=>?_
   ·
    refine go4 ?_;refine jD (A:=[]) 20 [] (zai 0 17 [(17,.c),(18,.c),(19,.q)]) yC nX (wV zot) nX (go3 ?_);refine wX I (xI (0:Int) i underlying32 ty3 ac) λbr ay=>(wX I (xA ty3 ay) λbq ax=>?_);obtain⟨rfl,bk,bf⟩:=kF ax;refine go4 ?_;refine w_q I (λh' L' hh hR=>uX underlying32 I (ac.up.mono hh)) I (wK I (λ_ _=>wO I I oM oM) I (wX I (xI (0:Int) ((i+1)%((F.getD f []).getD l []).length) underlying32 ty3 ac (hi:=by exact zcu _ oM)) λbp aw=>(wX I (xA ty3 aw) λbo av=>?_)));obtain⟨rfl,bj,be⟩:=kF av;refine go3 ?_;refine wX I (xV (ρ:=tE5) (xK (ps':=[(0,_),(1,_),(2,_),(3,_),(4,_)]) underlying193 zDE I I (zRH underlying193) e10 I (yF wN (yF wN (yF wN (yF wN wN)))) (zC I (y2i (y1u _)) (wA oM oM) (zC I (y2u (y2i (y1u _))) (wA oM oM) (zC I (y2u (y2u (y2i (y1u _)))) (wA oM oM) (zC I (y2u (y2u (y2u (y2i (y1u _))))) (wA oM oM) (zC I (y2u (y2u (y2u (y2u (y1u _))))) (wA oM oM) zN))))))) λbn au=>?_;refine w_c I (qX (λX=>zL (ρ:=tE5) (m:=1) (xs:=[((((F.getD f []).getD l []).getD i (0:Int)),((((F.getD f []).getD l []).getD ((i+1)%((F.getD f []).getD l []).length) (0:Int)),((↑f:Int),((↑l:Int),(↑i:Int)))))]) (ps':=[(0,_)]) underlying190 zDE I I I (yF wN (yF wN (yF wN (yF wN wN)))) e2z (zC I (y1e (y1u _) e50 0 dC) au zN) zoi nP) I ?_)
    rintro bm ca ⟨bl,rfl,ai⟩
    refine w_c I (xJ (A:=[]) (ρ:=tE5) ai dK ?_);intro h1 bd ab;refine gR (A:=[]) (λX=>yA (ρ:=tE5) (bytes:=40) underlying190 zDE I I I I nP I I O.up ab bO bO) I (xU zox) ?_
    rintro aq bz ⟨ap,rfl,ah⟩
    refine go9 ?_;refine gqL ((i+1),(D2++[((((F.getD f []).getD l []).getD i (0:Int)),((((F.getD f []).getD l []).getD ((i+1)%((F.getD f []).getD l []).length) (0:Int)),((↑f:Int),((↑l:Int),(↑i:Int)))))]),aq,ap,h1) ?_ ?_
    · exact⟨mle,ah,by omega,by rw[ad,zii];rfl⟩
    omega
   have ei:i=((F.getD f []).getD l []).length:=by omega
   refine qG ?_;refine gqL ((l+1),D2,G,J,mc) ?_ ?_
   · exact⟨mle,O.up,by omega,by rw[ad,ei,zii];rfl⟩
   omega
  have el:l=(F.getD f []).length:=by omega
  refine qG ?_;refine gqL ((f+1),D1,C,D,mb) ?_ ?_
  · exact⟨mle,U,by omega,by rw[an,el];rfl⟩
  omega
 have ef:f=F.length:=by omega
 refine uV ?_;refine xP (A:=[]) (ρ:=tE5) Z ?_;intro h1 bd aa;refine zD I I ?_;exact(Rp.Is.cast aa (by rw[ao,ef];rfl))
theorem zED{vE:Value}{E:(List (Int×(Int×(Int×(Int×Int)))))}(rE:(rpS tE5).Is h0 vE E){a:Int}(ha1:-9223372036854775808<=a)(ha2:a<9223372036854775808){b:Int}(hb1:-9223372036854775808<=b)(hb2:b<9223372036854775808)(hcd0:E.length<=1000000):
 Calls prog 191 #[vE,vI a,vI b] w0 (Ret w0 h0 (λ_ r=>r=vI (tmZ E a b))):=by
 refine cb3 34 vE (vI a) (vI b) func191 hs ?_;refine oO ?_;refine gcL (ι:=Nat×Mem) (λ(m,D)=>(MLe h0 D/\(m<=E.length),[(0,vE),(1,vI a),(2,vI b),(7,vI (j6 E a b m)),(8,vI ↑m)],[],D,E.length-m)) (0,h0) ?_ ?_
 · exact⟨mle,oM⟩
 rintro⟨m,D⟩ ⟨ae,G⟩
 refine yQ ?_;have ar:=G;have aq:=j5 E a b m;refine gc9 (λJ=>?_) λJ=>?_
 ·
  refine go8 ?_;refine lX (xI e50 m underlying190 dB rE) λap ab=>(lX (xF underlying193 sizeOf3 (y2i pH) ab) λao aa=>(lX (xA ty3 aa) λan Z=>?_));obtain⟨rfl,ai,ad⟩:=kF Z;refine go2 ?_;refine gU 9 30 (vB ((((E.getD m e50).1)=a)/\((((E.getD m e50).2).1)=b))) ?_ ?_
  ·
   refine yD (((E.getD m e50).1)=a) (λH=>?_) (λH=>?_)
   ·
    refine gT H I (go5 ?_);refine lX (xI e50 m underlying190 dB rE) λam U=>(go1 ?_);refine lX (xF underlying193 sizeOf3 (y2u (y2i pH)) U) λak O=>(go1 ?_);refine lX (xA ty3 O) λaj M=>?_;obtain⟨rfl,ah,ac⟩:=kF M;refine go6 ?_;refine gqU ?_;exact y0e (xS H)
   refine gF H I (go9 ?_);refine gqU ?_;exact y0e (xT H)
  refine gc2 (λC=>?_) λC=>?_
  ·
   refine uV ?_;refine gqL ((m+1),D) ?_ ?_ (he:=⟨I,I,I,zbi (λz=>some (vI z)) (tm_t C),I,y1i⟩)
   · exact⟨mle,oM⟩
   omega
  refine go8 ?_;refine gqL ((m+1),D) ?_ ?_ (he:=⟨I,I,I,zbi (λz=>some (vI z)) (tm_f C),I,y1i⟩)
  · exact⟨mle,oM⟩
  omega
 refine uV ?_;refine zD I I ?_;have em:m=E.length:=by omega
 subst em
 rfl
theorem zKO{vF:Value}{F:(List (List (List Int)))}(rF:(rpS tII).Is h0 vF F):
 Calls prog 158 #[vF] w0 (Ret w0 h0 (λh r=>(rpS tE5).Is h r (clZ F))):=by
 refine cb1 64 vF func158 hs ?_;refine go9 ?_;refine cL (ev1 I) call190 (λw hs=>zNO hs rF) λv7 h1 dw r7=>?_;obtain rfl:v7=vB (vaP F):=r7;refine gc3 (λac=>?_) λac=>?_
 ·
  refine go2 ?_;refine lX (xV (ρ:=tE5) (xK (ps':=[(0,_),(1,_),(2,_),(3,_),(4,_)]) underlying200 jG I I (zBK underlying200) e10 I (yF wN (yF wN (yF wN (yF wN wN)))) (zC I (y2i (y1u _)) (wA dC dC) (zC I (y2u (y2i (y1u _))) (wA dC dC) (zC I (y2u (y2u (y2i (y1u _)))) (wA dC dC) (zC I (y2u (y2u (y2u (y2i (y1u _))))) (wA dC dC) (zC I (y2u (y2u (y2u (y2u (y1u _))))) (wA dC dC) zN))))))) λv9 r9=>(zF (zL (ρ:=tE5) (m:=1) (xs:=[((1:Int),((-1:Int),((-1:Int),((-1:Int),(-1:Int)))))]) (ps':=[(0,_)]) underlying137 jG I I I (yF wN (yF wN (yF wN (yF wN wN)))) e2z (zC I (y1e (y1u _) e50 0 dC) r9 zN) zoi nP) I I I ?_)
  rintro dn dr ⟨cl,rfl,ai⟩
  refine go5 ?_;refine xP (A:=[]) (ρ:=tE5) ai ?_;intro h2 bt aa;refine zD I I ?_;exact(Rp.Is.cast aa (by exact(zae ac).symm))
 refine uQ ?_;have O:vaP F:=zdi ac;have ad:∀f,f<F.length->(F.getD f []).length<=16/\∀l,l<(F.getD f []).length->((F.getD f []).getD l []).length<=64:=λf hf=>⟨(O.2 f hf).1.2,λl hl=>((O.2 f hf).2 l hl).1.2⟩;have dz:F.length<=256:=O.1;have dy:=zAX ad F.length (zbe _);have dx:(edZ F).length<=262144:=by show(edF F F.length).length<=_;omega
 refine cL (ev1 I) call174 (λw hs=>zEE hs rF.up (by first|omega|exact ad) (by first|omega|exact ad)) λap h2 bt G=>(uQ ?_);refine xC 200 5 ?_;have ab:=RL.nil (ρ:=rpP rpI (rpP rpI (rpP rpI (rpP rpI rpI)))) (h:=h2);refine gcL (ι:=Nat×List (Int×Int×Int×Int×Int)×Value×List Value×Mem) (λ(i,D,C,H,ma)=>(MLe h2 ma/\(RL tE5 ma H D/\i<=(edZ F).length/\D=yEU (edZ F) i),[(3,C),(4,ap),(5,vI ↑i)],[.gs 200 5 C D.length H],ma,(edZ F).length-i)) (0,[],(.slice none 0 0),[],h2) ?_ ?_
 · exact⟨mle,ab,by omega,I⟩
 rintro⟨i,D,C,H,ma⟩ ⟨cc,J,dt,hD⟩
 refine yQ ?_;have ea:D.length<=i:=by rw[hD];exact rQ _ _ i
 refine gc9 (λaj=>?_) λaj=>?_
 ·
  refine go5 ?_;refine zK 25 _ [] (zai 0 11 (zai 12 11 [(11,.c),(23,.c),(24,.q)])) yC nX (wV zot) nX (λr hr=>hr) (go3 ?_);refine wX I (xI e50 i underlying190 dB G) λdm bp=>(wX I (xF underlying193 sizeOf3 (y2i pH) bp) λdl bo=>(wX I (xA ty3 bo) λdk bn=>?_));obtain⟨rfl,cj,cb⟩:=kF bn;refine go2 ?_;refine wX I (xI e50 i underlying190 dB G) λdj bm=>(wX I (xF underlying193 sizeOf3 (y2u (y2i pH)) bm) λdi bl=>(wX I (xA ty3 bl) λdh bk=>?_));obtain⟨rfl,ci,ca⟩:=kF bk;refine go3 ?_;refine wX I (xI e50 i underlying190 dB G) λdf bi=>(wX I (xF underlying193 sizeOf3 (y2u (y2i pH)) bi) λde bh=>(wX I (xA ty3 bh) λdd bg=>?_));obtain⟨rfl,ch,bz⟩:=kF bg;refine go2 ?_;refine wX I (xI e50 i underlying190 dB G) λdc bf=>(wX I (xF underlying193 sizeOf3 (y2i pH) bf) λdb be=>(wX I (xA ty3 be) λda bd=>?_));obtain⟨rfl,cg,bx⟩:=kF bd;refine w_c I (sC (ev3 I I I) call191 (λw hs=>zED hs G.up oM oM oM oM oM) λao h3 bs bj=>?_);obtain rfl:ao=vI (tmZ (edZ F) (((edZ F).getD i e50).1) ((((edZ F).getD i e50).2).1)):=bj;have br:=j5 (edZ F) (((edZ F).getD i e50).1) ((((edZ F).getD i e50).2).1) (edZ F).length;refine w_c I (sC (ev3 I I I) call191 (λw hs=>zED hs G.up oM oM oM oM oM) λan h4 dv bc=>?_);obtain rfl:an=vI (tmZ (edZ F) ((((edZ F).getD i e50).2).1) (((edZ F).getD i e50).1)):=bc;have bq:=j5 (edZ F) ((((edZ F).getD i e50).2).1) (((edZ F).getD i e50).1) (edZ F).length;refine gc3 (λM=>?_) λM=>?_
  ·
   refine jD (A:=[]) 20 [] (zai 0 17 [(17,.c),(18,.c),(19,.q)]) yC nX (wV zot) nX (go3 ?_);refine wX I (xI e50 i underlying190 dB G) λcz bb=>(wX I (xF underlying193 sizeOf3 (y2u (y2u (y2i pH))) bb) λcy ba=>(wX I (xA ty3 ba) λcw az=>?_));obtain⟨rfl,cf,bw⟩:=kF az;refine go2 ?_;refine wX I (xI e50 i underlying190 dB G) λcv ay=>(wX I (xF underlying193 sizeOf3 (y2u (y2u (y2u (y2i pH)))) ay) λcu ax=>(wX I (xA ty3 ax) λct aw=>?_));obtain⟨rfl,ce,bv⟩:=kF aw;refine go2 ?_;refine wX I (xI e50 i underlying190 dB G) λcq av=>(wX I (xF underlying193 sizeOf3 (y2u (y2u (y2u (y2u pH)))) av) λcp au=>(wX I (xA ty3 au) λco ar=>?_));obtain⟨rfl,cd,bu⟩:=kF ar;refine wX I (xV (ρ:=tE5) (xK (ps':=[(0,_),(1,_),(2,_),(3,_),(4,_)]) underlying200 jG I I (zBK underlying200) e10 I (yF wN (yF wN (yF wN (yF wN wN)))) (zC I (y2i (y1u _)) (wA dC dC) (zC I (y2u (y2i (y1u _))) (wA dC dC) (zC I (y2u (y2u (y2i (y1u _)))) (wA oM oM) (zC I (y2u (y2u (y2u (y2i (y1u _))))) (wA oM oM) (zC I (y2u (y2u (y2u (y2u (y1u _))))) (wA oM oM) zN))))))) λcn aq=>?_;refine w_c I (qX (λX=>zL (ρ:=tE5) (m:=1) (xs:=[((30:Int),((-1:Int),((((((edZ F).getD i e50).2).2).1),(((((((edZ F).getD i e50).2).2).2).1),((((((edZ F).getD i e50).2).2).2).2)))))]) (ps':=[(0,_)]) underlying137 jG I I I (yF wN (yF wN (yF wN (yF wN wN)))) e2z (zC I (y1e (y1u _) e50 0 dC) aq zN) zoi nP) I ?_)
   rintro cm dq ⟨ck,rfl,ah⟩
   refine w_c I (xJ (A:=[]) (ρ:=tE5) ah dK ?_);intro h5 du Z;refine gR (A:=[]) (λX=>yA (ρ:=tE5) (bytes:=40) underlying137 jG I I I I nP I I J.up Z bO bO) I (xU zox) ?_
   rintro am dp ⟨ak,rfl,ae⟩
   refine go9 ?_;refine gqL ((i+1),(D++[((30:Int),((-1:Int),((((((edZ F).getD i e50).2).2).1),(((((((edZ F).getD i e50).2).2).2).1),((((((edZ F).getD i e50).2).2).2).2)))))]),am,ak,h5) ?_ ?_
   · exact⟨mle,ae,by omega,by rw[hD];exact s1 M⟩
   omega
  refine go8 ?_;refine gqL ((i+1),D,C,H,h4) ?_ ?_
  · exact⟨mle,J.up,by omega,by rw[hD];exact s2 M⟩
  omega
 refine uV ?_;refine xP (A:=[]) (ρ:=tE5) J.up ?_;intro h3 bs U;refine zD I I ?_;exact(Rp.Is.cast U (by rw[hD,show i=(edZ F).length by omega];exact(zau O).symm))
end
end Go.Proofs.YtboaboflnckgoaaGreat
namespace Bk
open Classical
def rD(a b:Pt):Pt:=T3.mk (a.x+b.x) (a.y+b.y) (a.z+b.z)
def moved(l l':List Pt)(v:Pt):Prop:=l'.length=l.length/\∀q,q<l.length->gp l' q=rD (gp l q) v
def hgt(pl:Pl)(p:Pt):Rat:=vZ pl.1 p-pl.2
def sdZ(pl:Pl)(p:Pt):Int:=yW (hgt pl p)
theorem zJ2(pl:Pl)(p:Pt):-1<=sdZ pl p/\sdZ pl p<=1:=wB _
abbrev nx(l:List Pt)(m:Nat):Pt:=gp l ((m+1)%l.length)
section
variable {pl:Pl}{l B:List Pt}{m:Nat}
end
def pK(l:List Pt):Prop:=bG l 0 1->¬uG l 0 1 l.length=0
theorem zB1{l:List Pt}(h:¬uG l 0 1 l.length=0):pK l:=λ_=>h
abbrev PI:=Int×Int
def crI(u v w:PI):Int:=(v.1-u.1)*(w.2-u.2)-(v.2-u.2)*(w.1-u.1)
def sgI(n:Int):Int:=if 0<n then 1 else if n<0 then -1 else 0
def orI(u v w:PI):Int:=sgI (crI u v w)
def lxI(u v:PI):Bool:=decide (u.1<v.1\/(u.1=v.1/\u.2<v.2))
def apI(a b c d:Int):Bool:=decide ((a<c/\a<d/\b<c/\b<d)\/(c<a/\d<a/\c<b/\d<b))
def alS(a b c d:PI):Int:=
 if lxI (if lxI d b then d else b) (if lxI a c then c else a) then 0 else if lxI (if lxI a c then c else a) (if lxI d b then d else b) then 3
 else if((if lxI a c then c else a)=a\/(if lxI a c then c else a)=b)/\((if lxI a c then c else a)=c\/(if lxI a c then c else a)=d) then 1 else 2
def alI(a b c d:PI):Int:=alS (if lxI b a then b else a) (if lxI b a then a else b) (if lxI d c then d else c) (if lxI d c then c else d)
def toI(a b c d:PI):Int:=
 if apI a.1 b.1 c.1 d.1\/apI a.2 b.2 c.2 d.2 then 0
 else if orI a b c=0/\orI a b d=0/\orI c d a=0/\orI c d b=0 then alI a b c d
 else if 0<orI a b c*orI a b d\/0<orI c d a*orI c d b then 0
 else if(orI a b c=0\/orI a b d=0)/\(orI c d a=0\/orI c d b=0) then 1 else 2
def af(x y r:Int)(u:PI):P2:=(((x+r*u.1:Int):Rat),((y+r*u.2:Int):Rat))
def waI(n p q:Nat):Int:=if q=p+1\/(p=0/\q+1=n) then 1 else 0
theorem zWR{a b:List Pt}{p q:Nat}:2<=mA (kQ a 0 1 p) (kP a 0 1 p) (kQ b 0 1 q) (kP b 0 1 q)↔dR a b 0 1 p q:=by
 unfold dR;rw[zJP];omega
theorem zSJ{a b:List Pt}{p q:Nat}(h:dR a b 0 1 p q):dR b a 0 1 q p:=by
 unfold dR at *;rw[zDO];exact h
theorem mW{a b:List Pt}(h:gA a b 0 1):gA b a 0 1:=by
 obtain⟨p,q,D,C,h⟩:=h;exact⟨q,p,C,D,zSJ h⟩
theorem yAO(a b:Pt):pr (T3.mk (zBS a.x b.x) (zBS a.y b.y) (0:Rat)) 0 1=zN6 (pr a 0 1) (pr b 0 1):=rfl
theorem zWE{l:List Pt}(hf:pK l)(hs:bG l 0 1):¬yW (arZ l 0 1)=0:=λe=>hf hs (uT.1 e)
theorem zZT{L:List (List Pt)}(h:∀x,x∈L->pK x)(m:Nat):pK (gl L m):=by
 show pK (L.getD m [])
 rw[zoa]
 rcases ztu m L.length with h1|h1
 · rw[zoc h1]
   exact h _ (yfu h1)
 · rw[zsi h1]
   exactλe=>absurd e.1 zov
theorem yC9{L:List (List Pt)}{m:Nat}(h:yW (uG (gl L m) 0 1 (gl L m).length)<0):tD L 0 1 m L.length=pZ L 0 1 m:=by
 have h1:yW (arZ (gl L m) 0 1)<0:=h;unfold pZ;rw[zae zos]
theorem zUG{L:List (List Pt)}{m:Nat}(hf:∀x,x∈L->pK x)(hs:bG (gl L m) 0 1)(h:¬yW (uG (gl L m) 0 1 (gl L m).length)<0):0<yW (arZ (gl L m) 0 1):=by
 have h1:¬yW (arZ (gl L m) 0 1)<0:=h;have h2:=zWE (zZT hf m) hs;omega
theorem yC8{L:List (List Pt)}{m:Nat}(hf:∀x,x∈L->pK x)(hs:bG (gl L m) 0 1)(h:¬yW (uG (gl L m) 0 1 (gl L m).length)<0):-1=pZ L 0 1 m:=by
 unfold pZ;rw[zau (zUG hf hs h)]
theorem zHH{O:List Int}{m:Nat}{f:Nat->Int}{p:Int}(hl:O.length=m)(h:∀q,q<m->O.getD q 0=f q)(hp:p=f m):(O++[p]).length=m+1/\∀q,q<m+1->(O++[p]).getD q 0=f q:=by
 refine⟨by rw[lAz,hl];rfl,λq C=>?_⟩;rw[zoa]
 by_cases e:q=m
 · subst e
   rw[ymi zos,hl,ysu];exact hp
 · rw[List.getElem?_append_left zos,<-zoa]
   exact h q zos
theorem yDG{L:List (List Pt)}{a:Nat}(h:0<yW (arZ (gl L a) 0 1)):¬oG L 0 1 a/\∀b,b<L.length->¬zBE L 0 1 a b:=by
 refine⟨λe=>e.1 h,λb _ e=>?_⟩;have h1:=e.1.1.2;have h2:pZ L 0 1 a= -1:=by unfold pZ;rw[zau h]
 omega
theorem yEI{L:List (List Pt)}{m:Nat}(hf:∀x,x∈L->pK x)(hs:bG (gl L m) 0 1)(h:0<=yW (uG (gl L m) 0 1 (gl L m).length)):0<yW (arZ (gl L m) 0 1):=zUG hf hs zos
theorem zP4{L:List (List Pt)}{a:Nat}{o:Int}(h:¬0<=yW (uG (gl L a) 0 1 (gl L a).length))(ho:o=pZ L 0 1 a)(h1:o<0):oG L 0 1 a:=by
 have h2:yW (arZ (gl L a) 0 1)<0:=yui.1 h;refine⟨by omega,?_⟩;rw[ho] at h1;unfold pZ at h1;rw[zae zos] at h1;exact h1
theorem zAI{L:List (List Pt)}{a:Nat}{o:Int}(ho:o=pZ L 0 1 a)(h1:¬o<0):¬oG L 0 1 a:=λe=>by
 rw[ho] at h1;unfold pZ at h1;rw[zae e.1] at h1;exact h1 e.2
abbrev Fc:=(Pt×Rat)×List (List Int)×List Nat
abbrev En:=Int×Int×Rat
abbrev Sd:=List Pt×List Fc×List En
abbrev zRI:Pt×Rat:=(zT,(0:Rat))
abbrev zA:Fc:=(zRI,([]:List (List Int)),([]:List Nat))
def nmL(n:Nat)(x:List Int):Prop:=∀k,k<x.length->0<=(x.getD k 0)/\(x.getD k 0)<n
def nmP(s:Sd)(f:Nat):Prop:=∀l,l<((s.2.1.getD f zA).2.1).length->nmL s.1.length ((((s.2.1.getD f zA).2.1).getD l []))
def vT(s:Sd):List (List (List Int)):=uD (λf=>(s.2.1.getD f zA).2.1) s.2.1.length
theorem tW(s:Sd):(vT s).length=s.2.1.length:=xH _ _
theorem nM{s:Sd}{f:Nat}(h:f<s.2.1.length):((vT s).getD f [])=(s.2.1.getD f zA).2.1:=kA _ _ h
def zFV(ps:List Pt)(x:List Int):Nat->List Pt:=uD λk=>gp ps ((x.getD k 0)).toNat
def zJC(s:Sd)(f:Nat):Nat->List (List Pt):=uD λl=>zFV s.1 ((((s.2.1.getD f zA).2.1).getD l [])) ((((s.2.1.getD f zA).2.1).getD l [])).length
def gB(s:Sd)(f:Int):List (List Pt):=if(0<=f/\f<s.2.1.length)/\nmP s f.toNat then zJC s f.toNat ((s.2.1.getD f.toNat zA).2.1).length else[]
theorem zZ0{s:Sd}{f:Int}(h:∀f,f<s.2.1.length->(s.2.1.getD f zA).2.1.length<=10000/\∀l,l<(s.2.1.getD f zA).2.1.length->((s.2.1.getD f zA).2.1.getD l []).length<=10000):(gB s f).length<=10000/\∀l,((gB s f).getD l []).length<=10000:=by
 unfold gB
 split
 · rename_i hf
   have h1:=h f.toNat zos;have h2:(zJC s f.toNat (s.2.1.getD f.toNat zA).2.1.length).length=(s.2.1.getD f.toNat zA).2.1.length:=xH _ _;refine⟨by omega,λl=>?_⟩
   rcases ztu l (s.2.1.getD f.toNat zA).2.1.length with h3|h3
   · unfold zJC
     rw[kA _ _ h3];unfold zFV;rw[xH];exact h1.2 l h3
   · rw[zoa,zsi zos];exact zqe _
 · exact⟨zqe _,λl=>zqe _⟩
def flA(pl:Pl)(l:List Pt):Nat->List Pt:=uD λi=>gY pl (gp l i)
def flL(pl:Pl)(L:List (List Pt)):Nat->List (List Pt):=uD λi=>flA pl (gl L i) (gl L i).length
def tQ(s:Sd)(f:Nat):List (List Pt):=flL ((s.2.1.getD f zA)).1 (gB s f) (gB s f).length
def dg(kind face loop edge:Int):E5:=(kind,(-1:Int),face,loop,edge)
def szP(s:Sd)(f:Nat):Prop:=¬vfP ((s.2.1.getD f zA).2.1)\/¬nmP s f
def zOW(s:Sd):Prop:=(512<s.1.length\/256<s.2.1.length)\/1024<s.2.2.length
def yCB(s:Sd):Nat->List E5:=pG (szP s) λf=>dg 1 f (-1) (-1)
def szZ(s:Sd):List E5:=if zOW s then yCB s s.2.1.length++[dg 2 (-1) (-1) (-1)] else yCB s s.2.1.length
def twP(s:Sd)(i:Nat):Prop:=∃k,k<i/\gp s.1 i=gp s.1 k
def zQV(s:Sd):Nat->List E5:=pG (twP s) λi=>dg 37 (-1) (-1) i
def zrP(s:Sd)(f:Nat):Prop:=((s.2.1.getD f zA)).1.1=zT
def zSR(s:Sd):Nat->List E5:=pG (zrP s) λf=>dg 9 f (-1) (-1)
def ofP(s:Sd)(f l k:Nat):Prop:=¬sdZ ((s.2.1.getD f zA)).1 (gp (gl (gB s f) l) k)=0
def ofX(s:Sd)(f l:Nat):Nat->List E5:=pG (ofP s f l) λk=>dg 31 f l k
def ofL(s:Sd)(f:Nat):Nat->List E5:=jY λl=>ofX s f l (gl (gB s f) l).length
def zNJ(s:Sd):Nat->List E5:=jY λf=>ofL s f (gB s f).length
theorem nR{s:Sd}{f:Int}(h:∀f,f<s.2.1.length->(s.2.1.getD f zA).2.1.length<=16/\∀l,l<(s.2.1.getD f zA).2.1.length->((s.2.1.getD f zA).2.1.getD l []).length<=64):(gB s f).length<=16/\∀l,((gB s f).getD l []).length<=64:=by
 unfold gB
 split
 · rename_i hf
   have h1:=h f.toNat zos;have h2:(zJC s f.toNat (s.2.1.getD f.toNat zA).2.1.length).length=(s.2.1.getD f.toNat zA).2.1.length:=xH _ _;refine⟨by omega,λl=>?_⟩
   rcases ztu l (s.2.1.getD f.toNat zA).2.1.length with h3|h3
   · unfold zJC
     rw[kA _ _ h3];unfold zFV;rw[xH];exact h1.2 l h3
   · rw[zoa,zsi zos];exact zqe _
 · exact⟨zqe _,λl=>zqe _⟩
section
variable {s:Sd}(h:∀f,f<s.2.1.length->(s.2.1.getD f zA).2.1.length<=16/\∀l,l<(s.2.1.getD f zA).2.1.length->((s.2.1.getD f zA).2.1.getD l []).length<=64)
include h
theorem zEB(f:Nat):∀l,(ofL s f l).length<=64*l
  |0=>zbe _
  |l+1=>by
   have h1:=zEB f l;have h2:(ofX s f l ((gB s f).getD l []).length).length<=((gB s f).getD l []).length:=rQ _ _ _;have h3:=(nR (f:=↑f) h).2 l
   show List.length (ofL s f l++ofX s f l ((gB s f).getD l []).length)<=_
   rw[lAz];omega
theorem zUU:∀f,f<=s.2.1.length->(zNJ s f).length<=1024*f
  |0,_=>zbe _
  |f+1,hf=>by
   have h1:=zUU f zos;have h2:=zEB h f (gB s f).length;have h3:=(nR (f:=↑f) h).1
   show List.length (zNJ s f++ofL s f (gB s f).length)<=_
   rw[lAz];omega
end
def plZ(s:Sd):List E5:=if 0<(zSR s s.2.1.length).length then zSR s s.2.1.length else zNJ s s.2.1.length
def y6(L:List (List Pt)):Nat->Int
  |0=>0
  |m+1=>if 0<yW (arZ (gl L m) 0 1) then y6 L m+1 else y6 L m
theorem zAA(L:List (List Pt)):∀m,0<=y6 L m/\y6 L m<=m
  |0=>by unfold y6;omega
  |m+1=>by
   have h:=zAA L m;unfold y6
   split<;>omega
theorem ou_t{L:List (List Pt)}{m:Nat}(h:0<yW (arZ (gl L m) 0 1)):y6 L m+1=y6 L (m+1):=(zau h).symm
theorem ou_f{L:List (List Pt)}{m:Nat}(h:¬0<yW (arZ (gl L m) 0 1)):y6 L m=y6 L (m+1):=(zae h).symm
def ouZ(L:List (List Pt)):Int:=y6 L L.length
def bnP(s:Sd)(f:Nat):Prop:=¬vS (tQ s f) 0 1=0
def zW3(s:Sd):Nat->List E5:=pG (bnP s) λf=>dg (vS (tQ s f) 0 1) f (-1) (-1)
def mnP(s:Sd)(f:Nat):Prop:=¬ouZ (tQ s f)=1
def yDJ(s:Sd):Nat->List E5:=pG (mnP s) λf=>dg 33 f (-1) (-1)
def neZ(s:Sd):List E5:=if 0<(zW3 s s.2.1.length).length then zW3 s s.2.1.length else yDJ s s.2.1.length
theorem zK4(L:List (List Pt))(i j:Nat):0<=vS L i j/\vS L i j<=33:=by
 unfold vS
 repeat' split
 all_goals decide
theorem zDG(s:Sd)(f:Nat):(tQ s f).length=(gB s ↑f).length/\∀l,((tQ s f).getD l []).length=((gB s ↑f).getD l []).length:=by
 have h1:(tQ s f).length=(gB s ↑f).length:=xH _ _;refine⟨h1,λl=>?_⟩
 rcases ztu l (gB s ↑f).length with h|h
 · unfold tQ flL
   rw[kA _ _ h];exact xH _ _
 · rw[zoa,zoa,zsi zos,zsi h]
def okS(s:Sd):Prop:=((s.1.length<=1000/\s.2.1.length<=1000)/\s.2.2.length<=2000)/\(∀f,f<s.2.1.length->(s.2.1.getD f zA).2.1.length<=16/\∀l,l<(s.2.1.getD f zA).2.1.length->((s.2.1.getD f zA).2.1.getD l []).length<=64)/\∀f,f<s.2.1.length->∀x,x∈tQ s f->pK x
theorem okS.big{s:Sd}(h:okS s):∀f,f<s.2.1.length->(s.2.1.getD f zA).2.1.length<=10000/\∀l,l<(s.2.1.getD f zA).2.1.length->((s.2.1.getD f zA).2.1.getD l []).length<=10000:=λf hf=>⟨zci (h.2.1 f hf).1 zov,λl hl=>zci ((h.2.1 f hf).2 l hl) zov⟩
theorem okS.mem{s:Sd}(h:okS s):∀f,f<s.2.1.length->(s.2.1.getD f zA).2.1.length<=100000/\∀x,x∈(s.2.1.getD f zA).2.1->x.length<=100000:=λf hf=>⟨zci (h.2.1 f hf).1 zov,λx hx=>by
 obtain⟨m,hm,e⟩:=ygu hx;have:=(h.2.1 f hf).2 m hm;rw[zoa,zoc hm] at this;rw[<-e];exact zci this zov⟩
def zZ3(s:Sd):List E5:=if 0<(szZ s).length then szZ s else if 0<(zQV s s.1.length).length then zQV s s.1.length else if 0<(plZ s).length then plZ s else if 0<(neZ s).length then neZ s else clZ (vT s)
def oU(s:Sd):Prop:=(zZ3 s).length=0
def lsP(p q:Pt):Prop:=p.x<q.x\/(p.x=q.x/\(p.y<q.y\/(p.y=q.y/\p.z<q.z)))
def rZ:List Int->List Int->Int
  |[],[]=>0
  |[],_::_=>-1
  |_::_,[]=>1
  |x::a,y::b=>if x=y then rZ a b else if x<y then -1 else 1
theorem zQK{i:Nat}:∀{a b:List Int},(∀u,u<i->(a.getD u 0)=(b.getD u 0))->i<a.length->i<b.length->¬(a.getD i 0)=(b.getD i 0)->rZ a b=if(a.getD i 0)<(b.getD i 0) then -1 else 1:=by
 induction i with
 |zero=>
  intro a b _ ha hb hne
  match a,b,ha,hb with
  |x::a,y::b,_,_=>exact zae hne
 |succ i ih=>
  intro a b h ha hb hne
  match a,b,ha,hb with
  |x::a,y::b,ha,hb=>
   have h0:x=y:=h 0 zos
   show(if x=y then rZ a b else _)=_
   rw[zau h0];exact ih (λu hu=>h (u+1) zos) (by simpa using ha) (by simpa using hb) hne
theorem zFH{i:Nat}:∀{a b:List Int},(∀u,u<i->(a.getD u 0)=(b.getD u 0))->i=min a.length b.length->rZ a b=if a.length<b.length then -1 else if b.length<a.length then 1 else 0:=by
 induction i with
 |zero=>
  intro a b _ he
  match a,b with
  |[],[]=>rfl
  |[],_::_=>rfl
  |_::_,[]=>rfl
  |_::_,_::_=>simp at he
 |succ i ih=>
  intro a b h he
  match a,b with
  |[],_=>simp at he
  |_::_,[]=>simp at he
  |x::a,y::b=>
   have h0:x=y:=h 0 zos
   show(if x=y then rZ a b else _)=_
   rw[zau h0,ih (λu hu=>h (u+1) zos) (by simp at he;omega)];simp only[lC,Nat.add_lt_add_iff_right]
theorem u6:∀a b:List Int,-1<=rZ a b/\rZ a b<=1
  |[],[]=>⟨by show(-1:Int)<=0;decide,by show(0:Int)<=1;decide⟩
  |[],_::_=>⟨by show(-1:Int)<= -1;decide,by show(-1:Int)<=1;decide⟩
  |_::_,[]=>⟨by show(-1:Int)<=1;decide,by show(1:Int)<=1;decide⟩
  |x::a,y::b=>by
   show -1<=(if x=y then rZ a b else if x<y then -1 else 1)/\(if x=y then rZ a b else if x<y then -1 else 1)<=1
   split
   · exact u6 a b
   · split<;>decide
def pJ(x:List Int):Nat->Nat
  |0=>0
  |m+1=>if(x.getD m 0)<(x.getD (pJ x m) 0) then m else pJ x m
theorem yAN(x:List Int):∀m,pJ x m<m\/pJ x m=0
  |0=>.inr rfl
  |m+1=>by
   have h:=yAN x m;unfold pJ
   split<;>omega
theorem mn_t{x:List Int}{m:Nat}(h:(x.getD m 0)<(x.getD (pJ x m) 0)):m=pJ x (m+1):=(zau h).symm
theorem mn_f{x:List Int}{m:Nat}(h:¬(x.getD m 0)<(x.getD (pJ x m) 0)):pJ x m=pJ x (m+1):=(zae h).symm
def zRB(x:List Int):List Int:=x.drop (pJ x x.length)++x.take (pJ x x.length)
def zR5:List (List Int)->List (List Int)->Prop
  |[],[]=>False
  |[],_::_=>True
  |_::_,[]=>False
  |x::a,y::b=>if rZ x y=0 then zR5 a b else rZ x y<0
theorem zZA{i:Nat}:∀{a b:List (List Int)},(∀u,u<i->rZ ((a.getD u [])) ((b.getD u []))=0)->i<a.length->i<b.length->¬rZ ((a.getD i [])) ((b.getD i []))=0->(zR5 a b↔rZ ((a.getD i [])) ((b.getD i []))<0):=by
 induction i with
 |zero=>
  intro a b _ ha hb hne
  match a,b,ha,hb with
  |x::a,y::b,_,_=>exact Iff.of_eq (zae hne)
 |succ i ih=>
  intro a b h ha hb hne
  match a,b,ha,hb with
  |x::a,y::b,ha,hb=>
   have h0:rZ x y=0:=h 0 zos
   show(if rZ x y=0 then zR5 a b else _)↔_
   rw[zau h0];exact ih (λu hu=>h (u+1) zos) (by simpa using ha) (by simpa using hb) hne
theorem zVL{i:Nat}:∀{a b:List (List Int)},(∀u,u<i->rZ ((a.getD u [])) ((b.getD u []))=0)->i=min a.length b.length->(zR5 a b↔a.length<b.length):=by
 induction i with
 |zero=>
  intro a b _ he
  match a,b with
  |[],[]=>exact⟨False.elim,λh=>absurd h (Nat.lt_irrefl _)⟩
  |[],_::_=>exact⟨λ_=>Nat.zero_lt_succ _,λ_=>trivial⟩
  |_::_,[]=>exact⟨False.elim,λh=>absurd h (yte _)⟩
  |_::_,_::_=>simp at he
 |succ i ih=>
  intro a b h he
  match a,b with
  |[],_=>simp at he
  |_::_,[]=>simp at he
  |x::a,y::b=>
   have h0:rZ x y=0:=h 0 zos
   show(if rZ x y=0 then zR5 a b else _)↔_
   rw[zau h0,ih (λu hu=>h (u+1) zos) (by simp at he;omega)];simp only[lC,Nat.add_lt_add_iff_right]
def lsF(a b:Fc):Prop:=if a.2.2=b.2.2 then zR5 a.2.1 b.2.1 else lsN a.2.2 b.2.2
theorem ls_x{p q:Pt}(h:¬wQ p.x q.x=0):wQ p.x q.x<0↔lsP p q:=by
 unfold lsP;rw[bA];rw[bX] at h;exact⟨.inl,λe=>e.elim id λe=>absurd e.1 h⟩
theorem ls_y{p q:Pt}(h:wQ p.x q.x=0)(h2:¬wQ p.y q.y=0):wQ p.y q.y<0↔lsP p q:=by
 unfold lsP;rw[bA];rw[bX] at h h2;have:=@Rat.lt_irrefl p.x;exact⟨λe=>.inr ⟨h,.inl e⟩,λe=>e.elim (λe=>absurd (h▸e) this) λe=>e.2.elim id λe=>absurd e.1 h2⟩
theorem ls_z{p q:Pt}(h:wQ p.x q.x=0)(h2:wQ p.y q.y=0)(h3:¬wQ p.z q.z=0):wQ p.z q.z<0↔lsP p q:=by
 unfold lsP;rw[bA];rw[bX] at h h2;have D:=@Rat.lt_irrefl p.x;have C:=@Rat.lt_irrefl p.y;exact⟨λe=>.inr ⟨h,.inr ⟨h2,e⟩⟩,λe=>e.elim (λe=>absurd (h▸e) D) λe=>e.2.elim (λe=>absurd (h2▸e) C) λe=>e.2⟩
theorem yGC{p q:Pt}(h:wQ p.x q.x=0)(h2:wQ p.y q.y=0)(h3:wQ p.z q.z=0):¬lsP p q:=by
 rw[bX] at h h2 h3;have G:=@Rat.lt_irrefl p.x;have D:=@Rat.lt_irrefl p.y;have C:=@Rat.lt_irrefl p.z;exactλe=>e.elim (λe=>absurd (h▸e) G) λe=>e.2.elim (λe=>absurd (h2▸e) D) λe=>absurd (h3▸e.2) C
theorem yGE{p q:Pt}{i:Nat}(hi:i<3)(h:∀u,u<i->wQ (p.at u) (q.at u)=0)(hn:¬wQ (p.at i) (q.at i)=0):wQ (p.at i) (q.at i)<0↔lsP p q:=by
 match i,hi with
 |0,_=>exact ls_x hn
 |1,_=>exact ls_y (h 0 zov) hn
 |2,_=>exact ls_z (h 0 zov) (h 1 zov) hn
theorem yDT{p q:Pt}(h:∀u,u<3->wQ (p.at u) (q.at u)=0):¬lsP p q:=yGC (h 0 zov) (h 1 zov) (h 2 zov)
def ivA(x:Rat):Rat:=if eZ x=0 then 0 else((1:Int):Rat)/eZ x
def scW(r:Rat)(pl:Pl):Pl:=(T3.mk (r*pl.1.x) (r*pl.1.y) (r*pl.1.z),r*pl.2)
def scZ(pl:Pl):Pl:=if ¬yW pl.1.x=0 then scW (ivA pl.1.x) pl else if ¬yW pl.1.y=0 then scW (ivA pl.1.y) pl else if ¬yW pl.1.z=0 then scW (ivA pl.1.z) pl else zRI
theorem yFY{pl:Pl}{i:Nat}(hi:i<3)(h:∀u,u<i->yW (pl.1.at u)=0)(hn:¬yW (pl.1.at i)=0):scW (ivA (pl.1.at i)) pl=scZ pl:=by
 unfold scZ
 match i,hi with
 |0,_=>exact(zau hn).symm
 |1,_=>exact((zae (λe=>e (h 0 zov))).trans (zau hn)).symm
 |2,_=>exact((zae (λe=>e (h 0 zov))).trans ((zae (λe=>e (h 1 zov))).trans (zau hn))).symm
theorem yCW{pl:Pl}(h:∀u,u<3->yW (pl.1.at u)=0):zRI=scZ pl:=by
 unfold scZ;exact((zae (λe=>e (h 0 zov))).trans ((zae (λe=>e (h 1 zov))).trans (zae (λe=>e (h 2 zov))))).symm
def zJ3(x:List Int):Nat->List Int:=uD λi=>x.getD (x.length-1-i) 0
def zHR(E:List E5)(m i:Nat):Prop:=∃q,q<m/\(E.getD q ((0:Int),(0:Int),(0:Int),(0:Int),(0:Int))).1=(i:Int)
theorem zSW{E:List E5}{m n:Nat}{U:List Prop}(hl:U.length=n)(h:∀u,u<n->(U.getD u False↔zHR E m u))(h0:0<=(E.getD m ((0:Int),(0:Int),(0:Int),(0:Int),(0:Int))).1)(h1:(E.getD m ((0:Int),(0:Int),(0:Int),(0:Int),(0:Int))).1<n):∀u,u<n->((U.set (E.getD m ((0:Int),(0:Int),(0:Int),(0:Int),(0:Int))).1.toNat True).getD u False↔zHR E (m+1) u):=by
 intro u D;rw[zoa,ypu];have hx:zHR E (m+1) u↔zHR E m u\/(E.getD m ((0:Int),(0:Int),(0:Int),(0:Int),(0:Int))).1=(u:Int):=by
  constructor
  · rintro⟨q,C,e⟩
    rcases zpi.1 C with h|h
    · exact .inl ⟨q,h,e⟩
    · subst h;exact .inr e
  · rintro(⟨q,C,e⟩|e)
    · exact⟨q,by omega,e⟩
    · exact⟨m,by omega,e⟩
 rw[hx]
 split
 · rename_i e
   rw[zau zos];exact⟨λ_=>.inr zos,λ_=>trivial⟩
 · rename_i e
   have:=h u D;rw[zoa] at this;rw[this];exact⟨.inl,λh=>h.resolve_right zos⟩
def nmA(s:Sd):Prop:=∀f,f<s.2.1.length->nmP s f
theorem zSE{s:Sd}(h:nmA s){q:Nat}(hq:q<(edZ (vT s)).length):0<=((edZ (vT s)).getD q ((0:Int),(0:Int),(0:Int),(0:Int),(0:Int))).1/\((edZ (vT s)).getD q ((0:Int),(0:Int),(0:Int),(0:Int),(0:Int))).1<s.1.length:=by
 have C:=kO (d:=((0:Int),(0:Int),(0:Int),(0:Int),(0:Int))) hq;generalize (edZ (vT s)).getD q ((0:Int),(0:Int),(0:Int),(0:Int),(0:Int))=e at C ⊢;obtain⟨f,D,C⟩:=eV C;obtain⟨l,G,C⟩:=eV C;obtain⟨i,hi,rfl⟩:=zC9 C;rw[tW] at D;have H:(vT s).getD f []=(s.2.1.getD f zA).2.1:=kA _ _ D;rw[H] at G hi ⊢;exact h f D l G i hi
theorem zZX{s:Sd}(h:okS s):(edZ (vT s)).length<=1100000:=by
 have h1:=zAX (F:=vT s) (λf C=>by rw[tW] at C;rw[nM C];exact h.2.1 f C) _ (zbe _);rw[tW] at h1;have h2:=h.1.1.2
 show(edF (vT s) (vT s).length).length<=_
 rw[tW];omega
def zRM(s:Sd)(out:List Int)(i k:Nat):Prop:=lsP (gp s.1 i) (gp s.1 (out.getD k 0).toNat)
def bK(s:Sd):Nat->List Int
  |0=>[]
  |i+1=>if zHR (edZ (vT s)) (edZ (vT s)).length i then eS (bK s i) (bS (zRM s (bK s i) i) (bK s i).length) (i:Int) else bK s i
theorem zNG(s:Sd):∀i,(bK s i).length<=i
  |0=>zbe _
  |i+1=>by
   have:=zNG s i;unfold bK
   split
   · rw[zE3 _ _ (zDH _ _)];omega
   · omega
theorem zIG{s:Sd}{x:Int}:∀{i},x∈bK s i->0<=x/\x<i
  |0,h=>absurd h zgi
  |i+1,h=>by
   unfold bK at h
   split at h
   · unfold eS at h
     rcases zni.1 h with h|h
     · have:=zIG (zve h);omega
     · rcases zfi.1 h with rfl|h
       · omega
       · have:=zIG (z5i h);omega
   · have:=zIG h;omega
theorem mG{s:Sd}{i k:Nat}(h:k<(bK s i).length):0<=(bK s i).getD k 0/\(bK s i).getD k 0<i:=zIG (kO h)
def nwL(s:Sd)(ix:List Int)(f i:Nat):Nat->List Int:=uD λq=>ix.getD (((s.2.1.getD f zA).2.1.getD i []).getD q 0).toNat 0
def nfL(s:Sd)(ix:List Int)(f i:Nat):List Int:=zRB (nwL s ix f i ((s.2.1.getD f zA).2.1.getD i []).length)
def zCU(s:Sd)(f i:Nat):Prop:=0<yW (arZ (gl (tQ s f) i) 0 1)
def ouL(s:Sd)(ix:List Int)(f:Nat):Nat->List (List Int):=pG (zCU s f) (nfL s ix f)
def zV5(l:List Int)(D:List (List Int))(k:Nat):Prop:=rZ l (D.getD k [])<0
def w9(s:Sd)(ix:List Int)(f:Nat):Nat->List (List Int)
  |0=>[]
  |i+1=>if zCU s f i then w9 s ix f i else eS (w9 s ix f i) (bS (zV5 (nfL s ix f i) (w9 s ix f i)) (w9 s ix f i).length) (nfL s ix f i)
theorem zOJ(s:Sd)(ix:List Int)(f:Nat):∀i,(w9 s ix f i).length<=i
  |0=>zbe _
  |i+1=>by
   have:=zOJ s ix f i;unfold w9
   split
   · omega
   · rw[zE3 _ _ (zDH _ _)];omega
def nfF(s:Sd)(ix:List Int)(f:Nat):Fc:=(scZ (s.2.1.getD f zA).1,ouL s ix f (s.2.1.getD f zA).2.1.length++w9 s ix f (s.2.1.getD f zA).2.1.length,(s.2.1.getD f zA).2.2)
theorem zOQ{s:Sd}{f:Nat}(hf:f<s.2.1.length)(h:nmP s f):gB s ↑f=zJC s f (s.2.1.getD f zA).2.1.length:=zau ⟨by omega,h⟩
theorem yEK{s:Sd}{f:Nat}(hf:f<s.2.1.length)(h:nmP s f):(tQ s f).length=(s.2.1.getD f zA).2.1.length:=by
 rw[(zDG s f).1,zOQ hf h];exact xH _ _
def gX(s:Sd):List Int:=bK s s.1.length
def zF6(s:Sd):Nat->List Int
  |0=>List.replicate s.1.length (0:Int)
  |i+1=>(zF6 s i).set ((gX s).getD i 0).toNat (i:Int)
theorem zBW(s:Sd):∀i,(zF6 s i).length=s.1.length
  |0=>z4i
  |i+1=>by unfold zF6;rw[lS];exact zBW s i
def ixZ(s:Sd):List Int:=zF6 s (gX s).length
def zU2(s:Sd):Nat->List Pt:=uD λi=>gp s.1 ((gX s).getD i 0).toNat
def zN9(x:Fc)(D:List Fc)(k:Nat):Prop:=lsF x (D.getD k zA)
def w3(s:Sd):Nat->List Fc
  |0=>[]
  |f+1=>eS (w3 s f) (bS (zN9 (nfF s (ixZ s) f) (w3 s f)) (w3 s f).length) (nfF s (ixZ s) f)
theorem zNZ(s:Sd):∀f,(w3 s f).length=f
  |0=>rfl
  |f+1=>by
   unfold w3;rw[zE3 _ _ (zDH _ _),zNZ s f]
def nrP(s:Sd):List Pt:=if oU s then zU2 s (gX s).length else[]
def nrF(s:Sd):List Fc:=if oU s then w3 s s.2.1.length else[]
def nrE(s:Sd):List En:=if oU s then s.2.2 else[]
theorem yCD{s:Sd}(h:oU s):nmA s:=by
 have h1:(szZ s).length=0:=by
  unfold oU zZ3 at h
  split at h
  · omega
  · omega
 have h2:szZ s=[]:=zof h1;unfold szZ at h2
 split at h2
 · exact absurd h2 zo1
 · intro f C
   exact zdu λe=>(zO9 _).1 h2 f C (.inr e)
theorem zEM{s:Sd}(h:okS s){ix:List Int}{f:Nat}(hf:f<s.2.1.length):(nfF s ix f).2.1.length<=100:=by
 have h1:=rQ (zCU s f) (nfL s ix f) (s.2.1.getD f zA).2.1.length;have h2:=zOJ s ix f (s.2.1.getD f zA).2.1.length;have h3:=(h.2.1 f hf).1
 show List.length (ouL s ix f _++w9 s ix f _)<=_
 rw[lAz];have C:(ouL s ix f (s.2.1.getD f zA).2.1.length).length<=(s.2.1.getD f zA).2.1.length:=h1;omega
theorem zV2{α:Type}{p:α->Prop}{l:List α}{k:Nat}{x:α}(h:∀y,y∈l->p y)(hx:p x):∀y,y∈eS l k x->p y:=by
 intro y hy;unfold eS at hy
 rcases zni.1 hy with hy|hy
 · exact h y (zve hy)
 · rcases zfi.1 hy with rfl|hy
   · exact hx
   · exact h y (z5i hy)
theorem zUZ{s:Sd}(h:okS s):∀f,f<=s.2.1.length->∀x,x∈w3 s f->x.2.1.length<=100
  |0,_,x,hx=>absurd hx zgi
  |f+1,hf,x,hx=>zV2 (p:=λx:Fc=>x.2.1.length<=100) (zUZ h f zos) (zEM h zos) x hx
end Bk
namespace Go.Proofs.YtboaboflnckgoaaGreat
open Bk Go Tryz
attribute [local irreducible] GL GC GQ W OpV
section
variable{w0:World}{h0:Mem}(hs:MLe h0 (mem w0))
include hs
theorem zF0{vL:Value}{L:(List (List Int))}(rL:tII.Is h0 vL L)(hcd0:L.length<=100000)(hcd1:∀x,x∈L->x.length<=100000):
 Calls prog 108 #[vL] w0 (Ret w0 h0 (λh r=>tII.Is h r L)):=by
 refine cb1 20 vL func108 hs ?_;refine oO ?_;refine xC 32 1 ?_;have Z:=RL.nil (ρ:=rpS rpI) (h:=h0);refine gcL (ι:=Nat×List (List Int)×Value×List Value×Mem) (λ(i,D,C,G,mi)=>(MLe h0 mi/\(RL (rpS rpI) mi G D/\i<=L.length/\D=L.take i),[(0,vL),(3,C),(4,vI ↑i)],[.gs 32 1 C D.length G],mi,L.length-i)) (0,[],(.slice none 0 0),[],h0) ?_ ?_
 · exact⟨mle,Z,by omega,I⟩
 rintro⟨i,D,C,G,mi⟩ ⟨am,H,az,hD⟩
 refine yQ ?_;have bb:=zWA hcd1 i;have ay:D.length<=i:=by rw[hD,zei];omega
 refine gc9 (λak=>?_) λak=>?_
 ·
  refine go8 ?_;refine lX (xI [] i underlying81 fE rL) λau ai=>(lX (xA fE ai) λar ah=>(zHD 3 1 ?_));have U:=RL.nil (ρ:=rpI) (h:=mi);refine xL (A:=[]) (yA (ρ:=rpI) (bytes:=8) underlying32 jJ I I I I nP I I U ah bO bO) I I I ?_
  rintro aq ax ⟨ao,rfl,ac⟩
  refine zW (A:=[]) (ρ:=rpI) ac ?_;intro h1 aj O;refine zF (zL (ρ:=(rpS rpI)) (m:=1) (xs:=[(([]:List Int)++(L.getD i []))]) (ps':=[(0,_)]) underlying81 jC I I I wJ e2z (zC I (y1e (y1u _) [] 0 dC) O zN) zoj nP) I I I ?_
  rintro ap aw ⟨an,rfl,ab⟩
  refine zW (A:=[]) (ρ:=(rpS rpI)) ab ?_;intro h2 ba M;refine xL (A:=[]) (yA (ρ:=(rpS rpI)) (bytes:=24) underlying81 jC I I I I nP I I H.up M bO bO) I I I ?_
  rintro ae av ⟨ad,rfl,aa⟩
  refine go9 ?_;refine gqL ((i+1),(D++[(([]:List Int)++(L.getD i []))]),ae,ad,h2) ?_ ?_
  · exact⟨mle,aa,by omega,by rw[hD,zhu];exact(zQX [] oM).symm⟩
  omega
 have ei:i=L.length:=by omega
 refine uV ?_;refine xP (A:=[]) (ρ:=(rpS rpI)) H.up ?_;intro h1 aj J;refine zD I I ?_;exact(Rp.Is.cast J (by rw[hD,ei,zze]))
theorem zG1{k m n j:Nat}{vs:Value}{s:Sq}(rs:(tSd k m n j).Is h0 vs s)(hcd0:s.2.1.length<=100000)(hcd1:∀f,f<s.2.1.length->(s.2.1.getD f zA).2.1.length<=100000/\∀x,x∈(s.2.1.getD f zA).2.1->x.length<=100000):
 Calls prog 159 #[vs] w0 (Ret w0 h0 (λh r=>(rpS tII).Is h r (vT s))):=by
 refine cb1 23 vs func159 hs ?_;refine go2 ?_;refine nB rs λb1 an aa=>(iV ?_);refine xC 81 1 ?_;have O:=RL.nil (ρ:=rpS (rpS rpI)) (h:=h0);refine gcL (ι:=Nat×List (List (List Int))×Value×List Value×Mem) (λ(f,D,C,G,mf)=>(MLe h0 mf/\(RL tII mf G D/\f<=s.2.1.length/\D=uD (λf=>(s.2.1.getD f zA).2.1) f),[(1,vP b1 0),(3,C),(4,vI ↑f)],[.gs 81 1 C D.length G,.var b1 50 an],mf,s.2.1.length-f)) (0,[],(.slice none 0 0),[],h0) ?_ ?_
 · exact⟨mle,O,by omega,I⟩
 rintro⟨f,D,C,G,mf⟩ ⟨ao,H,bc,hD⟩
 refine yQ ?_;have ba:D.length=f:=by rw[hD];exact xH _ _
 refine go5 ?_;refine lX (xB gK (y2u (y2i pH)) aa) λv7 r7=>(gc4 (λam=>?_) λam=>?_)
 ·
  refine go7 ?_;refine lX (xB gK (y2u (y2i pH)) aa) λax aj=>(go1 ?_);refine lX (xI zA f underlying47 fD aj) λaw ai=>(lX (xF underlying83 sizeOf81 (y2u (y2i pH)) ai) λav ah=>(lX (xA cD ah) λau ae=>(cL (ev1 I) call108 (λw hs=>zF0 hs ae (by first|omega|exact(hcd1 f oM).1|exact(hcd1 f oM).2) (by first|omega|exact(hcd1 f oM).1|exact(hcd1 f oM).2)) λar h1 ak ad=>(zF (zL (ρ:=tII) (m:=1) (xs:=[(((s.2.1.getD f zA).2).1)]) (ps':=[(0,_)]) underlying175 zOI I I I wJ e2z (zC I (y1e (y1u _) [] 0 dC) ad zN) zoj nP) I I I ?_))))
  rintro aq az ⟨ap,rfl,Z⟩
  refine zW (A:=[]) (ρ:=tII) Z ?_;intro h2 bb M;refine xL (A:=[]) (yA (ρ:=tII) (bytes:=24) underlying175 zOI I I I I nP I I H.up M bO bO) I I I ?_
  rintro ac ay ⟨ab,rfl,U⟩
  refine go9 ?_;refine gqL ((f+1),(D++[(((s.2.1.getD f zA).2).1)]),ac,ab,h2) ?_ ?_
  · exact⟨mle,U,by omega,by rw[hD];rfl⟩
  omega
 have ef:f=s.2.1.length:=by omega
 refine uV ?_;refine xP (A:=[]) (ρ:=tII) H.up ?_;intro h1 ak J;refine zD I I ?_;exact(Rp.Is.cast J (by rw[hD,ef];rfl))
theorem zG0{k m n j:Nat}{vs:Value}{s:Sq}(rs:(tSd k m n j).Is h0 vs s){f:Int}(hf1:-9223372036854775808<=f)(hf2:f<9223372036854775808)(hcd0:0<=f)(hcd1:f<↑s.2.1.length)(hcd2:(s.2.1.getD f.toNat zA).2.1.length<=100000)(hcd3:∀l,l<(s.2.1.getD f.toNat zA).2.1.length->((s.2.1.getD f.toNat zA).2.1.getD l []).length<=100000):
 Calls prog 187 #[vs,vI f] w0 (Ret w0 h0 (λ_ r=>r=vB (nmP s f.toNat))):=by
 refine cb2 50 vs (vI f) func187 hs ?_;refine go2 ?_;refine nB rs λb2 ab H=>(go6 ?_);refine lX (xB gK (y2u (y2i pH)) H) λv9 r9=>(go1 ?_);refine lX (xI zA f.toNat underlying47 fD r9) λbl aq=>(lX (xF underlying83 sizeOf81 (y2u (y2i pH)) aq) λbk ap=>(lX (xA cD ap) λG D=>(uQ ?_)));refine gcL (ι:=Nat×Mem) (λ(l,M)=>(MLe h0 M/\(l<=(s.2.1.getD f.toNat zA).2.1.length/\∀u,u<l->nmL s.1.length ((s.2.1.getD f.toNat zA).2.1.getD u [])),[(2,vP b2 0),(5,G),(6,vI ↑l)],[.var b2 50 ab],M,(s.2.1.getD f.toNat zA).2.1.length-l)) (0,h0) ?_ ?_
 · exact⟨mle,by omega,λu h=>by omega⟩
 rintro⟨l,M⟩ ⟨aw,bo,O⟩
 refine yQ ?_;refine gc9 (λaa=>?_) λaa=>?_
 ·
  refine uQ ?_;refine gcL (ι:=Nat×Mem) (λ(i,J)=>(MLe M J/\(i<=((s.2.1.getD f.toNat zA).2.1.getD l []).length/\∀u,u<i->0<=((s.2.1.getD f.toNat zA).2.1.getD l []).getD u 0/\((s.2.1.getD f.toNat zA).2.1.getD l []).getD u 0<↑s.1.length),[(2,vP b2 0),(5,G),(6,vI ↑l),(7,vI ↑i)],[.var b2 50 ab],J,((s.2.1.getD f.toNat zA).2.1.getD l []).length-i)) (0,M) ?_ ?_
  · exact⟨mle,by omega,λu h=>by omega⟩
  rintro⟨i,J⟩ ⟨av,bp,hi2⟩
  refine yQ ?_;have bn:=hcd3 l oM;refine go6 ?_;refine lX (xI [] l underlying81 fE D) λbj ao=>(lX (xA fE ao) λbi bm=>(gc4 (λZ=>?_) λZ=>?_))
  ·
   refine go5 ?_;refine zK 21 _ [] (zai 0 21 []) yC nX (wV zot) nX (λr hr=>hr) (go2 ?_);refine wX I (xI [] l underlying81 fE D) λbh an=>(wX I (xA fE an) λbg am=>(go1 ?_));refine wX I (xI (0:Int) i underlying32 ty3 am) λbf ak=>(wX I (xA ty3 ak) λbe aj=>?_);obtain⟨rfl,ay,au⟩:=kF aj;refine go2 ?_;refine fL ((((((s.2.1.getD f.toNat zA).2).1).getD l []).getD i (0:Int))<(0:Int)) (λC=>?_) (λC=>?_)
   ·
    rw[xR C];refine go30 ?_;refine zD I I ?_;exact(yV (λe=>by have:=e l oM i oM;omega)).symm
   rw[yV C];refine yU I I I (λh' L' hh hR=>yY I) I (yU I I I (λh' L' hh hR=>yY I) I (oX I (xI [] l underlying81 fE D) λbd ai=>(oX I (xA fE ai) λbc ah=>(yU I I I (λh' L' hh hR=>yY I) I (oX I (xI (0:Int) i underlying32 ty3 ah) λbb ae=>(oX I (xA ty3 ae) λba ad=>?_))))));obtain⟨rfl,ax,ar⟩:=kF ad;refine go1 ?_;refine oX I (xB uS (y2i pH) H) λaz ac=>(yU I I I (λh' L' hh hR=>uX underlying46 I (ac.mono hh)) I (gc4 (λU=>?_) λU=>?_))
   ·
    refine iV ?_;refine zD I I ?_;exact(yV (λe=>by have:=e l oM i oM;omega)).symm
   refine go8 ?_;refine gqL ((i+1),J) ?_ ?_
   · exact⟨mle,by omega,qA (Q:=λu=>0<=((s.2.1.getD f.toNat zA).2.1.getD l []).getD u 0/\((s.2.1.getD f.toNat zA).2.1.getD l []).getD u 0<↑s.1.length) hi2 oM⟩
   omega
  refine qG ?_;refine gqL ((l+1),J) ?_ ?_
  · exact⟨mle,by omega,qA (Q:=λu=>nmL s.1.length ((s.2.1.getD f.toNat zA).2.1.getD u [])) O (λu hu=>hi2 u oM)⟩
  omega
 refine qG ?_;refine zD I I ?_;exact(xR (λu hu=>O u oM)).symm
theorem zCJ{k m n j:Nat}{vs:Value}{s:Sq}(rs:(tSd k m n j).Is h0 vs s){f:Int}(hf1:-9223372036854775808<=f)(hf2:f<9223372036854775808)(hcd0:s.1.length<=100000)(hcd1:∀f,f<s.2.1.length->(s.2.1.getD f zA).2.1.length<=10000/\∀l,l<(s.2.1.getD f zA).2.1.length->((s.2.1.getD f zA).2.1.getD l []).length<=10000):
 Calls prog 189 #[vs,vI f] w0 (Ret w0 h0 (λh r=>(tLL (k+1)).Is h r (gB s f))):=by
 refine cb2 65 vs (vI f) func189 hs ?_;refine go2 ?_;refine nB rs λb2 an ab=>(go8 ?_);refine gU 7 18 (vB ((f<(0:Int))\/((↑(s.2.1).length:Int)<=f))) ?_ ?_
 ·
  refine yD (f<(0:Int)) (λZ=>?_) (λZ=>?_)
  ·
   refine gT Z I (go7 ?_);refine gqU ?_;exact y0e (vV Z)
  refine gF Z I (go5 ?_);refine lX (xB gK (y2u (y2i pH)) ab) λct cv=>(go6 ?_);refine gqU ?_;exact y0e (vW Z)
 refine uZ (ι:=Mem) 6 (λm_=>MLe h0 m_) (λ_=>[(24,vB (((f<(0:Int))\/((↑(s.2.1).length:Int)<=f))\/(¬(nmP s f.toNat)))),(1,vI f),(2,vP b2 0)]) (λ_=>[.var b2 50 an]) (λm_=>m_) ?_ ?_
 ·
  refine yD ((f<(0:Int))\/((↑(s.2.1).length:Int)<=f)) (λZ=>?_) (λZ=>?_)
  ·
   refine gT Z I (go6 ?_);refine zS h0 (MLe.refl _) ⟨?_,I,I,y1i⟩ I I;exact y0e (vV Z)
  refine gF Z I (go1 ?_);refine lX (xB jH pH ab) λcq bt=>(go3 ?_);refine cL (ev2 I I) call187 (λw hs=>zG0 hs bt oM oM oM (by first|omega|exact zci (hcd1 f.toNat oM).1 dC|exactλl hl=>zci ((hcd1 f.toNat oM).2 l hl) dC) (by first|omega|exact zci (hcd1 f.toNat oM).1 dC|exactλl hl=>zci ((hcd1 f.toNat oM).2 l hl) dC) (by first|omega|exact zci (hcd1 f.toNat oM).1 dC|exactλl hl=>zci ((hcd1 f.toNat oM).2 l hl) dC)) λbg h1 ac bs=>?_;obtain rfl:bg=vB (nmP s f.toNat):=bs;refine go4 ?_;refine zS h1 ac ⟨?_,I,I,y1i⟩ I I;exact y0e (vW Z)
 intro J ay;refine sD ?_;refine gc2 (λaa=>?_) λaa=>?_
 ·
  refine go7 ?_;refine zD I I ?_;exact(Rp.Is.cast (aC _) (by exact(zae (λe=>aa.elim (λh=>by omega) (λh=>h e.2))).symm))
 have aw:(0<=f/\f<↑s.2.1.length)/\nmP s f.toNat:=by constructor;exact oM;exact zdi (λe=>aa (.inr e))
 have ax:∀l,l<(s.2.1.getD f.toNat zA).2.1.length->∀q,q<((s.2.1.getD f.toNat zA).2.1.getD l []).length->0<=((s.2.1.getD f.toNat zA).2.1.getD l []).getD q 0/\((s.2.1.getD f.toNat zA).2.1.getD l []).getD q 0<↑s.1.length:=λl hl q hq=>aw.2 l hl q hq;have az:=hcd1 f.toNat oM;refine uQ ?_;refine lX (xB gK (y2u (y2i pH)) ab) λcp br=>(go1 ?_);refine lX (xI zA f.toNat underlying47 fD br) λco bq=>(lX (xF underlying83 sizeOf81 (y2u (y2i pH)) bq) λcn bp=>(lX (xA cD bp) λao av=>(uQ ?_)));refine xC 46 1 ?_;have ak:=RL.nil (ρ:=rpS (tPt (k+1))) (h:=J);refine gcL (ι:=Nat×List (List Tq)×Value×List Value×Mem) (λ(l,D,C,G,ml)=>(MLe J ml/\(RL (tLs (k+1)) ml G D/\l<=(s.2.1.getD f.toNat zA).2.1.length/\D=zJC s f.toNat l),[(2,vP b2 0),(5,C),(6,ao),(7,vI ↑l)],[.gs 46 1 C D.length G,.var b2 50 an],ml,(s.2.1.getD f.toNat zA).2.1.length-l)) (0,[],(.slice none 0 0),[],J) ?_ ?_
 · exact⟨mle,ak,by omega,I⟩
 rintro⟨l,D,C,G,ml⟩ ⟨bx,U,de,hD⟩
 refine yQ ?_;have dd:D.length=l:=by rw[hD];exact xH _ _
 refine gc9 (λbb=>?_) λbb=>?_
 ·
  refine zBY ?_;refine xC 53 9 ?_;have aj:=RL.nil (ρ:=rpT (rpQ (k+1))) (h:=ml);refine gcL (ι:=Nat×List Tq×Value×List Value×Mem) (λ(q,YY,H,M,mq)=>(MLe ml mq/\(RL (tPt (k+1)) mq M YY/\q<=((s.2.1.getD f.toNat zA).2.1.getD l []).length/\YY=zFV s.1 ((s.2.1.getD f.toNat zA).2.1.getD l []) q),[(2,vP b2 0),(5,C),(6,ao),(7,vI ↑l),(8,H),(9,vI ↑q)],[.gs 53 9 H YY.length M,.gs 46 1 C D.length G,.var b2 50 an],mq,((s.2.1.getD f.toNat zA).2.1.getD l []).length-q)) (0,[],(.slice none 0 0),[],ml) ?_ ?_
  · exact⟨mle,aj,by omega,I⟩
  rintro⟨q,YY,H,M,mq⟩ ⟨bw,O,db,am⟩
  refine yQ ?_;have dc:YY.length=q:=by rw[am];exact xH _ _
  have bu:=az.2 l oM;refine go6 ?_;refine lX (xI [] l underlying81 fE av) λcm bo=>(lX (xA fE bo) λcl cu=>(gc4 (λba=>?_) λba=>?_))
  ·
   refine go4 ?_;refine jD (A:=[]) 15 [] (zai 0 12 [(12,.c),(13,.c),(14,.q)]) yC nX (wV zot) nX (go2 ?_);refine wX I (xB uS (y2i pH) ab) λck bn=>(go2 ?_);refine wX I (xI [] l underlying81 fE av) λcj bm=>(wX I (xA fE bm) λci bl=>(go1 ?_));refine wX I (xI (0:Int) q underlying32 ty3 bl) λch bk=>(wX I (xA ty3 bk) λcg bj=>?_);obtain⟨rfl,bz,bv⟩:=kF bj;refine lJ (F:=λv_=>AtP (tPt k) mq v_ (s.1.getD ((((s.2.1.getD f.toNat zA).2.1.getD l []).getD q 0).toNat) zT)) I (rT zT ((((s.2.1.getD f.toNat zA).2.1.getD l []).getD q 0).toNat) underlying46 zO I I bn (by(have h:=ax l oM q oM;omega)) (by(have h:=ax l oM q oM;omega)) nP) zBT I ?_;intro cf bi;refine wX I (xA zO bi) λce bh=>?_;refine w_c I (qX (λX=>zL (ρ:=(tPt (k+1))) (m:=1) (xs:=[(s.1.getD ((((s.2.1.getD f.toNat zA).2.1.getD l []).getD q 0).toNat) zT)]) (ps':=[(0,_)]) underlying46 yM I I I (xE (yE oM)) e2z (zC I (y1e (y1u _) zT 0 dC) (bh.le (Le.t (Le.q (l:=k+1) oM))) zN) zok nP) I ?_)
   rintro cd da ⟨cb,rfl,au⟩
   refine w_c I (xJ (A:=[]) (ρ:=(tPt (k+1))) au dK ?_);intro h1 ac ai;refine gR (A:=[]) (λX=>yA (ρ:=(tPt (k+1))) (bytes:=168) underlying46 yM I I I I nP I I O.up ai bO bO) I (xU zox) ?_
   rintro bf cz ⟨bd,rfl,ar⟩
   refine go9 ?_;refine gqL ((q+1),(YY++[(s.1.getD ((((s.2.1.getD f.toNat zA).2.1.getD l []).getD q 0).toNat) zT)]),bf,bd,h1) ?_ ?_
   · exact⟨mle,ar,by omega,by rw[am];rfl⟩
   omega
  have eq:q=((s.2.1.getD f.toNat zA).2.1.getD l []).length:=by omega
  have bu:=az.2 l oM;refine go8 ?_;refine zW (A:=[]) (ρ:=(tPt (k+1))) O.up ?_;intro h1 ac ah;refine zF (zL (ρ:=(tLs (k+1))) (m:=1) (xs:=[YY]) (ps':=[(0,_)]) underlying115 rY I I I wJ e2z (zC I (y1e (y1u _) [] 0 dC) ah zN) zoj nP) I I I ?_
  rintro cc cy ⟨ca,rfl,aq⟩
  refine zW (A:=[]) (ρ:=(tLs (k+1))) aq ?_;intro h2 df ae;refine xL (A:=[]) (yA (ρ:=(tLs (k+1))) (bytes:=24) underlying115 rY I I I I nP I I U.up ae bO bO) I I I ?_
  rintro be cw ⟨bc,rfl,ap⟩
  refine go9 ?_;refine gqL ((l+1),(D++[YY]),be,bc,h2) ?_ ?_
  · exact⟨mle,ap,by omega,by rw[hD,am,eq];rfl⟩
  omega
 have el:l=(s.2.1.getD f.toNat zA).2.1.length:=by omega
 refine uV ?_;refine xP (A:=[]) (ρ:=(tLs (k+1))) U.up ?_;intro h1 ac ad;refine zD I I ?_;exact(Rp.Is.cast ad (by rw[hD,el];exact(zau aw).symm))
theorem zCV{m n k:Nat}{vpl:Value}{pl:Pq}(rpl:(tPl m n).Is h0 vpl pl){vl:Value}{l:(List Tq)}(rl:(tLs k).Is h0 vl l)(hcd0:k<=100000000)(hcd1:m<=100000000)(hcd2:n<=100000000)(hcd3:l.length<=100000):
 Calls prog 207 #[vpl,vl] w0 (Ret w0 h0 (λh r=>(tLs (k+1)).Is h r (flA pl l l.length))):=by
 refine cb2 23 vpl vl func207 hs ?_;refine go2 ?_;refine nB rpl λb2 am ad=>(iV ?_);refine xC 53 9 ?_;have O:=RL.nil (ρ:=rpT (rpQ (k+1))) (h:=h0);refine gcL (ι:=Nat×List Tq×Value×List Value×Mem) (λ(i,D,C,G,mi)=>(MLe h0 mi/\(RL (tPt (k+1)) mi G D/\i<=l.length/\D=flA pl l i),[(1,vl),(2,vP b2 0),(5,C),(6,vI ↑i)],[.gs 53 9 C D.length G,.var b2 80 am],mi,l.length-i)) (0,[],(.slice none 0 0),[],h0) ?_ ?_
 · exact⟨mle,O,by omega,I⟩
 rintro⟨i,D,C,G,mi⟩ ⟨an,H,ay,hD⟩
 refine yQ ?_;have ba:D.length=i:=by rw[hD];exact xH _ _
 refine gc9 (λaa=>?_) λaa=>?_
 ·
  refine go4 ?_;refine jD (A:=[]) 10 [] (zai 0 6 [(6,.c),(7,.c),(8,.c),(9,.q)]) yC nX zot nX (go1 ?_);refine wX I (xB iU pH ad) λav aj=>(go2 ?_);refine wX I (xI zT i underlying46 zO rl) λau ai=>(wX I (xA zO ai) λar ah=>?_);refine w_c I (sC (ev2 I I) call208 (λw hs=>zII hs aj ah oM oM) λaq h1 ak ae=>?_);refine w_c I (qX (λX=>zL (ρ:=(tPt (k+1))) (m:=1) (xs:=[gY pl (l.getD i zT)]) (ps':=[(0,_)]) underlying46 yM I I I (xE (yE oM)) e2z (zC I (y1e (y1u _) zT 0 dC) ae zN) zok nP) I ?_)
  rintro ap ax ⟨ao,rfl,Z⟩
  refine w_c I (xJ (A:=[]) (ρ:=(tPt (k+1))) Z dK ?_);intro h2 az M;refine gR (A:=[]) (λX=>yA (ρ:=(tPt (k+1))) (bytes:=168) underlying46 yM I I I I nP I I H.up M bO bO) I (xU zox) ?_
  rintro ac aw ⟨ab,rfl,U⟩
  refine go9 ?_;refine gqL ((i+1),(D++[gY pl (l.getD i zT)]),ac,ab,h2) ?_ ?_
  · exact⟨mle,U,by omega,by rw[hD];rfl⟩
  omega
 have ei:i=l.length:=by omega
 refine uV ?_;refine xP (A:=[]) (ρ:=(tPt (k+1))) H.up ?_;intro h1 ak J;refine zD I I ?_;exact(Rp.Is.cast J (by rw[hD,ei]))
theorem zAE{m n k:Nat}{vpl:Value}{pl:Pq}(rpl:(tPl m n).Is h0 vpl pl){vL:Value}{L:(List (List Tq))}(rL:(tLL k).Is h0 vL L)(hcd0:k<=100000000)(hcd1:m<=100000000)(hcd2:n<=100000000)(hcd3:L.length<=100000)(hcd4:∀l,l<L.length->(L.getD l []).length<=10000):
 Calls prog 198 #[vpl,vL] w0 (Ret w0 h0 (λh r=>(tLL (k+1)).Is h r (flL pl L L.length))):=by
 refine cb2 23 vpl vL func198 hs ?_;refine go2 ?_;refine nB rpl λb2 am ad=>(iV ?_);refine xC 46 1 ?_;have O:=RL.nil (ρ:=rpS (tPt (k+1))) (h:=h0);refine gcL (ι:=Nat×List (List Tq)×Value×List Value×Mem) (λ(i,D,C,G,mi)=>(MLe h0 mi/\(RL (tLs (k+1)) mi G D/\i<=L.length/\D=flL pl L i),[(1,vL),(2,vP b2 0),(5,C),(6,vI ↑i)],[.gs 46 1 C D.length G,.var b2 80 am],mi,L.length-i)) (0,[],(.slice none 0 0),[],h0) ?_ ?_
 · exact⟨mle,O,by omega,I⟩
 rintro⟨i,D,C,G,mi⟩ ⟨an,H,ay,hD⟩
 refine yQ ?_;have ba:D.length=i:=by rw[hD];exact xH _ _
 refine gc9 (λaa=>?_) λaa=>?_
 ·
  refine go4 ?_;refine jD (A:=[]) 10 [] (zai 0 6 [(6,.c),(7,.c),(8,.c),(9,.q)]) yC nX zot nX (go1 ?_);refine wX I (xB iU pH ad) λav aj=>(go2 ?_);refine wX I (xI [] i underlying115 uS rL) λau ai=>(wX I (xA uS ai) λar ah=>?_);refine w_c I (sC (ev2 I I) call207 (λw hs=>zCV hs aj ah oM oM oM (by first|omega|exact zci (hcd4 i oM) dC)) λaq h1 ak ae=>?_);refine w_c I (qX (λX=>zL (ρ:=(tLs (k+1))) (m:=1) (xs:=[flA pl (L.getD i []) (L.getD i []).length]) (ps':=[(0,_)]) underlying115 rY I I I wJ e2z (zC I (y1e (y1u _) [] 0 dC) ae zN) zoj nP) I ?_)
  rintro ap ax ⟨ao,rfl,Z⟩
  refine w_c I (xJ (A:=[]) (ρ:=(tLs (k+1))) Z dK ?_);intro h2 az M;refine gR (A:=[]) (λX=>yA (ρ:=(tLs (k+1))) (bytes:=24) underlying115 rY I I I I nP I I H.up M bO bO) I (xU zox) ?_
  rintro ac aw ⟨ab,rfl,U⟩
  refine go9 ?_;refine gqL ((i+1),(D++[flA pl (L.getD i []) (L.getD i []).length]),ac,ab,h2) ?_ ?_
  · exact⟨mle,U,by omega,by rw[hD];rfl⟩
  omega
 have ei:i=L.length:=by omega
 refine uV ?_;refine xP (A:=[]) (ρ:=(tLs (k+1))) H.up ?_;intro h1 ak J;refine zD I I ?_;exact(Rp.Is.cast J (by rw[hD,ei]))
theorem zKX{k m n j:Nat}{vs:Value}{s:Sq}(rs:(tSd k m n j).Is h0 vs s){f:Nat}(hcd0:k<=1000)(hcd1:m<=100000)(hcd2:n<=100000)(hcd3:s.1.length<=100000)(hcd4:∀f,f<s.2.1.length->(s.2.1.getD f zA).2.1.length<=10000/\∀l,l<(s.2.1.getD f zA).2.1.length->((s.2.1.getD f zA).2.1.getD l []).length<=10000)(hcd5:f<s.2.1.length)(hcd6:s.2.1.length<=100000):
 Calls prog 176 #[vs,vI ↑f] w0 (Ret w0 h0 (λh r=>(tLL (k+2)).Is h r (tQ s f))):=by
 have C:=zZ0 (s:=s) (f:=↑f) hcd4;refine cb2 15 vs (vI ↑f) func176 hs ?_;refine go2 ?_;refine nB rs λb2 ad G=>(go4 ?_);refine zK 11 _ [] (zai 0 8 [(8,.c),(9,.c),(10,.q)]) yC nX zot nX (λr hr=>hr) (go1 ?_);refine wX I (xB gK (y2u (y2i pH)) G) λv6 r6=>(go1 ?_);refine wX I (xI zA f underlying47 fD r6) λv8 r8=>(wX I (xF underlying83 sizeOf80 (y2i pH) r8) λv9 r9=>(wX I (xA iU r9) λaa M=>(wX I (xB jH pH G) λZ J=>(go1 ?_))));refine w_c I (sC (ev2 I I) call189 (λw hs=>zCJ hs J oM oM (by first|omega|exact hcd4) (by first|omega|exact hcd4)) λU h1 ac H=>?_);refine w_c I (sC (ev2 I I) call198 (λw hs=>zAE hs M.up H oM oM oM (by first|omega|exact C.1|exactλl hl=>C.2 l) (by first|omega|exact C.1|exactλl hl=>C.2 l)) λO h2 ab D=>?_);replace D:=Rp.Is.le D (Le.s (Le.s (Le.t (Le.q (l:=k+2) oM))));refine go4 ?_;refine zD I I ?_;exact D
theorem x0{kind:Int}(hkind1:-9223372036854775808<=kind)(hkind2:kind<9223372036854775808){face:Int}(hface1:-9223372036854775808<=face)(hface2:face<9223372036854775808){loop:Int}(hloop1:-9223372036854775808<=loop)(hloop2:loop<9223372036854775808){edge:Int}(hedge1:-9223372036854775808<=edge)(hedge2:edge<9223372036854775808):
 Calls prog 188 #[vI kind,vI face,vI loop,vI edge] w0 (Ret w0 h0 (λh r=>tE5.Is h r (dg kind face loop edge))):=by
 refine fG (n:=14) (e:=[(0,vI kind),(1,vI face),(2,vI loop),(3,vI edge)]) (vs:=[vI kind,vI face,vI loop,vI edge]) func188 rfl rfl (bL rfl) hs e4z (go2 ?_);refine nA (ρ:=tE5) (X:=e50) jG (yF wN (yF wN (yF wN (yF wN wN)))) λb8 Z H=>(go8 ?_);refine lX (xV (ρ:=tE5) (xK (ps':=[(0,_),(1,_),(2,_),(3,_),(4,_)]) underlying200 jG I I (zBK underlying200) e10 I (yF wN (yF wN (yF wN (yF wN wN)))) (zC I (y2i (y1u _)) (wA oM oM) (zC I (y2u (y2i (y1u _))) (wA dC dC) (zC I (y2u (y2u (y2i (y1u _)))) (wA oM oM) (zC I (y2u (y2u (y2u (y2i (y1u _))))) (wA oM oM) (zC I (y2u (y2u (y2u (y2u (y1u _))))) (wA oM oM) zN))))))) λU J=>(zV (A:=[]) (uB sizeOf200 pH H J) λM G=>(go3 ?_));refine xW (jA (t:=8) yFP mh0 I G) ?_;intro O C D;refine yG (λE S=>zQ I C E S) ?_;exact D
end
end Go.Proofs.YtboaboflnckgoaaGreat
namespace Bk
open Classical
def triT(P:Nat->P2)(n:Nat):Prop:=∀i j k,i<j->j<k->k<n->0<cr (P i) (P j) (P k)
def lp(t:Rat)(a b:P2):P2:=(a.1+t*(b.1-a.1),a.2+t*(b.2-a.2))
def ex(P:Nat->P2)(n m:Nat):P2:=P (m%n)
def chg(s:Nat->Int)(n m:Nat):Prop:=s m*s ((m+1)%n)<0
def afZ(w:Rat×Rat×Rat)(p:P2):Rat:=w.1+w.2.1*p.1+w.2.2*p.2
section
variable {s:Nat->Int}{n:Nat}
end
structure Cfg(P:Nat->P2)(n:Nat)(t:Nat->Rat)(s:Nat->Int)(w:Rat×Rat×Rat):Prop where
 h3:3<=n
 tri:triT P n
 per:∀m,t (m%n)=t m
 cross:∀m,m<n->chg s n m->(0<t m/\t m<1)/\afZ w (lp (t m) (P m) (P ((m+1)%n)))=0
 neg:∀m,m<n->(s m<0↔afZ w (P m)<0)
 zero:∀m,m<n->(s m=0↔afZ w (P m)=0)
section
variable {P:Nat->P2}{n:Nat}{t:Nat->Rat}{s:Nat->Int}{w:Rat×Rat×Rat}
def cx(u v:P2):Rat:=u.1*v.2-v.1*u.2
end
section
variable {P:Nat->P2}{n:Nat}{t:Nat->Rat}{s:Nat->Int}{w:Rat×Rat×Rat}
end
def pt2(pl:Pl)(p:Pt):P2:=pr p (axI pl.1) (axJ pl.1)
def zFG(pl:Pl)(l:List Pt):Prop:=
 (3<=l.length/\¬pl.1=zT)/\(∀m,m<l.length->sdZ pl (gp l m)=0)/\∀m k,m<l.length->2<=k->k<l.length->0<orZ (pt2 pl (gp l m)) (pt2 pl (nx l m)) (pt2 pl (gp l ((m+k)%l.length)))
def lH(a b c:Pt):Rat:=vZ a (uC b c)
theorem yEP{pl:Pl}{a b c:Pt}(hn:¬pl.1=zT)(ha:sdZ pl a=0)(hb:sdZ pl b=0)(hc:sdZ pl c=0):yW (vZ (uC (kT b a) (kT c a)) pl.1)=orZ (pt2 pl a) (pt2 pl b) (pt2 pl c):=by
 have C:¬pl.1.at (axK pl.1)=0:=λe=>hn ((zZ8 _).1 e);have h1:=zSY pl (gY pl a) (gY pl b) (gY pl c) C;rw[zBV C ha,zBV C hb,zBV C hc,yA2] at h1;exact h1.symm
theorem yEQ(a b c n:Pt):vZ (uC (kT b a) (kT c a)) n=lH (kT b a) (kT c a) n:=by
 unfold lH vZ uC kT;grind
end Bk
namespace Bk
open Go Go.RowKit
open Classical
theorem zTR{α:Type}{ρ:Rp α}{h:Mem}{v:Value}{xs:List α}(s:(rpS ρ).Is h v xs):∃a m cap,v=.slice a m cap:=by
 obtain⟨a,cap,e⟩:=yAH s;exact⟨a,_,cap,e⟩
theorem nil_of{α:Type}{ρ:Rp α}{h:Mem}{v:Value}{xs:List α}(s:(rpS ρ).Is h v xs)(hk:0<ρ.n)(hn:∃m cap,v=.slice none m cap):xs=[]:=by
 obtain⟨ds,⟨a,cap,e,h1,h2,h3,G⟩,r⟩:=zNI s;obtain⟨m,D,C⟩:=hn;rw[e] at C
 injection C with e1 e2 e3
 refine zof ?_
 rcases z8u ds.length with h0|h0
 · rw[h0] at h3
   rcases Nat.mul_eq_zero.1 h3.symm with h5|h5
   · exact h5
   · omega
 · obtain⟨b,o,hb,_⟩:=G 0 h0
   rw[e1] at hb;exact absurd hb zo1
theorem zJR{k:Nat}{h:Mem}{v:Value}{p:T3 Rat}(s:(rpT (rpQ k)).Is h v p):lq p.x<=k/\lq p.y<=k/\lq p.z<=k:=by
 obtain⟨cs,⟨a,b,_,G,c,d,_,D,C⟩,_⟩:=s;exact⟨G.2,D.2,C.2⟩
theorem zDR{K k:Nat}{h:Mem}{v:Value}{p:T3 Rat}(s:(rpT (rpQ K)).Is h v p)(h1:lq p.x<=k)(h2:lq p.y<=k)(h3:lq p.z<=k):(rpT (rpQ k)).Is h v p:=by
 obtain⟨cs,⟨a,b,e,G,c,d,J,D,C⟩,H⟩:=s;exact⟨cs,⟨a,b,e,⟨G.1,h1⟩,c,d,J,⟨D.1,h2⟩,⟨C.1,h3⟩⟩,H⟩
theorem zG9{α:Type}{d:α}{a b:List α}(hl:a.length=b.length)(h:∀u,u<b.length->a.getD u d=b.getD u d):a=b:=by
 refine yre hl λq h1 h2=>?_;have:=h q h2;rw[zoa,zoa,zoc h1,zoc h2] at this;exact this
theorem zVF{L:List (List Pt)}{n m:Nat}(hm:m<L.length)(h:∀x,x∈L->x.length<=n):(L.getD m []).length<=n:=by
 rw[zoa,zoc hm];exact h _ (yfu hm)
end Bk
namespace Go.Proofs.YtboaboflnckgoaaGreat
open Bk Go Tryz
attribute [local irreducible] GL GC GQ W OpV
section
variable{w0:World}{h0:Mem}(hs:MLe h0 (mem w0))
include hs
theorem zUW{k l:Nat}{va:Value}{a:Tq}(ra:(tPt k).Is h0 va a){vb:Value}{b:Tq}(rb:(tPt l).Is h0 vb b)(hcd0:k+l<=1000000000):Calls prog 34 #[va,vb] w0 (Ret w0 h0 (λh r=>(tPt (k+l+1)).Is h r (T3.mk (a.x+b.x) (a.y+b.y) (a.z+b.z)))):=by
 obtain⟨M,J,H⟩:=zJR ra;obtain⟨G,D,C⟩:=zJR rb;exact(zUX hs ra rb hcd0).mono (jR λh r x=>zDR x (by have:=jX a.x b.x;show lq (a.x+b.x)<=_;omega) (by have:=jX a.y b.y;show lq (a.y+b.y)<=_;omega) (by have:=jX a.z b.z;show lq (a.z+b.z)<=_;omega))
theorem zAD{k l:Nat}{va:Value}{a:Tq}(ra:(tPt k).Is h0 va a){vb:Value}{b:Tq}(rb:(tPt l).Is h0 vb b)(hcd0:k+l<=1000000000):Calls prog 125 #[va,vb] w0 (Ret w0 h0 (λh r=>(tPt (k+l+1)).Is h r (T3.mk (a.x-b.x) (a.y-b.y) (a.z-b.z)))):=by
 obtain⟨M,J,H⟩:=zJR ra;obtain⟨G,D,C⟩:=zJR rb;exact(zKU hs ra rb hcd0).mono (jR λh r x=>zDR x (by have:=mN a.x b.x;show lq (a.x-b.x)<=_;omega) (by have:=mN a.y b.y;show lq (a.y-b.y)<=_;omega) (by have:=mN a.z b.z;show lq (a.z-b.z)<=_;omega))
theorem zNL{l k:Nat}{vq:Value}{q:Rat}(rq:(rpQ l).Is h0 vq q){va:Value}{a:Tq}(ra:(tPt k).Is h0 va a)(hcd0:k+l<=1000000000):Calls prog 111 #[vq,va] w0 (Ret w0 h0 (λh r=>(tPt (k+l)).Is h r (T3.mk (q*a.x) (q*a.y) (q*a.z)))):=by
 obtain⟨H,G,D⟩:=zJR ra;have C:=(yF5 rq).2;exact(zEG hs rq ra hcd0).mono (jR λh r x=>zDR x (by have:=rA q a.x;show lq (q*a.x)<=_;omega) (by have:=rA q a.y;show lq (q*a.y)<=_;omega) (by have:=rA q a.z;show lq (q*a.z)<=_;omega))
theorem zNX{k l:Nat}{va:Value}{a:Tq}(ra:(tPt k).Is h0 va a){vb:Value}{b:Tq}(rb:(tPt l).Is h0 vb b)(hcd0:k+l<=10000000000):
 Calls prog 116 #[va,vb,vF 70 []] w0 (Ret w0 h0 (λh r=>(tPt (k+l+1+1)).Is h r (T3.mk (a.x+b.x) (a.y+b.y) (a.z+b.z)))):=by
 refine cb3 24 va vb (vF 70 []) func116 hs ?_;refine go2 ?_;refine nB ra λb3 bl Z=>(nB rb λb4 bk U=>(nA (ρ:=(tPt (k+l+1+1))) (X:=zT) yM (xE (yE oM)) λb6 bj az=>(go4 ?_)));refine nA (ρ:=(tPt (k+l+1+1))) (X:=zT) yM (xE (yE oM)) λb7 bi ay=>(go9 ?_);refine tP (go2 ?_);refine gv (OpV.tr dC (yL (q:=3) I I)) I (sN ?_);refine zK 10 _ [] (zai 0 8 [(8,.c),(9,.q),(10,.t)]) yC nX zot nX (λr hr=>hr) (go4 ?_);refine wX I (xB yI (y2e pH) Z) λax ai=>(go2 ?_);refine wX I (xB yI (y2e pH) U) λau ad=>?_;refine w_c I (bJ (tR (vs:=[_,_]) call70 I e2z) I (λw hs=>rJ hs ai ad oM) ?_);intro M h1 bh G
 change (rpQ (k+l+1)).Is h1 M (a.x+b.x) at G
 refine go1 ?_;refine yJ (A:=[]) I (uB sizeOf26 (y2e pH) ay (G.le (Le.q (l:=k+l+1+1) oM))) λbd ao=>(go4 ?_);refine gv ((zY (q:=1) I I oM oM).cv (show _=vI (1) from I)) I (go2 ?_);refine wP (go2 ?_);refine gv (OpV.tr dC (yL (q:=3) I I)) I (sN ?_);refine zK 10 _ [] (zai 0 8 [(8,.c),(9,.q),(10,.t)]) yC nX zot nX (λr hr=>hr) (go4 ?_);refine wX I (xB yI (y3i pH) Z) λaw ah=>(go2 ?_);refine wX I (xB yI (y3i pH) U) λar ac=>?_;refine w_c I (bJ (tR (vs:=[_,_]) call70 I e2z) I (λw hs=>rJ hs ah ac oM) ?_);intro J h2 bg D
 change (rpQ (k+l+1)).Is h2 J (a.y+b.y) at D
 refine go1 ?_;refine yJ (A:=[]) I (uB sizeOf26 (y3i pH) ao (D.le (Le.q (l:=k+l+1+1) oM))) λbc an=>(go4 ?_);refine gv ((zY (q:=1) I I oM oM).cv (show _=vI (2) from I)) I (go2 ?_);refine wP (go2 ?_);refine gv (OpV.tr dC (yL (q:=3) I I)) I (sN ?_);refine zK 10 _ [] (zai 0 8 [(8,.c),(9,.q),(10,.t)]) yC nX zot nX (λr hr=>hr) (go4 ?_);refine wX I (xB yI (y3u pH) Z) λav ae=>(go2 ?_);refine wX I (xB yI (y3u pH) U) λaq ab=>?_;refine w_c I (bJ (tR (vs:=[_,_]) call70 I e2z) I (λw hs=>rJ hs ae ab oM) ?_);intro H h3 bf C
 change (rpQ (k+l+1)).Is h3 H (a.z+b.z) at C
 refine go1 ?_;refine yJ (A:=[]) I (uB sizeOf26 (y3u pH) an (C.le (Le.q (l:=k+l+1+1) oM))) λbb am=>(go4 ?_);refine gv ((zY (q:=1) I I oM oM).cv (show _=vI (3) from I)) I (go2 ?_);refine wP (go2 ?_);refine gv (OpV.fa dC (yL (q:=3) I I)) I (qG ?_);refine lX (xB zO pH am) λap aa=>(zV (A:=[_]) (uB sizeOf53 pH az aa) λba ak=>(go3 ?_));refine xW (jA (t:=6) zO mh1 I ak) ?_;intro be aj O;refine yG (λE S=>zQ I aj E S) ?_;exact O
theorem zNV{k l:Nat}{va:Value}{a:Tq}(ra:(tPt k).Is h0 va a){vb:Value}{b:Tq}(rb:(tPt l).Is h0 vb b)(hcd0:k+l<=10000000000):
 Calls prog 116 #[va,vb,vF 179 []] w0 (Ret w0 h0 (λh r=>(tPt (k+l+1+1)).Is h r (T3.mk (a.x-b.x) (a.y-b.y) (a.z-b.z)))):=by
 refine cb3 24 va vb (vF 179 []) func116 hs ?_;refine go2 ?_;refine nB ra λb3 bl ae=>(nB rb λb4 bk ad=>(nA (ρ:=(tPt (k+l+1+1))) (X:=zT) yM (xE (yE oM)) λb6 bj az=>(go4 ?_)));refine nA (ρ:=(tPt (k+l+1+1))) (X:=zT) yM (xE (yE oM)) λb7 bi ay=>(go9 ?_);refine tP (go2 ?_);refine gv (OpV.tr dC (yL (q:=3) I I)) I (sN ?_);refine zK 10 _ [] (zai 0 8 [(8,.c),(9,.q),(10,.t)]) yC nX zot nX (λr hr=>hr) (go4 ?_);refine wX I (xB yI (y2e pH) ae) λax ao=>(go2 ?_);refine wX I (xB yI (y2e pH) ad) λau ak=>?_;refine w_c I (bJ (tR (vs:=[_,_]) call179 I e2z) I (λw hs=>bU hs ao ak oM) ?_);intro O h1 bh G
 change (rpQ (k+l+1)).Is h1 O (a.x-b.x) at G
 refine go1 ?_;refine yJ (A:=[]) I (uB sizeOf26 (y2e pH) ay (G.le (Le.q (l:=k+l+1+1) oM))) λbd ac=>(go4 ?_);refine gv ((zY (q:=1) I I oM oM).cv (show _=vI (1) from I)) I (go2 ?_);refine wP (go2 ?_);refine gv (OpV.tr dC (yL (q:=3) I I)) I (sN ?_);refine zK 10 _ [] (zai 0 8 [(8,.c),(9,.q),(10,.t)]) yC nX zot nX (λr hr=>hr) (go4 ?_);refine wX I (xB yI (y3i pH) ae) λaw an=>(go2 ?_);refine wX I (xB yI (y3i pH) ad) λar aj=>?_;refine w_c I (bJ (tR (vs:=[_,_]) call179 I e2z) I (λw hs=>bU hs an aj oM) ?_);intro M h2 bg D
 change (rpQ (k+l+1)).Is h2 M (a.y-b.y) at D
 refine go1 ?_;refine yJ (A:=[]) I (uB sizeOf26 (y3i pH) ac (D.le (Le.q (l:=k+l+1+1) oM))) λbc ab=>(go4 ?_);refine gv ((zY (q:=1) I I oM oM).cv (show _=vI (2) from I)) I (go2 ?_);refine wP (go2 ?_);refine gv (OpV.tr dC (yL (q:=3) I I)) I (sN ?_);refine zK 10 _ [] (zai 0 8 [(8,.c),(9,.q),(10,.t)]) yC nX zot nX (λr hr=>hr) (go4 ?_);refine wX I (xB yI (y3u pH) ae) λav am=>(go2 ?_);refine wX I (xB yI (y3u pH) ad) λaq ai=>?_;refine w_c I (bJ (tR (vs:=[_,_]) call179 I e2z) I (λw hs=>bU hs am ai oM) ?_);intro J h3 bf C
 change (rpQ (k+l+1)).Is h3 J (a.z-b.z) at C
 refine go1 ?_;refine yJ (A:=[]) I (uB sizeOf26 (y3u pH) ab (C.le (Le.q (l:=k+l+1+1) oM))) λbb aa=>(go4 ?_);refine gv ((zY (q:=1) I I oM oM).cv (show _=vI (3) from I)) I (go2 ?_);refine wP (go2 ?_);refine gv (OpV.fa dC (yL (q:=3) I I)) I (qG ?_);refine lX (xB zO pH aa) λap ah=>(zV (A:=[_]) (uB sizeOf53 pH az ah) λba Z=>(go3 ?_));refine xW (jA (t:=6) zO mh1 I Z) ?_;intro be H U;refine yG (λE S=>zQ I H E S) ?_;exact U
theorem zNW{k l:Nat}{va:Value}{a:Tq}(ra:(tPt k).Is h0 va a){vb:Value}{b:Tq}(rb:(tPt l).Is h0 vb b)(hcd0:k+l<=10000000000):
 Calls prog 116 #[va,vb,vF 76 []] w0 (Ret w0 h0 (λh r=>(tPt (k+l+1)).Is h r (T3.mk (a.x*b.x) (a.y*b.y) (a.z*b.z)))):=by
 refine cb3 24 va vb (vF 76 []) func116 hs ?_;refine go2 ?_;refine nB ra λb3 bl am=>(nB rb λb4 bk ak=>(nA (ρ:=(tPt (k+l+1))) (X:=zT) yM (xE (yE oM)) λb6 bj az=>(go4 ?_)));refine nA (ρ:=(tPt (k+l+1))) (X:=zT) yM (xE (yE oM)) λb7 bi ay=>(go9 ?_);refine tP (go2 ?_);refine gv (OpV.tr dC (yL (q:=3) I I)) I (sN ?_);refine zK 10 _ [] (zai 0 8 [(8,.c),(9,.q),(10,.t)]) yC nX zot nX (λr hr=>hr) (go4 ?_);refine wX I (xB yI (y2e pH) am) λax ao=>(go2 ?_);refine wX I (xB yI (y2e pH) ak) λaw an=>?_;refine w_c I (bJ (tR (vs:=[_,_]) call76 I e2z) I (λw hs=>kG hs ao an oM) ?_);intro ac h1 bh G
 change (rpQ (k+l)).Is h1 ac (a.x*b.x) at G
 refine go1 ?_;refine yJ (A:=[]) I (uB sizeOf26 (y2e pH) ay (G.le (Le.q (l:=k+l+1) oM))) λbd aj=>(go4 ?_);refine gv ((zY (q:=1) I I oM oM).cv (show _=vI (1) from I)) I (go2 ?_);refine wP (go2 ?_);refine gv (OpV.tr dC (yL (q:=3) I I)) I (sN ?_);refine zK 10 _ [] (zai 0 8 [(8,.c),(9,.q),(10,.t)]) yC nX zot nX (λr hr=>hr) (go4 ?_);refine wX I (xB yI (y3i pH) am) λav aa=>(go2 ?_);refine wX I (xB yI (y3i pH) ak) λar U=>?_;refine w_c I (bJ (tR (vs:=[_,_]) call76 I e2z) I (λw hs=>kG hs aa U oM) ?_);intro J h2 bg D
 change (rpQ (k+l)).Is h2 J (a.y*b.y) at D
 refine go1 ?_;refine yJ (A:=[]) I (uB sizeOf26 (y3i pH) aj (D.le (Le.q (l:=k+l+1) oM))) λbc ai=>(go4 ?_);refine gv ((zY (q:=1) I I oM oM).cv (show _=vI (2) from I)) I (go2 ?_);refine wP (go2 ?_);refine gv (OpV.tr dC (yL (q:=3) I I)) I (sN ?_);refine zK 10 _ [] (zai 0 8 [(8,.c),(9,.q),(10,.t)]) yC nX zot nX (λr hr=>hr) (go4 ?_);refine wX I (xB yI (y3u pH) am) λau Z=>(go2 ?_);refine wX I (xB yI (y3u pH) ak) λaq O=>?_;refine w_c I (bJ (tR (vs:=[_,_]) call76 I e2z) I (λw hs=>kG hs Z O oM) ?_);intro H h3 bf C
 change (rpQ (k+l)).Is h3 H (a.z*b.z) at C
 refine go1 ?_;refine yJ (A:=[]) I (uB sizeOf26 (y3u pH) ai (C.le (Le.q (l:=k+l+1) oM))) λbb ah=>(go4 ?_);refine gv ((zY (q:=1) I I oM oM).cv (show _=vI (3) from I)) I (go2 ?_);refine wP (go2 ?_);refine gv (OpV.fa dC (yL (q:=3) I I)) I (qG ?_);refine lX (xB zO pH ah) λap M=>(zV (A:=[_]) (uB sizeOf53 pH az M) λba ae=>(go3 ?_));refine xW (jA (t:=6) zO mh1 I ae) ?_;intro be ab ad;refine yG (λE S=>zQ I ab E S) ?_;exact ad
theorem zC5{k l:Nat}{va:Value}{a:Tq}(ra:(tPt k).Is h0 va a){vb:Value}{b:Tq}(rb:(tPt l).Is h0 vb b)(hcd0:k+l<=10000000000):
 Calls prog 71 #[va,vb] w0 (Ret w0 h0 (λh r=>(tPt (k+l+2)).Is h r (T3.mk (a.x+b.x) (a.y+b.y) (a.z+b.z)))):=by
 refine cb2 8 va vb func71 hs ?_;refine go2 ?_;refine nB ra λb2 ad M=>(nB rb λb3 ac J=>(nA (ρ:=(tPt (k+l+2))) (X:=zT) yM (xE (yE oM)) λb4 ab H=>(go4 ?_)));refine lX (xB zO pH M) λv5 r5=>(lX (xB zO pH J) λv6 r6=>(cL (ev3 I I I) call116 (λw hs=>zNX hs r5 r6 oM) λv7 h1 aa O=>?_));replace O:=Rp.Is.le O (Le.t (Le.q (l:=k+l+2) oM));refine zV (A:=[]) (uB sizeOf53 pH H O) λU G=>(go3 ?_);refine xW (jA (t:=4) zO mh0 I G) ?_;intro Z C D;refine yG (λE S=>zQ I C E S) ?_;exact D
theorem zPM{k l:Nat}{va:Value}{a:Tq}(ra:(tPt k).Is h0 va a){vb:Value}{b:Tq}(rb:(tPt l).Is h0 vb b)(hcd0:k+l<=10000000000):
 Calls prog 133 #[va,vb] w0 (Ret w0 h0 (λh r=>(tPt (k+l+2)).Is h r (T3.mk (a.x-b.x) (a.y-b.y) (a.z-b.z)))):=by
 refine cb2 8 va vb func133 hs ?_;refine go2 ?_;refine nB ra λb2 ad M=>(nB rb λb3 ac J=>(nA (ρ:=(tPt (k+l+2))) (X:=zT) yM (xE (yE oM)) λb4 ab H=>(go4 ?_)));refine lX (xB zO pH M) λv5 r5=>(lX (xB zO pH J) λv6 r6=>(cL (ev3 I I I) call116 (λw hs=>zNV hs r5 r6 oM) λv7 h1 aa O=>?_));replace O:=Rp.Is.le O (Le.t (Le.q (l:=k+l+2) oM));refine zV (A:=[]) (uB sizeOf53 pH H O) λU G=>(go3 ?_);refine xW (jA (t:=4) zO mh0 I G) ?_;intro Z C D;refine yG (λE S=>zQ I C E S) ?_;exact D
theorem zBO{l k:Nat}{vq:Value}{q:Rat}(rq:(rpQ l).Is h0 vq q){va:Value}{a:Tq}(ra:(tPt k).Is h0 va a)(hcd0:k+l<=1000000000):
 Calls prog 72 #[vq,va] w0 (Ret w0 h0 (λh r=>(tPt (k+l+2)).Is h r (T3.mk (q*a.x) (q*a.y) (q*a.z)))):=by
 refine cb2 11 vq va func72 hs ?_;refine go2 ?_;refine nB rq λb2 ae H=>(nB ra λb3 ad O=>(nA (ρ:=(tPt (k+l+2))) (X:=zT) yM (xE (yE oM)) λb4 ac M=>(go4 ?_)));refine lX (xB yI pH H) λv5 r5=>(lX (xB yI pH H) λv6 r6=>(lX (xB yI pH H) λv7 r7=>(lX (xV (ρ:=(tPt (l+1))) (wL (ps':=[(0,_),(1,_),(2,_)]) underlying53 yM I I sizeOf26 e6 I (xE (yE oM)) (zC I (y2e (y1u _)) (r5.le (Le.q (l:=l+1) oM)) (zC I (y3i (y1u _)) (r6.le (Le.q (l:=l+1) oM)) (zC I (y3u (y1u _)) (r7.le (Le.q (l:=l+1) oM)) zN))))) λv8 r8=>(lX (xB zO pH O) λv9 r9=>(cL (ev3 I I I) call116 (λw hs=>zNW hs r8 r9 oM) λaa h1 ab J=>?_)))));replace J:=Rp.Is.le J (Le.t (Le.q (l:=k+l+2) oM));refine zV (A:=[]) (uB sizeOf53 pH M J) λU G=>(go3 ?_);refine xW (jA (t:=4) zO mh0 I G) ?_;intro Z C D;refine yG (λE S=>zQ I C E S) ?_;exact D
theorem zPN{k l:Nat}{va:Value}{a:Tq}(ra:(tPt k).Is h0 va a){vb:Value}{b:Tq}(rb:(tPt l).Is h0 vb b)(hcd0:k+l<=1000000000):
 Calls prog 88 #[va,vb] w0 (Ret w0 h0 (λh r=>(rpQ (3*k+3*l+9)).Is h r (vZ a b))):=by
 refine cb2 21 va vb func88 hs ?_;refine go2 ?_;refine nB ra λb2 ce bc=>(nB rb λb3 cd bb=>(nA (ρ:=(rpQ (3*k+3*l+9))) (X:=(0:Rat)) yS (yE oM) λb4 cc bo=>(go4 ?_)));refine nA (ρ:=(rpQ 1)) (X:=(0:Rat)) yS (yE dC) λb5 cb bd=>(go9 ?_);refine tP (go2 ?_);refine gv (OpV.tr dC (yL (q:=3) I I)) I (sN ?_);refine zK 9 _ [] (zai 0 7 [(7,.c),(8,.c),(9,.t)]) yC nX zot nX (λr hr=>hr) (wX I (xB yI pH bd) λbn ar=>(go2 ?_));refine wX I (xB yI (y2e pH) bc) λbk ao=>(go2 ?_);refine wX I (xB yI (y2e pH) bb) λbh ak=>?_;refine w_c I (sC (ev2 I I) call76 (λw hs=>kG hs ao ak oM) λae h1 ca M=>?_)
 change (rpQ (k+l)).Is h1 ae (a.x*b.x) at M
 refine w_c I (sC (ev2 I I) call70 (λw hs=>rJ hs ar.up M oM) λab h2 bz G=>?_)
 change (rpQ (1+(k+l)+1)).Is h2 ab ((0:Rat)+(a.x*b.x)) at G
 replace G:=Rp.Is.le G (Le.q (l:=k+l+2) oM);have ax:=(Le.q (l:=k+l+2) oM).R bd;refine yJ (A:=[]) I (uB sizeOf26 pH ax G) λbs U=>(go4 ?_);refine gv ((zY (q:=1) I I oM oM).cv (show _=vI (1) from I)) I (go2 ?_);refine wP (go2 ?_);refine gv (OpV.tr dC (yL (q:=3) I I)) I (sN ?_);refine zK 9 _ [] (zai 0 7 [(7,.c),(8,.c),(9,.t)]) yC nX zot nX (λr hr=>hr) (wX I (xB yI pH U) λbm aq=>(go2 ?_));refine wX I (xB yI (y3i pH) bc) λbj an=>(go2 ?_);refine wX I (xB yI (y3i pH) bb) λbg aj=>?_;refine w_c I (sC (ev2 I I) call76 (λw hs=>kG hs an aj oM) λad h3 bx J=>?_)
 change (rpQ (k+l)).Is h3 ad (a.y*b.y) at J
 refine w_c I (sC (ev2 I I) call70 (λw hs=>rJ hs aq.up J oM) λaa h4 bw D=>?_)
 change (rpQ ((k+l+2)+(k+l)+1)).Is h4 aa (((0:Rat)+(a.x*b.x))+(a.y*b.y)) at D
 replace D:=Rp.Is.le D (Le.q (l:=2*k+2*l+3) oM);have aw:=(Le.q (l:=2*k+2*l+3) oM).R U;refine yJ (A:=[]) I (uB sizeOf26 pH aw D) λbr O=>(go4 ?_);refine gv ((zY (q:=1) I I oM oM).cv (show _=vI (2) from I)) I (go2 ?_);refine wP (go2 ?_);refine gv (OpV.tr dC (yL (q:=3) I I)) I (sN ?_);refine zK 9 _ [] (zai 0 7 [(7,.c),(8,.c),(9,.t)]) yC nX zot nX (λr hr=>hr) (wX I (xB yI pH O) λbl ap=>(go2 ?_));refine wX I (xB yI (y3u pH) bc) λbi am=>(go2 ?_);refine wX I (xB yI (y3u pH) bb) λbf ai=>?_;refine w_c I (sC (ev2 I I) call76 (λw hs=>kG hs am ai oM) λac h5 bv H=>?_)
 change (rpQ (k+l)).Is h5 ac (a.z*b.z) at H
 refine w_c I (sC (ev2 I I) call70 (λw hs=>rJ hs ap.up H oM) λZ h6 bu C=>?_)
 change (rpQ ((2*k+2*l+3)+(k+l)+1)).Is h6 Z ((((0:Rat)+(a.x*b.x))+(a.y*b.y))+(a.z*b.z)) at C
 replace C:=Rp.Is.le C (Le.q (l:=3*k+3*l+4) oM);have av:=(Le.q (l:=3*k+3*l+4) oM).R O;refine yJ (A:=[]) I (uB sizeOf26 pH av C) λbq ba=>(go4 ?_);refine gv ((zY (q:=1) I I oM oM).cv (show _=vI (3) from I)) I (go2 ?_);refine wP (go2 ?_);refine gv (OpV.fa dC (yL (q:=3) I I)) I (qG ?_);refine lX (xB yI pH ba) λbe ah=>(zV (A:=[_]) (uB sizeOf26 pH bo (ah.le (Le.q (l:=3*k+3*l+9) oM))) λbp az=>(go3 ?_));refine xW (jA (t:=4) yI mh1 I az) ?_;intro bt au ay;refine yG (λE S=>zQ I au E S) ?_;exact(Rp.Is.cast ay (by unfold vZ;grind))
theorem zGU{k l:Nat}{va:Value}{a:Tq}(ra:(tPt k).Is h0 va a){vb:Value}{b:Tq}(rb:(tPt l).Is h0 vb b)(hcd0:k+l<=1000000000):
 Calls prog 132 #[va,vb] w0 (Ret w0 h0 (λh r=>(tPt (2*k+2*l+3)).Is h r (uC a b))):=by
 refine cb2 37 va vb func132 hs ?_;refine go2 ?_;refine nB ra λb2 cq ab=>(nB rb λb3 cp aa=>(nA (ρ:=(tPt (2*k+2*l+3))) (X:=zT) yM (xE (yE oM)) λb4 co bx=>(go4 ?_)));refine nA (ρ:=(tPt (2*k+2*l+3))) (X:=zT) yM (xE (yE oM)) λb5 cn bw=>(go9 ?_);refine tP (go2 ?_);refine gv (OpV.tr dC (yL (q:=3) I I)) I (oO ?_);refine gv ((zY (q:=1) I I oM oM).cv (show _=vI (1) from I)) I (gv ((wO (q:=3) I I oM oM).cv (show _=vI (1) from I)) I (go1 ?_));refine gv ((zY (q:=2) I I oM oM).cv (show _=vI (2) from I)) I (gv ((wO (q:=3) I I oM oM).cv (show _=vI (2) from I)) I (go4 ?_));refine zK 17 _ [] (zai 0 7 (zai 8 6 [(7,.c),(14,.c),(15,.c),(16,.q),(17,.t)])) yC nX (wV zot) nX (λr hr=>hr) (go3 ?_);refine wX I (xB yI (y3i pH) ab) λbv bc=>(go2 ?_);refine wX I (xB yI (y3u pH) aa) λbs az=>(go2 ?_);refine wX I (xB yI (y3u pH) ab) λbp aw=>(go2 ?_);refine wX I (xB yI (y3i pH) aa) λbm ar=>?_;refine w_c I (sC (ev2 I I) call76 (λw hs=>kG hs bc az oM) λan h1 cm Z=>?_)
 change (rpQ (k+l)).Is h1 an (a.y*b.z) at Z
 refine w_c I (sC (ev2 I I) call76 (λw hs=>kG hs aw.up ar.up oM) λaj h2 cl M=>?_)
 change (rpQ (k+l)).Is h2 aj (a.z*b.y) at M
 refine w_c I (sC (ev2 I I) call179 (λw hs=>bU hs Z.up M oM) λae h3 ck G=>?_)
 change (rpQ ((k+l)+(k+l)+1)).Is h3 ae ((a.y*b.z)-(a.z*b.y)) at G
 replace G:=Rp.Is.le G (Le.q (l:=2*k+2*l+1) oM);refine go1 ?_;refine yJ (A:=[]) I (uB sizeOf26 (y2e pH) bw (G.le (Le.q (l:=2*k+2*l+3) oM))) λcc bi=>(go4 ?_);refine gv ((zY (q:=1) I I oM oM).cv (show _=vI (1) from I)) I (go2 ?_);refine wP (go2 ?_);refine gv (OpV.tr dC (yL (q:=3) I I)) I (oO ?_);refine gv ((zY (q:=1) I I oM oM).cv (show _=vI (2) from I)) I (gv ((wO (q:=3) I I oM oM).cv (show _=vI (2) from I)) I (go1 ?_));refine gv ((zY (q:=2) I I oM oM).cv (show _=vI (3) from I)) I (gv ((wO (q:=3) I I oM oM).cv (show _=vI (0) from I)) I (go4 ?_));refine zK 17 _ [] (zai 0 7 (zai 8 6 [(7,.c),(14,.c),(15,.c),(16,.q),(17,.t)])) yC nX (wV zot) nX (λr hr=>hr) (go3 ?_);refine wX I (xB yI (y3u pH) ab) λbu bb=>(go2 ?_);refine wX I (xB yI (y2e pH) aa) λbr ay=>(go2 ?_);refine wX I (xB yI (y2e pH) ab) λbo av=>(go2 ?_);refine wX I (xB yI (y3u pH) aa) λbl aq=>?_;refine w_c I (sC (ev2 I I) call76 (λw hs=>kG hs bb ay oM) λam h4 cj U=>?_)
 change (rpQ (k+l)).Is h4 am (a.z*b.x) at U
 refine w_c I (sC (ev2 I I) call76 (λw hs=>kG hs av.up aq.up oM) λai h5 ci J=>?_)
 change (rpQ (k+l)).Is h5 ai (a.x*b.z) at J
 refine w_c I (sC (ev2 I I) call179 (λw hs=>bU hs U.up J oM) λad h6 ch D=>?_)
 change (rpQ ((k+l)+(k+l)+1)).Is h6 ad ((a.z*b.x)-(a.x*b.z)) at D
 replace D:=Rp.Is.le D (Le.q (l:=2*k+2*l+1) oM);refine go1 ?_;refine yJ (A:=[]) I (uB sizeOf26 (y3i pH) bi (D.le (Le.q (l:=2*k+2*l+3) oM))) λcb bh=>(go4 ?_);refine gv ((zY (q:=1) I I oM oM).cv (show _=vI (2) from I)) I (go2 ?_);refine wP (go2 ?_);refine gv (OpV.tr dC (yL (q:=3) I I)) I (oO ?_);refine gv ((zY (q:=1) I I oM oM).cv (show _=vI (3) from I)) I (gv ((wO (q:=3) I I oM oM).cv (show _=vI (0) from I)) I (go1 ?_));refine gv ((zY (q:=2) I I oM oM).cv (show _=vI (4) from I)) I (gv ((wO (q:=3) I I oM oM).cv (show _=vI (1) from I)) I (go4 ?_));refine zK 17 _ [] (zai 0 7 (zai 8 6 [(7,.c),(14,.c),(15,.c),(16,.q),(17,.t)])) yC nX (wV zot) nX (λr hr=>hr) (go3 ?_);refine wX I (xB yI (y2e pH) ab) λbt ba=>(go2 ?_);refine wX I (xB yI (y3i pH) aa) λbq ax=>(go2 ?_);refine wX I (xB yI (y3i pH) ab) λbn au=>(go2 ?_);refine wX I (xB yI (y2e pH) aa) λbk ap=>?_;refine w_c I (sC (ev2 I I) call76 (λw hs=>kG hs ba ax oM) λak h7 cg O=>?_)
 change (rpQ (k+l)).Is h7 ak (a.x*b.y) at O
 refine w_c I (sC (ev2 I I) call76 (λw hs=>kG hs au.up ap.up oM) λah h8 cf H=>?_)
 change (rpQ (k+l)).Is h8 ah (a.y*b.x) at H
 refine w_c I (sC (ev2 I I) call179 (λw hs=>bU hs O.up H oM) λac h9 ce C=>?_)
 change (rpQ ((k+l)+(k+l)+1)).Is h9 ac ((a.x*b.y)-(a.y*b.x)) at C
 replace C:=Rp.Is.le C (Le.q (l:=2*k+2*l+1) oM);refine go1 ?_;refine yJ (A:=[]) I (uB sizeOf26 (y3u pH) bh (C.le (Le.q (l:=2*k+2*l+3) oM))) λca bg=>(go4 ?_);refine gv ((zY (q:=1) I I oM oM).cv (show _=vI (3) from I)) I (go2 ?_);refine wP (go2 ?_);refine gv (OpV.fa dC (yL (q:=3) I I)) I (qG ?_);refine lX (xB zO pH bg) λbj ao=>(zV (A:=[_]) (uB sizeOf53 pH bx ao) λbz bf=>(go3 ?_));refine xW (jA (t:=4) zO mh1 I bf) ?_;intro cd bd be;refine yG (λE S=>zQ I bd E S) ?_;exact be
end
end Go.Proofs.YtboaboflnckgoaaGreat
