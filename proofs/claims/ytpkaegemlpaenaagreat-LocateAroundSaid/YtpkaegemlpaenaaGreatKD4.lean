/- Texts that the proof needs, part 4. -/
import Derived.Test.YtpkaegemlpaenaaGreatKD3
set_option linter.unusedVariables false
set_option linter.unusedSimpArgs false
noncomputable section
set_option maxRecDepth 10000
set_option maxHeartbeats 1000000
namespace Go.Proofs.YtpkaegemlpaenaaGreat
open Bk Go Tryz
attribute [local irreducible] GL GC GQ W OpV
section
variable{w0:World}{h0:Mem}(hs:MLe h0 (mem w0))
include hs
theorem pQ{s:Prop}{vn vd:Value}{xs ys:List Nat}(hn:Us .u32 h0 vn xs)(hd:Us .u32 h0 vd ys)(hl:xs.length<=500000000000)(hl':ys.length<=500000000000)(hd0:val ys≠0):
 Calls prog 82 #[vB s,vn,vd] w0 (Ret w0 h0 (λh r=>vQ h r (mkRat (sg s (val xs)) (val ys)))):=by
 have bd:=qA hn.lt;have bc:=qA hd.lt;refine cb3 55 (vB s) vn vd func82 hs ?_;refine go2 ?_;refine zH (uJ (cs:=[vB ((0:Rat).num<0),.slice none 0 0,.slice none 0 0]) wD I (by simp only[zb];rfl)) I I I ?_;intro v6 r6 ap;obtain⟨b6,rfl,rfl⟩:=ap;refine go5 ?_;refine cL (ev1 I) call92 (λw hs=>tR hs hn oM) λv9 h1 aw D=>(go1 ?_);replace hd:=hd.mono aw;refine cL (ev1 I) call92 (λw hs=>tR hs hd oM) λaj h2 av H=>?_;replace D:=D.mono av;refine zL7 (λao=>?_) λao=>?_
 ·
  refine go2 ?_;refine gv (wJ (ps':=[]) (vs:=[vB ((0:Rat).num<0),.slice none 0 0,.slice none 0 0]) underlying29 wD I (qH underlying29) trivial (by simp only[zb];exact kA)) I (wR (A:=[]) (r':=.var b6 29 [vB ((0:Rat).num<0),.slice none 0 0,.slice none 0 0]) (zO (k:=0) (cs:=[_,_,_]) (vs:=[_,_,_]) I I I I yG (bL I)) I I I (go4 ?_));refine xC (λE S=>yB I (wV (cs:=[_,_,_]) mh0 underlying29 I yG I) E S) ?_;have e:val xs=0:=zdu λe=>by have:=yR.2 e;omega
  rw[e,zBU];exact vQ.zero _
 have ae:val xs≠0:=yR.1 oM;have be:Nat.gcd (val xs) (val ys)≠0:=ype (ygu _ oM);refine go6 ?_;refine cL (ev2 I I) call126 (λw hs=>yEF hs D H oM oM) λaz h3 ab O=>?_;have au:=t6 ((val (xs))) ((val (ys)));refine go9 ?_;refine gU 6 27 (vB (((↑(zB (Nat.gcd ((val (xs))) ((val (ys))))).length:Int)≠(1:Int))\/(((zB (Nat.gcd ((val (xs))) ((val (ys))))).getD (0) 0)≠(1:Nat)))) ?_ ?_
 ·
  refine zY ((↑(zB (Nat.gcd ((val (xs))) ((val (ys))))).length:Int)≠(1:Int)) (λU=>?_) (λU=>?_)
  ·
   refine gT U I (go6 ?_);refine gqU ?_;exact y3u (vV U)
  refine gF U I (go3 ?_);refine gv (zW (q:=0) (0) underlying27 sizeOf124 I I O I oM) I (go3 ?_);refine gv (tS (k:=.u32) (q:=1) I I) I (go2 ?_);refine gqU ?_;exact y3u (vW U)
 refine gc2 (λac=>?_) λac=>?_
 ·
  refine go4 ?_;replace D:=D.mono ab;refine cL (ev2 I I) call127 (λw hs=>zKV hs D O oM oM) λay h4 an ai=>?_;obtain⟨ad,bb,rfl,J,ai⟩:=ai;have ar:=yL (zse ((val (xs))) ((Nat.gcd ((val (xs))) ((val (ys))))));refine uQ ?_;replace H:=H.mono (ab.trans an);replace O:=O.mono an;refine cL (ev2 I I) call127 (λw hs=>zKV hs H O oM oM) λax h5 am ah=>?_;obtain⟨ak,ba,rfl,Z,ah⟩:=ah;have aq:=yL (zse ((val (ys))) ((Nat.gcd ((val (xs))) ((val (ys))))));refine pL ?_;refine gU 6 50 (vB (((↑(zB (((val (ys)))/((Nat.gcd ((val (xs))) ((val (ys))))))).length:Int)=(1:Int))/\(((zB (((val (ys)))/((Nat.gcd ((val (xs))) ((val (ys))))))).getD (0) 0)=(1:Nat)))) ?_ ?_
  ·
   refine zY ((↑(zB (((val (ys)))/((Nat.gcd ((val (xs))) ((val (ys))))))).length:Int)=(1:Int)) (λU=>?_) (λU=>?_)
   ·
    refine gT U I (go3 ?_);refine gv (zW (q:=0) (0) underlying27 sizeOf124 I I Z I oM) I (go3 ?_);refine gv (fV (k:=.u32) (q:=1) I I) I (go2 ?_);refine gqU ?_;exact y3u (xL U)
   refine gF U I (go6 ?_);refine gqU ?_;exact y3u (xM U)
  refine gc2 (λM=>?_) λM=>?_
  ·
   refine go9 ?_;replace J:=J.mono am;refine gv (wJ (ps':=[(0,_),(1,_),(2,_)]) (vs:=[vB s,ad,.slice none 0 0]) underlying29 wD I (qH underlying29) e6z (vO (A:=[]) (B:=[_]) (C:=[_,_]) (cs:=[_]) (off:=0) (size:=1) I I I I I (vO (A:=[_]) (B:=[_]) (C:=[_]) (cs:=[_]) (off:=1) (size:=1) I I I I J.cells (vO (A:=[_,_]) (B:=[_]) (C:=[]) (cs:=[_]) (off:=2) (size:=1) I I I I I kA)))) I (wR (A:=[]) (r':=.var b6 29 [vB s,ad,.slice none 0 0]) (zO (k:=0) (cs:=[_,_,_]) (vs:=[_,_,_]) I I I (ocr I (ocu J (ocr I oc0))) yG (bL I)) I I I (go3 ?_));refine xC (λE S=>yB I (wV (cs:=[_,_,_]) mh0 underlying29 I yG I) E S) ?_;exact vQ.fin1 ae hd0 J M
  refine go7 ?_;replace J:=J.mono am;refine gv (wJ (ps':=[(0,_),(1,_),(2,_)]) (vs:=[vB s,ad,ak]) underlying29 wD I (qH underlying29) e6z (vO (A:=[]) (B:=[_]) (C:=[_,_]) (cs:=[_]) (off:=0) (size:=1) I I I I I (vO (A:=[_]) (B:=[_]) (C:=[_]) (cs:=[_]) (off:=1) (size:=1) I I I I J.cells (vO (A:=[_,_]) (B:=[_]) (C:=[]) (cs:=[_]) (off:=2) (size:=1) I I I I Z.cells kA)))) I (wR (A:=[]) (r':=.var b6 29 [vB s,ad,ak]) (zO (k:=0) (cs:=[_,_,_]) (vs:=[_,_,_]) I I I (ocr I (ocu J (ocu Z oc0))) yG (bL I)) I I I (go3 ?_));refine xC (λE S=>yB I (wV (cs:=[_,_,_]) mh0 underlying29 I yG I) E S) ?_;exact vQ.fin ae hd0 J Z M
 replace H:=H.mono ab;refine go8 ?_;refine gU 6 50 (vB (((↑(zB (val (ys))).length:Int)=(1:Int))/\(((zB (val (ys))).getD (0) 0)=(1:Nat)))) ?_ ?_
 ·
  refine zY ((↑(zB (val (ys))).length:Int)=(1:Int)) (λU=>?_) (λU=>?_)
  ·
   refine gT U I (go3 ?_);refine gv (zW (q:=0) (0) underlying27 sizeOf124 I I H I oM) I (go3 ?_);refine gv (fV (k:=.u32) (q:=1) I I) I (go2 ?_);refine gqU ?_;exact y3u (xL U)
  refine gF U I (go6 ?_);refine gqU ?_;exact y3u (xM U)
 refine gc2 (λM=>?_) λM=>?_
 ·
  refine go9 ?_;replace D:=D.mono ab;refine gv (wJ (ps':=[(0,_),(1,_),(2,_)]) (vs:=[vB s,v9,.slice none 0 0]) underlying29 wD I (qH underlying29) e6z (vO (A:=[]) (B:=[_]) (C:=[_,_]) (cs:=[_]) (off:=0) (size:=1) I I I I I (vO (A:=[_]) (B:=[_]) (C:=[_]) (cs:=[_]) (off:=1) (size:=1) I I I I D.cells (vO (A:=[_,_]) (B:=[_]) (C:=[]) (cs:=[_]) (off:=2) (size:=1) I I I I I kA)))) I (wR (A:=[]) (r':=.var b6 29 [vB s,v9,.slice none 0 0]) (zO (k:=0) (cs:=[_,_,_]) (vs:=[_,_,_]) I I I (ocr I (ocu D (ocr I oc0))) yG (bL I)) I I I (go3 ?_));refine xC (λE S=>yB I (wV (cs:=[_,_,_]) mh0 underlying29 I yG I) E S) ?_;have aa:=zHI ac;exact vQ.fin1 ae hd0 (by rw[aa,z4i];exact D) (by rw[aa,z4i];exact M)
 refine go7 ?_;replace D:=D.mono ab;refine gv (wJ (ps':=[(0,_),(1,_),(2,_)]) (vs:=[vB s,v9,aj]) underlying29 wD I (qH underlying29) e6z (vO (A:=[]) (B:=[_]) (C:=[_,_]) (cs:=[_]) (off:=0) (size:=1) I I I I I (vO (A:=[_]) (B:=[_]) (C:=[_]) (cs:=[_]) (off:=1) (size:=1) I I I I D.cells (vO (A:=[_,_]) (B:=[_]) (C:=[]) (cs:=[_]) (off:=2) (size:=1) I I I I H.cells kA)))) I (wR (A:=[]) (r':=.var b6 29 [vB s,v9,aj]) (zO (k:=0) (cs:=[_,_,_]) (vs:=[_,_,_]) I I I (ocr I (ocu D (ocu H oc0))) yG (bL I)) I I I (go3 ?_));refine xC (λE S=>yB I (wV (cs:=[_,_,_]) mh0 underlying29 I yG I) E S) ?_;have aa:=zHI ac;exact vQ.fin ae hd0 (by rw[aa,z4i];exact D) (by rw[aa,z4i];exact H) (by rw[aa,z4i];exact M)
theorem zCY{n:Int}(hn1:-9223372036854775808<=n)(hn2:n<9223372036854775808):
 Calls prog 61 #[vI n] w0 (Ret w0 h0 (λh r=>∃u,r=.tuple #[u,vB (n<0)]/\Us .u32 h u (zB n.natAbs))):=by
 refine cb1 15 (vI n) func61 hs ?_;refine pL ?_;refine cnd (λC=>?_) λC=>?_
 ·
  refine go4 ?_;refine gv (lK I oM oM) I (gv (zAE (p:=(-(n+1)).toNat) (k':=.u64) (W:=18446744073709551616) underlying2 underlying125 I I (y3u (zbi vI oM)) oM) I (gv (sK (k:=.u64) (q:=1) (W:=18446744073709551616) I I I I oM) I (cL (ev1 I) call96 (λw hs=>zAB hs oM) λO h1 J H=>(go6 ?_))));refine wU I I I ?_;rw[wA C,show n.natAbs=(-(n+1)).toNat+1 by omega];exact⟨_,I,H⟩
 refine go5 ?_;refine gv (zAE (p:=n.toNat) (k':=.u64) (W:=18446744073709551616) underlying2 underlying125 I I (y3u (zbi vI oM)) oM) I (cL (ev1 I) call96 (λw hs=>zAB hs oM) λM h1 J D=>(go5 ?_));refine wU I I I ?_;rw[yN C,show n.natAbs=n.toNat by omega];exact⟨_,I,D⟩
theorem zU6{n:Int}(hn1:-9223372036854775808<=n)(hn2:n<9223372036854775808){d:Int}(hd1:-9223372036854775808<=d)(hd2:d<9223372036854775808):
 Calls prog 54 #[vI n,vI d] w0 (Ret w0 h0 (λh r=>∃u,r=.tuple #[u,vI (if d=0 then 3 else 0)]/\vQ h u (jP n d))):=by
 refine cb2 29 (vI n) (vI d) func54 hs ?_;refine go2 ?_;refine zH (uJ (cs:=[vB ((0:Rat).num<0),.slice none 0 0,.slice none 0 0]) wD I (by simp only[zb];rfl)) I I I ?_;intro v4 r4 ac;obtain⟨b4,rfl,rfl⟩:=ac;refine zDP (λC=>?_) λC=>?_
 ·
  refine go2 ?_;refine gv (wJ (ps':=[]) (vs:=[vB ((0:Rat).num<0),.slice none 0 0,.slice none 0 0]) underlying29 wD I (qH underlying29) trivial (by simp only[zb];exact kA)) I (wR (A:=[]) (r':=.var b4 29 [vB ((0:Rat).num<0),.slice none 0 0,.slice none 0 0]) (zO (k:=0) (cs:=[_,_,_]) (vs:=[_,_,_]) I I I I yG (bL I)) I I I (go5 ?_));refine xC (λE S=>jW I (wV (cs:=[_,_,_]) mh0 underlying29 I yG I) (tH I) E S) ?_;rw[zau C,C,zG4];exact⟨_,I,vQ.zero _⟩
 have aq:d.natAbs≠0:=by omega
 refine go5 ?_;refine cL (ev1 I) call61 (λw hs=>zCY hs oM oM) λak h1 ap ab=>?_;obtain⟨an,rfl,D⟩:=ab;have ae:=fH (n:=n) oM oM;refine uQ ?_;refine cL (ev1 I) call61 (λw hs=>zCY hs oM oM) λaj h2 ah aa=>?_;obtain⟨am,rfl,Z⟩:=aa;have ad:=fH (n:=d) oM oM;refine qK ?_;refine gv (tT underlying4 I I) I (go2 ?_);replace D:=D.mono ah;refine cL (ev3 I I I) call82 (λw hs=>pQ hs D Z oM oM (by first|(simp only[zE];omega)|(simp only[zE];first|exact z0i _|exact z5i (z0i _) (z0i _)|exact yii|assumption)|assumption)) λai h3 ao H=>?_
 try simp only[zE] at H
 obtain⟨O,U,rfl,J,M⟩:=H;refine wR (A:=[]) (r':=.var b4 29 [vB ((mkRat (sg (¬((n<0)↔(d<0))) (((n).natAbs))) (((d).natAbs))).num<0),O,U]) (zO (k:=0) (cs:=[_,_,_]) (vs:=[_,_,_]) I I I (ocr I (ocu J (ocu M oc0))) yG (bL I)) I I I (go4 ?_);refine xC (λE S=>jW I (wV (cs:=[_,_,_]) mh0 underlying29 I yG I) (tH I) E S) ?_;rw[zae C,<-zOH C];exact⟨_,I,_,_,I,J,M⟩
theorem zNG{n:Int}(hn1:-9223372036854775808<=n)(hn2:n<9223372036854775808):
 Calls prog 27 #[vI n] w0 (Ret w0 h0 (λh r=>vQ h r (n:Rat))):=by
 refine cb1 13 (vI n) func27 hs ?_;refine go2 ?_;refine zH (uJ (cs:=[vB ((0:Rat).num<0),.slice none 0 0,.slice none 0 0]) wD I (by simp only[zb];rfl)) I I I ?_;intro v2 r2 J;obtain⟨Z,rfl,rfl⟩:=J;refine go5 ?_;refine cL (ev1 I) call61 (λw hs=>zCY hs oM oM) λv7 h1 U H=>?_;obtain⟨M,rfl,D⟩:=H;have O:=fH (n:=n) oM oM;refine qK ?_;refine gv (wJ (ps':=[(0,_),(1,_)]) (vs:=[vB (n<0),M,.slice none 0 0]) underlying29 wD I (qH underlying29) e4z (vO (A:=[]) (B:=[_]) (C:=[_,_]) (cs:=[_]) (off:=0) (size:=1) I I I I I (vO (A:=[_]) (B:=[_]) (C:=[_]) (cs:=[_]) (off:=1) (size:=1) I I I I D.cells kA))) I (wR (A:=[]) (r':=.var Z 29 [vB (n<0),M,.slice none 0 0]) (zO (k:=0) (cs:=[_,_,_]) (vs:=[_,_,_]) I I I (ocr I (ocu D (ocr I oc0))) yG (bL I)) I I I (go3 ?_));refine xC (λE S=>yB I (wV (cs:=[_,_,_]) mh0 underlying29 I yG I) E S) ?_;exact vQ.int D
theorem zC0{n:Int}(hn1:-9223372036854775808<=n)(hn2:n<9223372036854775808){d:Int}(hd1:-9223372036854775808<=d)(hd2:d<9223372036854775808):
 Calls prog 21 #[vI n,vI d] w0 (Ret w0 h0 (λh r=>vQ h r (jP n d))):=by
 refine cb2 14 (vI n) (vI d) func21 hs ?_;refine go2 ?_;refine zH (uJ (cs:=[vB ((0:Rat).num<0),.slice none 0 0,.slice none 0 0]) wD I (by simp only[zb];rfl)) I I I ?_;intro v4 r4 U;obtain⟨b4,rfl,rfl⟩:=U;refine go6 ?_;refine cL (ev2 I I) call54 (λw hs=>zU6 hs oM oM oM oM) λaa h1 ab M=>?_;obtain⟨_,rfl,H,J,rfl,C,D⟩:=M;have Z:=zBZ (n:=n) (d:=d) oM oM oM oM;refine go3 ?_;refine zH (uJ (cs:=[vB ((0:Rat).num<0),.slice none 0 0,.slice none 0 0]) wD I (by simp only[zb];rfl)) I I I ?_;intro v5 r5 O;obtain⟨b5,rfl,rfl⟩:=O;refine wR (A:=[]) (r':=.var b5 29 [vB ((jP n d).num<0),H,J]) (zO (k:=0) (cs:=[_,_,_]) (vs:=[_,_,_]) I I I (ocr I (ocu C (ocu D oc0))) yG (bL I)) I I I (go6 ?_);refine wR (A:=[_]) (r':=.var b4 29 [vB ((jP n d).num<0),H,J]) (zO (k:=0) (cs:=[_,_,_]) (vs:=[_,_,_]) I I I (ocr I (ocu C (ocu D oc0))) yG (bL I)) I I I (go3 ?_);refine xC (λE S=>yB I (wV (cs:=[_,_,_]) mh1 underlying29 I yG I) E S) ?_;exact⟨_,_,I,C,D⟩
theorem zU5{qa:Rat}{vna vda:Value}(hna:Us .u32 h0 vna (zB qa.num.natAbs))(hda:Us .u32 h0 vda (zB (wW qa.den))){qb:Rat}{vnb vdb:Value}(hnb:Us .u32 h0 vnb (zB qb.num.natAbs))(hdb:Us .u32 h0 vdb (zB (wW qb.den)))(hqa:lq qa<=100000000000)(hqb:lq qb<=100000000000):
 Calls prog 73 #[.agg #[vB (qa.num<0),vna,vda],.agg #[vB (qb.num<0),vnb,vdb]] w0 (Ret w0 h0 (λ_ r=>r=vB (qa=qb))):=by
 have ae:=uK qa;have ai:=uH qa;have ak:=uF qa;have ad:=uK qb;have ah:=uH qb;have aj:=uF qb;refine cb2 26 (.agg #[vB (qa.num<0),vna,vda]) (.agg #[vB (qb.num<0),vnb,vdb]) func73 hs ?_;refine go2 ?_;refine zH (vH (cs:=[_,_,_]) I I) I I I ?_;intro v2 r2 ac;obtain⟨b2,rfl,rfl⟩:=ac;refine zH (vH (cs:=[_,_,_]) I I) I I I ?_;intro v3 r3 ab;obtain⟨b3,rfl,rfl⟩:=ab;refine go9 ?_;refine gv (lL underlying4 I I) I ?_;refine qE (ι:=Mem) 8 (λJ=>MLe h0 J) (λ_=>[(17,vB (((qa.num<0)↔(qb.num<0))/\((pO (qa.num.natAbs) (qb.num.natAbs))=(0:Int)))),(2,vP b2 0),(3,vP b3 0)]) (λ_=>[.var b3 29 [vB (qb.num<0),vnb,vdb],.var b2 29 [vB (qa.num<0),vna,vda]]) (λJ=>J) ?_ ?_
 ·
  refine zY ((qa.num<0)↔(qb.num<0)) (λH=>?_) (λH=>?_)
  ·
   refine gT H I (go9 ?_);refine cL (ev2 I I) call49 (λw hs=>oS hs hna hnb) λan h1 M Z=>?_;subst Z;refine go4 ?_;refine zV h1 M ⟨?_,I,I,y3e⟩ I I;exact y3u (xL H)
  refine gF H I (go8 ?_);refine zV h0 (MLe.refl _) ⟨?_,I,I,y3e⟩ I I;exact y3u (xM H)
 intro D C;refine sN ?_;refine qE (ι:=Mem) 8 (λJ=>MLe D J) (λ_=>[(25,vB ((((qa.num<0)↔(qb.num<0))/\((pO (qa.num.natAbs) (qb.num.natAbs))=(0:Int)))/\((pO ((wW qa.den)) ((wW qb.den)))=(0:Int))))]) (λ_=>[.var b3 29 [vB (qb.num<0),vnb,vdb],.var b2 29 [vB (qa.num<0),vna,vda]]) (λJ=>J) ?_ ?_
 ·
  refine zY (((qa.num<0)↔(qb.num<0))/\((pO (qa.num.natAbs) (qb.num.natAbs))=(0:Int))) (λH=>?_) (λH=>?_)
  ·
   refine gT H I (go9 ?_);replace hda:=hda.mono C;replace hdb:=hdb.mono C;refine cL (ev2 I I) call49 (λw hs=>oS hs hda hdb) λam h1 M U=>?_;subst U;refine go4 ?_;refine zV h1 M ⟨?_,y3e⟩ I I;exact y3u (xL H)
  refine gF H I (go8 ?_);refine zV D (MLe.refl _) ⟨?_,y3e⟩ I I;exact y3u (xM H)
 intro aa O;refine sN ?_;refine go4 ?_;refine zC I I ?_;exact kO yCA
theorem zCZ{qa:Rat}{vna vda:Value}(hna:Us .u32 h0 vna (zB qa.num.natAbs))(hda:Us .u32 h0 vda (zB (wW qa.den)))(hqa:lq qa<=100000000000):
 Calls prog 48 #[.agg #[vB (qa.num<0),vna,vda]] w0 (Ret w0 h0 (λ_ r=>r=vI (yX qa))):=by
 have J:=uK qa;have M:=uH qa;have O:=uF qa;refine cb1 9 (.agg #[vB (qa.num<0),vna,vda]) func48 hs ?_;refine go2 ?_;refine zH (vH (cs:=[_,_,_]) I I) I I I ?_;intro v1 r1 H;obtain⟨U,rfl,rfl⟩:=H;refine zL7 (λD=>?_) λD=>?_
 ·
  refine go7 ?_;refine zC I I ?_;rw[aS (aA D)]
 refine gc9 (λC=>?_) λC=>?_
 ·
  refine go7 ?_;refine zC I I ?_;rw[zA9 C]
 refine go8 ?_;refine zC I I ?_;rw[zA8 (zGR D) C]
theorem zNE{qa:Rat}{vna vda:Value}(hna:Us .u32 h0 vna (zB qa.num.natAbs))(hda:Us .u32 h0 vda (zB (wW qa.den)))(hqa:lq qa<=100000000000):
 Calls prog 87 #[.agg #[vB (qa.num<0),vna,vda]] w0 (Ret w0 h0 (λh r=>vQ h r (-qa))):=by
 have J:=uK qa;have M:=uH qa;have O:=uF qa;refine cb1 14 (.agg #[vB (qa.num<0),vna,vda]) func87 hs ?_;refine go2 ?_;refine zH (vH (cs:=[_,_,_]) I I) I I I ?_;intro v1 r1 H;obtain⟨Z,rfl,rfl⟩:=H;refine zH (uJ (cs:=[vB ((0:Rat).num<0),.slice none 0 0,.slice none 0 0]) wD I (by simp only[zb];rfl)) I I I ?_;intro v2 r2 D;obtain⟨U,rfl,rfl⟩:=D;refine go7 ?_;refine gU 6 11 (vB ((¬(qa.num<0))/\((0:Int)<(↑(zB qa.num.natAbs).length:Int)))) ?_ ?_
 ·
  refine zY (¬(qa.num<0)) (λC=>?_) (λC=>?_)
  ·
   refine gT C I (uQ ?_);refine gqU ?_;exact y3u (xL C)
  refine gF C I (go6 ?_);refine gqU ?_;exact y3u (xM C)
 refine go1 ?_;refine wR (A:=[_]) (r':=.var Z 29 [vB ((¬(qa.num<0))/\((0:Int)<(↑(zB qa.num.natAbs).length:Int))),vna,vda]) (zO (k:=0) (cs:=[_,_,_]) (vs:=[_]) I I I I zX0 (bL I)) I I I (go5 ?_);refine wR (A:=[]) (r':=.var U 29 [vB ((¬(qa.num<0))/\((0:Int)<(↑(zB qa.num.natAbs).length:Int))),vna,vda]) (zO (k:=0) (cs:=[_,_,_]) (vs:=[_,_,_]) I I I (ocr I (ocu hna (ocu hda oc0))) yG (bL I)) I I I (go3 ?_);refine xC (λE S=>yB I (wV (cs:=[_,_,_]) mh0 underlying29 I yG I) E S) ?_;exact vQ.negB hna hda
theorem zYJ{qa:Rat}{vna vda:Value}(hna:Us .u32 h0 vna (zB qa.num.natAbs))(hda:Us .u32 h0 vda (zB (wW qa.den)))(hqa:lq qa<=100000000000):
 Calls prog 103 #[.agg #[vB (qa.num<0),vna,vda]] w0 (Ret w0 h0 (λh r=>vQ h r (dS qa))):=by
 have H:=uK qa;have J:=uH qa;have M:=uF qa;refine cb1 5 (.agg #[vB (qa.num<0),vna,vda]) func103 hs ?_;refine go2 ?_;refine zH (vH (cs:=[_,_,_]) I I) I I I ?_;intro v1 r1 D;obtain⟨U,rfl,rfl⟩:=D;refine zH (uJ (cs:=[vB ((0:Rat).num<0),.slice none 0 0,.slice none 0 0]) wD I (by simp only[zb];rfl)) I I I ?_;intro v2 r2 C;obtain⟨O,rfl,rfl⟩:=C;refine go5 ?_;refine wR (A:=[_]) (r':=.var U 29 [.bool false,vna,vda]) (zO (k:=0) (cs:=[_,_,_]) (vs:=[_]) I I I I zX0 (bL I)) I I I (go5 ?_);refine wR (A:=[]) (r':=.var O 29 [.bool false,vna,vda]) (zO (k:=0) (cs:=[_,_,_]) (vs:=[_,_,_]) I I I (ocr I (ocu hna (ocu hda oc0))) yG (bL I)) I I I (go3 ?_);refine xC (λE S=>yB I (wV (cs:=[_,_,_]) mh0 underlying29 I yG I) E S) ?_;exact vQ.abs hna hda
theorem zFZ{qa:Rat}{vna vda:Value}(hna:Us .u32 h0 vna (zB qa.num.natAbs))(hda:Us .u32 h0 vda (zB (wW qa.den))){qb:Rat}{vnb vdb:Value}(hnb:Us .u32 h0 vnb (zB qb.num.natAbs))(hdb:Us .u32 h0 vdb (zB (wW qb.den)))(hqa:lq qa<=100000000000)(hqb:lq qb<=100000000000):
 Calls prog 45 #[.agg #[vB (qa.num<0),vna,vda],.agg #[vB (qb.num<0),vnb,vdb]] w0 (Ret w0 h0 (λh r=>vQ h r (qa+qb))):=by
 have bz:=uK qa;have cb:=uH qa;have cd:=uF qa;have bx:=uK qb;have ca:=uH qb;have cc:=uF qb;refine cb2 75 (.agg #[vB (qa.num<0),vna,vda]) (.agg #[vB (qb.num<0),vnb,vdb]) func45 hs ?_;refine go2 ?_;refine zH (vH (cs:=[_,_,_]) I I) I I I ?_;intro v2 r2 bp;obtain⟨b2,rfl,rfl⟩:=bp;refine zH (vH (cs:=[_,_,_]) I I) I I I ?_;intro v3 r3 bo;obtain⟨b3,rfl,rfl⟩:=bo;refine zH (uJ (cs:=[vB ((0:Rat).num<0),.slice none 0 0,.slice none 0 0]) wD I (by simp only[zb];rfl)) I I I ?_;intro v4 r4 bn;obtain⟨b4,rfl,rfl⟩:=bn;refine zDO (λaz=>?_) λaz=>?_
 ·
  refine go3 ?_;refine wR (A:=[]) (r':=.var b4 29 [vB (qb.num<0),vnb,vdb]) (zO (k:=0) (cs:=[_,_,_]) (vs:=[_,_,_]) I I I (ocr I (ocu hnb (ocu hdb oc0))) yG (bL I)) I I I (go4 ?_);refine xC (λE S=>yB I (wV (cs:=[_,_,_]) mh0 underlying29 I yG I) E S) ?_;rw[aA az,Rat.zero_add];exact⟨_,_,I,hnb,hdb⟩
 refine zDO (λay=>?_) λay=>?_
 ·
  refine go3 ?_;refine wR (A:=[]) (r':=.var b4 29 [vB (qa.num<0),vna,vda]) (zO (k:=0) (cs:=[_,_,_]) (vs:=[_,_,_]) I I I (ocr I (ocu hna (ocu hda oc0))) yG (bL I)) I I I (go4 ?_);refine xC (λE S=>yB I (wV (cs:=[_,_,_]) mh0 underlying29 I yG I) E S) ?_;rw[aA ay,Rat.add_zero];exact⟨_,_,I,hna,hda⟩
 refine go3 ?_;refine zL 12 _ [] [(0,.q),(1,.q),(2,.q),(5,.q),(6,.q),(7,.q),(3,.c),(4,.c),(8,.c),(9,.c),(10,.q),(11,.q)] yF nX zou nX (λr hr=>hr) (go6 ?_);refine w_c I (sC (ev1 I) call51 (λw hs=>rI hs I hnb hdb) λct h1 ap ax=>?_);rw[qC] at ax;refine w_c I ?_;replace hna:=hna.mono ap;refine sC (ev2 I I) call50 (λw hs=>bK hs hna ax oM oM) λcq h2 ao D=>?_
 try simp only[zE] at D
 have bv:=yQ ((qa.num.natAbs)) ((qb.den));refine w_c I ?_;replace hna:=hna.mono ao;replace hda:=hda.mono (ap.trans ao);refine sC (ev1 I) call51 (λw hs=>rI hs I hna hda) λcp h3 aa aw=>?_;rw[qC] at aw;refine w_c I ?_;replace hnb:=hnb.mono ((ap.trans ao).trans aa);refine sC (ev2 I I) call50 (λw hs=>bK hs hnb aw oM oM) λco h4 Z C=>?_
 try simp only[zE] at C
 have bu:=yQ ((qb.num.natAbs)) ((qa.den));refine go5 ?_;refine zL 6 _ [] [(0,.q),(2,.q),(1,.c),(3,.c),(4,.c),(5,.q)] yF nX zou nX (λr hr=>hr) (go2 ?_);refine w_c I ?_;replace hna:=hna.mono (aa.trans Z);replace hda:=hda.mono (aa.trans Z);refine sC (ev1 I) call51 (λw hs=>rI hs I hna hda) λcn h5 U M=>?_;rw[qC] at M;refine w_c I ?_;replace hnb:=hnb.mono (Z.trans U);replace hdb:=hdb.mono ((((ap.trans ao).trans aa).trans Z).trans U);refine sC (ev1 I) call51 (λw hs=>rI hs I hnb hdb) λcm h6 ae av=>?_;rw[qC] at av;refine w_c I ?_;replace M:=M.mono ae;refine sC (ev2 I I) call50 (λw hs=>bK hs M av oM oM) λcl h7 an H=>?_
 try simp only[zE] at H
 have bt:=yQ ((qa.den)) ((qb.den));refine uQ ?_;refine gv (lL underlying4 I I) I (gc2 (λO=>?_) λO=>?_)
 ·
  refine go1 ?_;refine zL 7 _ [] (zai 0 4 [(5,.q),(4,.c),(6,.c),(7,.t)]) yF nX zou nX (λr hr=>hr) (go5 ?_);refine w_c I ?_;replace D:=D.mono ((((aa.trans Z).trans U).trans ae).trans an);replace C:=C.mono ((U.trans ae).trans an);refine sC (ev2 I I) call83 (λw hs=>yEG hs D C oM oM) λck h8 J bl=>?_;have bs:=gA ((((qa.num.natAbs))*((qb.den)))) ((((qb.num.natAbs))*((qa.den))));refine w_c I ?_;replace H:=H.mono J;refine sC (ev3 I I I) call82 (λw hs=>pQ hs bl H oM oM (by first|(simp only[zE];omega)|(simp only[zE];first|exact z0i _|exact z5i (z0i _) (z0i _)|exact yii|assumption)|assumption)) λcj h9 am au=>?_
  try simp only[zE] at au
  obtain⟨bc,bf,rfl,ad,aj⟩:=au;refine cC (A:=[]) (q':=.var b4 29 [vB ((mkRat (sg (qa.num<0) (((((((qa.num.natAbs))*((qb.den))))+((((qb.num.natAbs))*((qa.den)))))))) (((((qa.den))*((qb.den)))))).num<0),bc,bf]) I (zO (k:=0) (cs:=[_,_,_]) (vs:=[_,_,_]) I I I (ocr I (ocu ad (ocu aj oc0))) yG (bL I)) I (go4 ?_);refine xC (λE S=>yB I (wV (cs:=[_,_,_]) mh0 underlying29 I yG I) E S) ?_;rw[yC9 O] at ad aj ⊢;exact⟨_,_,I,ad,aj⟩
 refine go7 ?_;replace D:=D.mono ((((aa.trans Z).trans U).trans ae).trans an);replace C:=C.mono ((U.trans ae).trans an);refine cL (ev2 I I) call49 (λw hs=>oS hs D C) λci h8 J bk=>?_;subst bk;refine gc3 (λak=>?_) λak=>?_
 ·
  refine go4 ?_;replace D:=D.mono J;replace C:=C.mono J;refine cL (ev2 I I) call84 (λw hs=>zSU hs C D oM) λch h9 am bj=>?_;obtain⟨cv,rfl,bh⟩:=bj;have br:=yL (yhu ((((qb.num.natAbs))*((qa.den)))) ((((qa.num.natAbs))*((qb.den)))));refine pL ?_;replace H:=H.mono (J.trans am);refine cL (ev3 I I I) call82 (λw hs=>pQ hs bh H oM oM (by first|(simp only[zE];omega)|(simp only[zE];first|exact z0i _|exact z5i (z0i _) (z0i _)|exact yii|assumption)|assumption)) λcg bw bm ar=>?_
  try simp only[zE] at ar
  obtain⟨bb,be,rfl,ac,ai⟩:=ar;refine wR (A:=[]) (r':=.var b4 29 [vB ((mkRat (sg (qb.num<0) (((((((qb.num.natAbs))*((qa.den))))-((((qa.num.natAbs))*((qb.den)))))))) (((((qa.den))*((qb.den)))))).num<0),bb,be]) (zO (k:=0) (cs:=[_,_,_]) (vs:=[_,_,_]) I I I (ocr I (ocu ac (ocu ai oc0))) yG (bL I)) I I I (go4 ?_);refine xC (λE S=>yB I (wV (cs:=[_,_,_]) mh0 underlying29 I yG I) E S) ?_;rw[yMX O (by have:=rS.1 ak;omega)] at ac ai ⊢;exact⟨_,_,I,ac,ai⟩
 refine go6 ?_;replace D:=D.mono J;replace C:=C.mono J;refine cL (ev2 I I) call84 (λw hs=>zSU hs D C oM) λcf h9 am bi=>?_;obtain⟨cu,rfl,bg⟩:=bi;have bq:=yL (yhu ((((qa.num.natAbs))*((qb.den)))) ((((qb.num.natAbs))*((qa.den)))));refine pL ?_;replace H:=H.mono (J.trans am);refine cL (ev3 I I I) call82 (λw hs=>pQ hs bg H oM oM (by first|(simp only[zE];omega)|(simp only[zE];first|exact z0i _|exact z5i (z0i _) (z0i _)|exact yii|assumption)|assumption)) λce bw bm aq=>?_
 try simp only[zE] at aq
 obtain⟨ba,bd,rfl,ab,ah⟩:=aq;refine wR (A:=[]) (r':=.var b4 29 [vB ((mkRat (sg (qa.num<0) (((((((qa.num.natAbs))*((qb.den))))-((((qb.num.natAbs))*((qa.den)))))))) (((((qa.den))*((qb.den)))))).num<0),ba,bd]) (zO (k:=0) (cs:=[_,_,_]) (vs:=[_,_,_]) I I I (ocr I (ocu ab (ocu ah oc0))) yG (bL I)) I I I (go3 ?_);refine xC (λE S=>yB I (wV (cs:=[_,_,_]) mh0 underlying29 I yG I) E S) ?_;rw[yMY O (yfi (λh=>ak (rS.2 h)))] at ab ah ⊢;exact⟨_,_,I,ab,ah⟩
theorem zYF{qa:Rat}{vna vda:Value}(hna:Us .u32 h0 vna (zB qa.num.natAbs))(hda:Us .u32 h0 vda (zB (wW qa.den))){qb:Rat}{vnb vdb:Value}(hnb:Us .u32 h0 vnb (zB qb.num.natAbs))(hdb:Us .u32 h0 vdb (zB (wW qb.den)))(hqa:lq qa<=100000000000)(hqb:lq qb<=100000000000):
 Calls prog 55 #[.agg #[vB (qa.num<0),vna,vda],.agg #[vB (qb.num<0),vnb,vdb]] w0 (Ret w0 h0 (λh r=>vQ h r (qa-qb))):=by
 have aj:=uK qa;have am:=uH qa;have ao:=uF qa;have ai:=uK qb;have ak:=uH qb;have an:=uF qb;refine cb2 9 (.agg #[vB (qa.num<0),vna,vda]) (.agg #[vB (qb.num<0),vnb,vdb]) func55 hs ?_;refine go2 ?_;refine zH (vH (cs:=[_,_,_]) I I) I I I ?_;intro v2 r2 ab;obtain⟨b2,rfl,rfl⟩:=ab;refine zH (vH (cs:=[_,_,_]) I I) I I I ?_;intro v3 r3 aa;obtain⟨b3,rfl,rfl⟩:=aa;refine zH (uJ (cs:=[vB ((0:Rat).num<0),.slice none 0 0,.slice none 0 0]) wD I (by simp only[zb];rfl)) I I I ?_;intro v4 r4 Z;obtain⟨b4,rfl,rfl⟩:=Z;refine go3 ?_;refine zL 4 _ [] [(0,.q),(1,.q),(2,.c),(3,.c),(4,.t)] yF nX zou nX (λr hr=>hr) (go2 ?_);refine w_c I (sC (ev1 I) call87 (λw hs=>zNE hs hnb hdb oM) λv7 h1 H U=>?_);obtain⟨ap,aq,rfl,ac,ad⟩:=U;have ah:=zG6 qb;refine w_c I ?_;replace hna:=hna.mono H;replace hda:=hda.mono H;refine sC (ev2 I I) call45 (λw hs=>zFZ hs hna hda ac ad oM oM) λv8 h2 ar O=>?_;obtain⟨J,M,rfl,C,D⟩:=O;have ae:=dG qa (-qb);refine cC (A:=[]) (q':=.var b4 29 [vB ((qa+(-qb)).num<0),J,M]) I (zO (k:=0) (cs:=[_,_,_]) (vs:=[_,_,_]) I I I (ocr I (ocu C (ocu D oc0))) yG (bL I)) I (go3 ?_);refine xC (λE S=>yB I (wV (cs:=[_,_,_]) mh0 underlying29 I yG I) E S) ?_;rw[<-yyu] at C D ⊢;exact⟨_,_,I,C,D⟩
theorem zNF{qa:Rat}{vna vda:Value}(hna:Us .u32 h0 vna (zB qa.num.natAbs))(hda:Us .u32 h0 vda (zB (wW qa.den))){qb:Rat}{vnb vdb:Value}(hnb:Us .u32 h0 vnb (zB qb.num.natAbs))(hdb:Us .u32 h0 vdb (zB (wW qb.den)))(hqa:lq qa<=100000000000)(hqb:lq qb<=100000000000):
 Calls prog 53 #[.agg #[vB (qa.num<0),vna,vda],.agg #[vB (qb.num<0),vnb,vdb]] w0 (Ret w0 h0 (λh r=>vQ h r (qa*qb))):=by
 have ao:=uK qa;have aq:=uH qa;have au:=uF qa;have an:=uK qb;have ap:=uH qb;have ar:=uF qb;refine cb2 21 (.agg #[vB (qa.num<0),vna,vda]) (.agg #[vB (qb.num<0),vnb,vdb]) func53 hs ?_;refine go2 ?_;refine zH (vH (cs:=[_,_,_]) I I) I I I ?_;intro v2 r2 ai;obtain⟨b2,rfl,rfl⟩:=ai;refine zH (vH (cs:=[_,_,_]) I I) I I I ?_;intro v3 r3 ah;obtain⟨b3,rfl,rfl⟩:=ah;refine zH (uJ (cs:=[vB ((0:Rat).num<0),.slice none 0 0,.slice none 0 0]) wD I (by simp only[zb];rfl)) I I I ?_;intro v4 r4 ae;obtain⟨b4,rfl,rfl⟩:=ae;refine go3 ?_;refine zL 16 _ [] (zai 0 9 [(10,.q),(12,.q),(9,.c),(11,.c),(13,.c),(14,.c),(15,.c),(16,.t)]) yF nX zou nX (λr hr=>hr) (go4 ?_);refine xY I (λ_ _=>tT underlying4 I I) I (go6 ?_);refine w_c I (sC (ev2 I I) call50 (λw hs=>bK hs hna hnb oM oM) λaz h1 M D=>?_)
 try simp only[zE] at D
 have ak:=yQ ((qa.num.natAbs)) ((qb.num.natAbs));refine w_c I ?_;replace hna:=hna.mono M;replace hda:=hda.mono M;refine sC (ev1 I) call51 (λw hs=>rI hs I hna hda) λay h2 aa C=>?_;rw[qC] at C;refine w_c I ?_;replace hnb:=hnb.mono (M.trans aa);replace hdb:=hdb.mono (M.trans aa);refine sC (ev1 I) call51 (λw hs=>rI hs I hnb hdb) λax h3 ad Z=>?_;rw[qC] at Z;refine w_c I ?_;replace C:=C.mono ad;refine sC (ev2 I I) call50 (λw hs=>bK hs C Z oM oM) λaw h4 am U=>?_
 try simp only[zE] at U
 have aj:=yQ ((qa.den)) ((qb.den));refine w_c I ?_;replace D:=D.mono ((aa.trans ad).trans am);refine sC (ev3 I I I) call82 (λw hs=>pQ hs D U oM oM (by first|(simp only[zE];omega)|(simp only[zE];first|exact z0i _|exact z5i (z0i _) (z0i _)|exact yii|assumption)|assumption)) λav h5 ba O=>?_
 try simp only[zE] at O
 obtain⟨ab,ac,rfl,H,J⟩:=O;refine cC (A:=[]) (q':=.var b4 29 [vB ((mkRat (sg (¬((qa.num<0)↔(qb.num<0))) (((((qa.num.natAbs))*((qb.num.natAbs)))))) (((((qa.den))*((qb.den)))))).num<0),ab,ac]) I (zO (k:=0) (cs:=[_,_,_]) (vs:=[_,_,_]) I I I (ocr I (ocu H (ocu J oc0))) yG (bL I)) I (go3 ?_);refine xC (λE S=>yB I (wV (cs:=[_,_,_]) mh0 underlying29 I yG I) E S) ?_;rw[zZ3] at H J ⊢;exact⟨_,_,I,H,J⟩
theorem zYG{qa:Rat}{vna vda:Value}(hna:Us .u32 h0 vna (zB qa.num.natAbs))(hda:Us .u32 h0 vda (zB (wW qa.den))){qb:Rat}{vnb vdb:Value}(hnb:Us .u32 h0 vnb (zB qb.num.natAbs))(hdb:Us .u32 h0 vdb (zB (wW qb.den)))(hqa:lq qa<=100000000000)(hqb:lq qb<=100000000000):
 Calls prog 81 #[.agg #[vB (qa.num<0),vna,vda],.agg #[vB (qb.num<0),vnb,vdb]] w0 (Ret w0 h0 (λh r=>∃u,r=.tuple #[u,vI (if qb=0 then 3 else 0)]/\vQ h u (if qb=0 then 0 else qa/qb))):=by
 have ar:=uK qa;have av:=uH qa;have ax:=uF qa;have aq:=uK qb;have au:=uH qb;have aw:=uF qb;refine cb2 27 (.agg #[vB (qa.num<0),vna,vda]) (.agg #[vB (qb.num<0),vnb,vdb]) func81 hs ?_;refine go2 ?_;refine zH (vH (cs:=[_,_,_]) I I) I I I ?_;intro v2 r2 ak;obtain⟨b2,rfl,rfl⟩:=ak;refine zH (vH (cs:=[_,_,_]) I I) I I I ?_;intro v3 r3 aj;obtain⟨b3,rfl,rfl⟩:=aj;refine zH (uJ (cs:=[vB ((0:Rat).num<0),.slice none 0 0,.slice none 0 0]) wD I (by simp only[zb];rfl)) I I I ?_;intro v4 r4 ai;obtain⟨b4,rfl,rfl⟩:=ai;refine zL7 (λJ=>?_) λJ=>?_
 ·
  refine go2 ?_;refine gv (wJ (ps':=[]) (vs:=[vB ((0:Rat).num<0),.slice none 0 0,.slice none 0 0]) underlying29 wD I (qH underlying29) trivial (by simp only[zb];exact kA)) I (wR (A:=[]) (r':=.var b4 29 [vB ((0:Rat).num<0),.slice none 0 0,.slice none 0 0]) (zO (k:=0) (cs:=[_,_,_]) (vs:=[_,_,_]) I I I I yG (bL I)) I I I (go5 ?_));refine xC (λE S=>jW I (wV (cs:=[_,_,_]) mh0 underlying29 I yG I) (tH I) E S) ?_;rw[zau (aA J),zau (aA J)];exact⟨_,I,vQ.zero _⟩
 have M:=zGR J;have ap:=zGS.2 M;have be:qa.den*qb.num.natAbs≠0:=z5i qa.den_nz ap;refine go3 ?_;refine zL 16 _ [] (zai 0 8 [(10,.q),(12,.q),(13,.q),(8,.c),(9,.c),(11,.c),(14,.c),(15,.c),(16,.t),(17,.t)]) yF nX zou nX (λr hr=>hr) (go4 ?_);refine xY I (λ_ _=>tT underlying4 I I) I (go6 ?_);refine w_c I (sC (ev1 I) call51 (λw hs=>rI hs I hnb hdb) λbc h1 ac aa=>?_);rw[qC] at aa;refine w_c I ?_;replace hna:=hna.mono ac;refine sC (ev2 I I) call50 (λw hs=>bK hs hna aa oM oM) λbb h2 ab C=>?_
 try simp only[zE] at C
 have an:=yQ ((qa.num.natAbs)) ((qb.den));refine w_c I ?_;replace hna:=hna.mono ab;replace hda:=hda.mono (ac.trans ab);refine sC (ev1 I) call51 (λw hs=>rI hs I hna hda) λba h3 ah Z=>?_;rw[qC] at Z;refine w_c I ?_;replace hnb:=hnb.mono ((ac.trans ab).trans ah);refine sC (ev2 I I) call50 (λw hs=>bK hs Z hnb oM oM) λaz h4 ao U=>?_
 try simp only[zE] at U
 have am:=yQ ((qa.den)) ((qb.num.natAbs));refine w_c I ?_;replace C:=C.mono (ah.trans ao);refine sC (ev3 I I I) call82 (λw hs=>pQ hs C U oM oM (by first|(simp only[zE];omega)|(simp only[zE];first|exact z0i _|exact z5i (z0i _) (z0i _)|exact yii|assumption)|assumption)) λay h5 bd O=>?_
 try simp only[zE] at O
 obtain⟨ad,ae,rfl,D,H⟩:=O;refine cC (A:=[]) (q':=.var b4 29 [vB ((mkRat (sg (¬((qa.num<0)↔(qb.num<0))) (((((qa.num.natAbs))*((qb.den)))))) (((((qa.den))*((qb.num.natAbs)))))).num<0),ad,ae]) I (zO (k:=0) (cs:=[_,_,_]) (vs:=[_,_,_]) I I I (ocr I (ocu D (ocu H oc0))) yG (bL I)) I (zEV I (pS (v:=vI (0)) I) I (go3 ?_));refine xC (λE S=>jW I (wV (cs:=[_,_,_]) mh0 underlying29 I yG I) (tH I) E S) ?_;rw[zae M,zae M];rw[zYU _ M] at D H ⊢;exact⟨_,I,_,_,I,D,H⟩
theorem zYI{qa:Rat}{vna vda:Value}(hna:Us .u32 h0 vna (zB qa.num.natAbs))(hda:Us .u32 h0 vda (zB (wW qa.den))){qb:Rat}{vnb vdb:Value}(hnb:Us .u32 h0 vnb (zB qb.num.natAbs))(hdb:Us .u32 h0 vdb (zB (wW qb.den)))(hqa:lq qa<=100000000000)(hqb:lq qb<=100000000000):
 Calls prog 17 #[.agg #[vB (qa.num<0),vna,vda],.agg #[vB (qb.num<0),vnb,vdb]] w0 (Ret w0 h0 (λ_ r=>r=vI (xU qa qb))):=by
 have av:=uK qa;have ax:=uH qa;have az:=uF qa;have au:=uK qb;have aw:=uH qb;have ay:=uF qb;have bh:-1<=pO (qa.num.natAbs*qb.den) (qb.num.natAbs*qa.den)/\pO (qa.num.natAbs*qb.den) (qb.num.natAbs*qa.den)<=1:=zPF qa qb;refine cb2 34 (.agg #[vB (qa.num<0),vna,vda]) (.agg #[vB (qb.num<0),vnb,vdb]) func17 hs ?_;refine go2 ?_;refine zH (vH (cs:=[_,_,_]) I I) I I I ?_;intro v2 r2 an;obtain⟨b2,rfl,rfl⟩:=an;refine zH (vH (cs:=[_,_,_]) I I) I I I ?_;intro v3 r3 am;obtain⟨b3,rfl,rfl⟩:=am;refine go5 ?_;refine zL 6 _ [] [(0,.q),(2,.q),(1,.c),(3,.c),(4,.q),(5,.q)] yF nX zou nX (λr hr=>hr) (go2 ?_);refine w_c I (sC (ev1 I) call48 (λw hs=>zCZ hs hna hda oM) λv9 h1 O ak=>?_);have ar:=xK qa;subst ak;refine w_c I ?_;replace hnb:=hnb.mono O;replace hdb:=hdb.mono O;refine sC (ev1 I) call48 (λw hs=>zCZ hs hnb hdb oM) λbf h2 M ah=>?_;have aj:=xK qb;subst ah;refine zDO (λD=>?_) λD=>?_
 ·
  refine gc8 (λJ=>?_) λJ=>?_
  ·
   refine go8 ?_;refine zC I I ?_;rw[zCE D,zau J]
  refine go9 ?_;refine zC I I ?_;rw[zCE D,zae J]
 have ad:=zM4 D;refine go3 ?_;refine zL 12 _ [] [(0,.q),(1,.q),(2,.q),(5,.q),(6,.q),(7,.q),(3,.c),(4,.c),(8,.c),(9,.c),(10,.c),(11,.q)] yF nX zou nX (λr hr=>hr) (go6 ?_);refine w_c I ?_;replace hnb:=hnb.mono M;replace hdb:=hdb.mono M;refine sC (ev1 I) call51 (λw hs=>rI hs I hnb hdb) λbe h3 ac aa=>?_;rw[qC] at aa;refine w_c I ?_;replace hna:=hna.mono ((O.trans M).trans ac);refine sC (ev2 I I) call50 (λw hs=>bK hs hna aa oM oM) λbd h4 ab C=>?_
 try simp only[zE] at C
 have ap:=yQ ((qa.num.natAbs)) ((qb.den));refine w_c I ?_;replace hna:=hna.mono ab;replace hda:=hda.mono (((O.trans M).trans ac).trans ab);refine sC (ev1 I) call51 (λw hs=>rI hs I hna hda) λbc h5 ai Z=>?_;rw[qC] at Z;refine w_c I ?_;replace hnb:=hnb.mono ((ac.trans ab).trans ai);refine sC (ev2 I I) call50 (λw hs=>bK hs hnb Z oM oM) λbb h6 aq U=>?_
 try simp only[zE] at U
 have ao:=yQ ((qb.num.natAbs)) ((qa.den));refine w_c I ?_;replace C:=C.mono (ai.trans aq);refine sC (ev2 I I) call49 (λw hs=>oS hs C U) λba h7 bg ae=>?_;subst ae;refine zDP (λH=>?_) λH=>?_
 ·
  refine go3 ?_;refine gv (lK I oM oM) I (go5 ?_);refine zC I I ?_;rw[zT5 ad H];rfl
 refine go9 ?_;refine zC I I ?_;rw[zPA ad H];rfl
theorem zYH{qa:Rat}{vna vda:Value}(hna:Us .u32 h0 vna (zB qa.num.natAbs))(hda:Us .u32 h0 vda (zB (wW qa.den))){qb:Rat}{vnb vdb:Value}(hnb:Us .u32 h0 vnb (zB qb.num.natAbs))(hdb:Us .u32 h0 vdb (zB (wW qb.den)))(hqa:lq qa<=10000000000)(hqb:lq qb<=10000000000):
 Calls prog 203 #[.agg #[vB (qa.num<0),vna,vda],.agg #[vB (qb.num<0),vnb,vdb]] w0 (Ret w0 h0 (λh r=>vQ h r (zDD qa qb))):=by
 have ao:=uK qa;have aq:=uH qa;have au:=uF qa;have an:=uK qb;have ap:=uH qb;have ar:=uF qb;refine cb2 10 (.agg #[vB (qa.num<0),vna,vda]) (.agg #[vB (qb.num<0),vnb,vdb]) func203 hs ?_;refine go2 ?_;refine zH (vH (cs:=[_,_,_]) I I) I I I ?_;intro v2 r2 ae;obtain⟨b2,rfl,rfl⟩:=ae;refine zH (vH (cs:=[_,_,_]) I I) I I I ?_;intro v3 r3 ad;obtain⟨b3,rfl,rfl⟩:=ad;refine zH (uJ (cs:=[vB ((0:Rat).num<0),.slice none 0 0,.slice none 0 0]) wD I (by simp only[zb];rfl)) I I I ?_;intro v4 r4 ac;obtain⟨b4,rfl,rfl⟩:=ac;refine go6 ?_;refine cL (ev2 I I) call45 (λw hs=>zFZ hs hna hda hnb hdb oM oM) λv7 h1 ba ab=>?_;obtain⟨aw,ay,rfl,D,J⟩:=ab;have am:=dG qa qb;refine cL (vs:=[vI (1),vI (2)]) e2z call21 (λw hs=>zC0 hs oM oM oM oM) λv8 h2 M aa=>?_;have ak:=zBZ (n:=(1:Int)) (d:=(2:Int)) oM oM oM oM;obtain⟨av,ax,rfl,ah,ai⟩:=aa;replace D:=D.mono M;replace J:=J.mono M;refine cL (ev2 I I) call53 (λw hs=>zNF hs D J ah ai oM oM) λv9 h3 az Z=>?_;obtain⟨O,U,rfl,C,H⟩:=Z;have aj:=dF (qa+qb) (jP (1:Int) (2:Int));refine wR (A:=[]) (r':=.var b4 29 [vB (((qa+qb)*(jP (1:Int) (2:Int))).num<0),O,U]) (zO (k:=0) (cs:=[_,_,_]) (vs:=[_,_,_]) I I I (ocr I (ocu C (ocu H oc0))) yG (bL I)) I I I (go3 ?_);refine xC (λE S=>yB I (wV (cs:=[_,_,_]) mh0 underlying29 I yG I) E S) ?_;rw[zJW] at C H ⊢;exact⟨_,_,I,C,H⟩
theorem zU4{qa:Rat}{vna vda:Value}(hna:Us .u32 h0 vna (zB qa.num.natAbs))(hda:Us .u32 h0 vda (zB (wW qa.den)))(hqa:lq qa<=100000000000):
 Calls prog 134 #[.agg #[vB (qa.num<0),vna,vda]] w0 (Ret w0 h0 (λ_ r=>r=.string (qT (qU qa)))):=by
 have ac:=uK qa;have ad:=uH qa;have ae:=uF qa;refine cb1 22 (.agg #[vB (qa.num<0),vna,vda]) func134 hs ?_;refine go2 ?_;refine zH (vH (cs:=[_,_,_]) I I) I I I ?_;intro v1 r1 Z;obtain⟨b1,rfl,rfl⟩:=Z;refine go7 ?_;refine cL (ev1 I) call177 (λw hs=>zF3 hs hna oM) λv6 h1 M U=>?_;subst U;have ab:=zA0 ((qa.num.natAbs));refine zDP (λH=>?_) λH=>?_
 ·
  refine go2 ?_;refine gv (vN (pa:=([45]:List Nat)) (pb:=(txt ((qa.num.natAbs)))) I I zov) I ?_;replace hda:=hda.mono M;refine zL7 (λC=>?_) λC=>?_
  ·
   refine go4 ?_;refine cL (ev1 I) call177 (λw hs=>zF3 hs hda oM) λO h2 aa D=>?_;subst D;have J:=zA0 (((wW qa.den)));refine gv (vN (pa:=([47]:List Nat)) (pb:=(txt (((wW qa.den))))) I I zov) I (gv (vN (pa:=(([45]:List Nat)++(txt ((qa.num.natAbs))))) (pb:=(([47]:List Nat)++(txt (((wW qa.den)))))) I I zov) I (uQ ?_));refine zC I I ?_;rw[<-yH6 H C]
  refine go9 ?_;refine zC I I ?_;rw[<-yDO H C]
 replace hda:=hda.mono M;refine zDO (λC=>?_) λC=>?_
 ·
  refine go4 ?_;refine cL (ev1 I) call177 (λw hs=>zF3 hs hda oM) λO h2 aa D=>?_;subst D;have J:=zA0 (((wW qa.den)));refine gv (vN (pa:=([47]:List Nat)) (pb:=(txt (((wW qa.den))))) I I zov) I (gv (vN (pa:=(txt ((qa.num.natAbs)))) (pb:=(([47]:List Nat)++(txt (((wW qa.den)))))) I I zov) I (uQ ?_));refine zC I I ?_;rw[<-yDP H C]
 refine go9 ?_;refine zC I I ?_;rw[<-yDQ H C]
theorem aV{k l:Nat}{va:Value}{a:Rat}(ra:(rpQ k).Is h0 va a){vb:Value}{b:Rat}(rb:(rpQ l).Is h0 vb b)(hcd0:k+l<=10000000000):
 Calls prog 160 #[va,vb] w0 (Ret w0 h0 (λh r=>(rpQ (k+l+1)).Is h r (a+b))):=by
 obtain⟨O,Z,rfl,D,J,ab⟩:=qW ra;obtain⟨M,U,rfl,C,H,aa⟩:=qW rb;exact(yEM hs D J C H oM oM).mono (fM λh r x=>zAO x (by have:=dG a b;omega))
theorem fY{k l:Nat}{va:Value}{a:Rat}(ra:(rpQ k).Is h0 va a){vb:Value}{b:Rat}(rb:(rpQ l).Is h0 vb b)(hcd0:k+l<=10000000000):
 Calls prog 121 #[va,vb] w0 (Ret w0 h0 (λh r=>(rpQ (k+l+1)).Is h r (a-b))):=by
 obtain⟨O,Z,rfl,D,J,ab⟩:=qW ra;obtain⟨M,U,rfl,C,H,aa⟩:=qW rb;exact(yEH hs D J C H oM oM).mono (fM λh r x=>zAO x (by have:=zG5 a b;omega))
theorem kT{k l:Nat}{va:Value}{a:Rat}(ra:(rpQ k).Is h0 va a){vb:Value}{b:Rat}(rb:(rpQ l).Is h0 vb b)(hcd0:k+l<=10000000000):
 Calls prog 153 #[va,vb] w0 (Ret w0 h0 (λh r=>(rpQ (k+l)).Is h r (a*b))):=by
 obtain⟨O,Z,rfl,D,J,ab⟩:=qW ra;obtain⟨M,U,rfl,C,H,aa⟩:=qW rb;exact(yEJ hs D J C H oM oM).mono (fM λh r x=>zAO x (by have:=dF a b;omega))
theorem aU{k l:Nat}{va:Value}{a:Rat}(ra:(rpQ k).Is h0 va a){vb:Value}{b:Rat}(rb:(rpQ l).Is h0 vb b)(hcd0:k+l<=10000000000):
 Calls prog 182 #[va,vb] w0 (Ret w0 h0 (λ_ r=>r=vI (xU a b))):=by
 obtain⟨O,Z,rfl,D,J,ab⟩:=qW ra;obtain⟨M,U,rfl,C,H,aa⟩:=qW rb;exact yEL hs D J C H oM oM
theorem pF{k:Nat}{va:Value}{a:Rat}(ra:(rpQ k).Is h0 va a)(hcd0:k<=10000000000):
 Calls prog 122 #[va] w0 (Ret w0 h0 (λ_ r=>r=vI (yX a))):=by
 obtain⟨H,J,rfl,C,D,M⟩:=qW ra;exact zBG hs C D oM
theorem zAG{k l:Nat}{va:Value}{a:Rat}(ra:(rpQ k).Is h0 va a){vb:Value}{b:Rat}(rb:(rpQ l).Is h0 vb b)(hcd0:k+l<=10000000000):
 Calls prog 159 #[va,vb] w0 (Ret w0 h0 (λ_ r=>r=vB (a=b))):=by
 obtain⟨O,Z,rfl,D,J,ab⟩:=qW ra;obtain⟨M,U,rfl,C,H,aa⟩:=qW rb;exact zYT hs D J C H oM oM
theorem zVP{k l:Nat}{va:Value}{a:Rat}(ra:(rpQ k).Is h0 va a){vb:Value}{b:Rat}(rb:(rpQ l).Is h0 vb b)(hcd0:k+l<=10000000000):
 Calls prog 123 #[va,vb] w0 (Ret w0 h0 (λh r=>∃u0,r=.tuple #[u0,vI (if b=0 then 3 else 0)]/\(rpQ (k+l)).Is h u0 (if b=0 then 0 else a/b))):=by
 obtain⟨O,Z,rfl,D,J,ab⟩:=qW ra;obtain⟨M,U,rfl,C,H,aa⟩:=qW rb;exact(yEI hs D J C H oM oM).mono (fM λh r x=>by obtain⟨u,e,y⟩:=x;exact⟨u,e,zAO y (by have:=zTC a b;omega)⟩)
theorem oZ{k l:Nat}{va:Value}{a:Rat}(ra:(rpQ k).Is h0 va a){vb:Value}{b:Rat}(rb:(rpQ l).Is h0 vb b)(hcd0:k+l<=10000000000):
 Calls prog 45 #[va,vb] w0 (Ret w0 h0 (λh r=>(rpQ (k+l+1)).Is h r (a+b))):=by
 obtain⟨O,Z,rfl,D,J,ab⟩:=qW ra;obtain⟨M,U,rfl,C,H,aa⟩:=qW rb;exact(zFZ hs D J C H oM oM).mono (fM λh r x=>zAO x (by have:=dG a b;omega))
theorem tJ{k l:Nat}{va:Value}{a:Rat}(ra:(rpQ k).Is h0 va a){vb:Value}{b:Rat}(rb:(rpQ l).Is h0 vb b)(hcd0:k+l<=10000000000):
 Calls prog 55 #[va,vb] w0 (Ret w0 h0 (λh r=>(rpQ (k+l+1)).Is h r (a-b))):=by
 obtain⟨O,Z,rfl,D,J,ab⟩:=qW ra;obtain⟨M,U,rfl,C,H,aa⟩:=qW rb;exact(zYF hs D J C H oM oM).mono (fM λh r x=>zAO x (by have:=zG5 a b;omega))
theorem jC{k l:Nat}{va:Value}{a:Rat}(ra:(rpQ k).Is h0 va a){vb:Value}{b:Rat}(rb:(rpQ l).Is h0 vb b)(hcd0:k+l<=10000000000):
 Calls prog 53 #[va,vb] w0 (Ret w0 h0 (λh r=>(rpQ (k+l)).Is h r (a*b))):=by
 obtain⟨O,Z,rfl,D,J,ab⟩:=qW ra;obtain⟨M,U,rfl,C,H,aa⟩:=qW rb;exact(zNF hs D J C H oM oM).mono (fM λh r x=>zAO x (by have:=dF a b;omega))
theorem zGJ{k l:Nat}{va:Value}{a:Rat}(ra:(rpQ k).Is h0 va a){vb:Value}{b:Rat}(rb:(rpQ l).Is h0 vb b)(hcd0:k+l<=10000000000):
 Calls prog 203 #[va,vb] w0 (Ret w0 h0 (λh r=>(rpQ (k+l+2)).Is h r (zDD a b))):=by
 obtain⟨O,Z,rfl,D,J,ab⟩:=qW ra;obtain⟨M,U,rfl,C,H,aa⟩:=qW rb;exact(zYH hs D J C H oM oM).mono (fM λh r x=>zAO x (by have:=yKJ a b;omega))
theorem tK{k l:Nat}{va:Value}{a:Rat}(ra:(rpQ k).Is h0 va a){vb:Value}{b:Rat}(rb:(rpQ l).Is h0 vb b)(hcd0:k+l<=10000000000):
 Calls prog 17 #[va,vb] w0 (Ret w0 h0 (λ_ r=>r=vI (xU a b))):=by
 obtain⟨O,Z,rfl,D,J,ab⟩:=qW ra;obtain⟨M,U,rfl,C,H,aa⟩:=qW rb;exact zYI hs D J C H oM oM
theorem qI{k:Nat}{va:Value}{a:Rat}(ra:(rpQ k).Is h0 va a)(hcd0:k<=10000000000):
 Calls prog 48 #[va] w0 (Ret w0 h0 (λ_ r=>r=vI (yX a))):=by
 obtain⟨H,J,rfl,C,D,M⟩:=qW ra;exact zCZ hs C D oM
theorem sM{k l:Nat}{va:Value}{a:Rat}(ra:(rpQ k).Is h0 va a){vb:Value}{b:Rat}(rb:(rpQ l).Is h0 vb b)(hcd0:k+l<=10000000000):
 Calls prog 73 #[va,vb] w0 (Ret w0 h0 (λ_ r=>r=vB (a=b))):=by
 obtain⟨O,Z,rfl,D,J,ab⟩:=qW ra;obtain⟨M,U,rfl,C,H,aa⟩:=qW rb;exact zU5 hs D J C H oM oM
theorem zQY{k l:Nat}{va:Value}{a:Rat}(ra:(rpQ k).Is h0 va a){vb:Value}{b:Rat}(rb:(rpQ l).Is h0 vb b)(hcd0:k+l<=10000000000):
 Calls prog 81 #[va,vb] w0 (Ret w0 h0 (λh r=>∃u0,r=.tuple #[u0,vI (if b=0 then 3 else 0)]/\(rpQ (k+l)).Is h u0 (if b=0 then 0 else a/b))):=by
 obtain⟨O,Z,rfl,D,J,ab⟩:=qW ra;obtain⟨M,U,rfl,C,H,aa⟩:=qW rb;exact(zYG hs D J C H oM oM).mono (fM λh r x=>by obtain⟨u,e,y⟩:=x;exact⟨u,e,zAO y (by have:=zTC a b;omega)⟩)
theorem oY{k:Nat}{va:Value}{a:Rat}(ra:(rpQ k).Is h0 va a)(hcd0:k<=10000000000):
 Calls prog 87 #[va] w0 (Ret w0 h0 (λh r=>(rpQ k).Is h r (-a))):=by
 obtain⟨H,J,rfl,C,D,M⟩:=qW ra;exact(zNE hs C D oM).mono (fM λh r x=>zAO x (by have:=zG6 a;omega))
theorem zQZ{k:Nat}{va:Value}{a:Rat}(ra:(rpQ k).Is h0 va a)(hcd0:k<=10000000000):
 Calls prog 103 #[va] w0 (Ret w0 h0 (λh r=>(rpQ k).Is h r (dS a))):=by
 obtain⟨H,J,rfl,C,D,M⟩:=qW ra;exact(zYJ hs C D oM).mono (fM λh r x=>zAO x (by have:=yKK a;omega))
theorem gJ{n:Int}(hn1:-9223372036854775808<=n)(hn2:n<9223372036854775808):
 Calls prog 27 #[vI n] w0 (Ret w0 h0 (λh r=>(rpQ 2).Is h r ((n:Int):Rat))):=by
 exact(zNG hs hn1 hn2).mono (fM λh r x=>zAO x (by exact sR n hn1 hn2))
theorem zC7{n:Int}(hn1:-9223372036854775808<=n)(hn2:n<9223372036854775808):
 Calls prog 116 #[vI n] w0 (Ret w0 h0 (λh r=>(rpQ 2).Is h r ((n:Int):Rat))):=by
 exact(yEK hs hn1 hn2).mono (fM λh r x=>zAO x (by exact sR n hn1 hn2))
theorem kQ{n:Int}(hn1:-9223372036854775808<=n)(hn2:n<9223372036854775808){d:Int}(hd1:-9223372036854775808<=d)(hd2:d<9223372036854775808):
 Calls prog 21 #[vI n,vI d] w0 (Ret w0 h0 (λh r=>(rpQ 2).Is h r (jP n d))):=by
 exact(zC0 hs hn1 hn2 hd1 hd2).mono (fM λh r x=>zAO x (by exact zBZ hn1 hn2 hd1 hd2))
theorem yAA{n m:Int}(hm:0<m)(hm2:m<4611686018427387904):
 Calls prog 44 #[vI n,vI m] w0 (Ret w0 h0 (λ_ r=>r=vI (zV5 n m))):=by
 have D:=zFR n hm;refine cb2 14 (vI n) (vI m) func44 hs ?_;refine go9 ?_;refine gv (zVI I I oM) I (zDP (λC=>?_) λC=>?_)
 ·
  refine sS ?_;refine zC I I ?_;rw[zV5,zau C]
 refine go9 ?_;refine zC I I ?_;rw[zV5,zae C]
theorem zRK{vl:Value}{xs:List Int}(hl:Is h0 vl xs):
 Calls prog 9 #[vl] w0 (Ret w0 h0 (λ_ r=>r=vB ((↑xs.length:Int)<=500))):=by
 refine cb1 6 vl func9 hs ?_;refine go8 ?_;refine gv (zJE underlying22 I hl) I (go5 ?_);refine zC I I ?_
 rfl
theorem zV8{vl:Value}{xs:List Int}(hl:Is h0 vl xs):
 Calls prog 11 #[vl] w0 (tO w0 h0 (λ_ r L=>∃b,r=vP b 0/\L=[.var b 72 [vl,vI ↑0]])):=by
 refine cb1 6 vl func11 hs ?_;refine go8 ?_;refine gv (wJ (ps':=[(0,_)]) (vs:=[vl,vI 0]) underlying72 yA4 I (zY2 underlying72) e2z (vO (A:=[]) (B:=[_]) (C:=[_]) (cs:=[_]) (off:=0) (size:=1) I I I I hl.cells kA)) I (zH (vH (cs:=[_,_]) I I) I I I ?_);intro H J D;obtain⟨M,rfl,rfl⟩:=D;refine go4 ?_;refine qP I I ?_;exact⟨_,I,I⟩
end
theorem wN{w0 w:World}{h0 h:Mem}{b k:Nat}{vl:Value}{xs:List Int}(hl:Is h vl xs)(hk:k<=xs.length){n:Int}(hn:0<n)(hn2:n<4611686018427387904){L:List Res}(hs:St w0 h0 (.var b 72 [vl,vI ↑k]::L) h w):
 Calls prog 13 #[vP b 0,vI n] w (cS w0 h0 h L (λg r q'=>∃k':Nat,∃z,q'=.var b 72 [vl,vI ↑k']/\k'<=xs.length/\(r=vI z/\0<=z/\z<n))):=by
 have O:=hl.lt63;refine qM (n:=35) (e:=[(0,vP b 0),(1,vI n)]) (vs:=[vP b 0,vI n]) func13 rfl rfl (bL rfl) hs e2z (go7 ?_);refine zL 10 _ [] (zai 0 10 []) yF nX zou nX (λr J=>J) (go1 ?_);refine xY I (λ_ _=>gW I) I (go3 ?_);refine xY I (λ_ _=>gW I) I (go2 ?_);refine w_q I (λh' L' hh hR=>zJE underlying22 I (hl.mono hh)) I (gc3 (λH=>?_) λH=>?_)
 ·
  refine go7 ?_;refine qP I I ?_;exact⟨_,(zme _),(MLe.refl _),k,0,I,hk,I,by omega,hn⟩
 refine go5 ?_;refine gv (gW I) I (go3 ?_);refine gv (gW I) I (go1 ?_);refine wR (A:=[]) (r':=.var b 72 [vl,vI ((↑k:Int)+(1:Int))]) (zO (k:=1) (cs:=[_,_]) (vs:=[_]) I I I I yGP (bL I)) I I I (go3 ?_);refine zL 14 _ [] (zai 0 12 [(12,.c),(13,.q)]) yF nX zou nX (λr J=>J) (go1 ?_);refine xY I (λ_ _=>gW I) I (go3 ?_);refine xY I (λ_ _=>gW I) I (go3 ?_);refine w_q I (λh' L' hh hR=>zNQ (k) underlying22 sizeOf3 I I (hl.mono hh) oM oM) I (w_q I (λh' L' hh hR=>zQN isAgg3 I (hl.mono hh) oM) I (go1 ?_));refine w_c I (sC (ev2 I I) call44 (λw hs=>yAA hs oM oM) λU h1 M D=>?_);have C:=zRF ((xs).getD (k) 0) (q:=n) oM;subst D;refine go4 ?_;refine qP I I ?_;exact⟨_,(zme _),M,k+1,_,I,by omega,I,C.1,C.2⟩
theorem zO5{w0 w:World}{h0 h:Mem}{b k:Nat}{vl:Value}{xs:List Int}(hl:Is h vl xs)(hk:k<=xs.length){L:List Res}(hs:St w0 h0 (.var b 72 [vl,vI ↑k]::L) h w):
 Calls prog 77 #[vP b 0] w (cS w0 h0 h L (λg r q'=>∃k':Nat,∃q,q'=.var b 72 [vl,vI ↑k']/\k'<=xs.length/\(lq q<=2/\vQ g r q))):=by
 refine qM (n:=18) (e:=[(0,vP b 0)]) (vs:=[vP b 0]) func77 rfl rfl (bL rfl) hs ⟨rfl,y3e⟩ (go2 ?_);refine zH (uJ (cs:=[vB ((0:Rat).num<0),.slice none 0 0,.slice none 0 0]) wD I (by simp only[zb];rfl)) I I I ?_;intro v2 r2 ao;obtain⟨b2,rfl,rfl⟩:=ao;refine go5 ?_;refine yP (A:=[_]) (vs:=[_,vI (13)]) call13 e2z (λX w hs=>wN hl zox oM oM hs) I ?_;intro v5 g5 q5 U an;obtain⟨k5,z5,rfl,bg,rfl,bd,bf⟩:=an;refine go7 ?_;replace hl:=hl.mono U;refine yP (A:=[_]) (vs:=[_,vI (4)]) call13 e2z (λX w hs=>wN hl zox oM oM hs) I ?_;intro v7 g7 q7 O am;obtain⟨k7,z7,rfl,ar,rfl,bc,be⟩:=am;refine gc3 (λau=>?_) λau=>?_
 ·
  refine go5 ?_;replace hl:=hl.mono O;refine yP (A:=[_]) (vs:=[_,vI (4)]) call13 e2z (λX w hs=>wN hl zox oM oM hs) I ?_;intro az bh ba ak ai;obtain⟨bb,Z,rfl,aj,rfl,av,aw⟩:=ai;refine gv (zU (p:=1) I I oM oM) I (cL (ev2 I I) call21 (λw hs=>zC0 hs oM oM oM oM) λay h1 M ah=>?_);have aq:=zBZ (n:=(z5-(6:Int))) (d:=((1:Int)+Z)) oM oM oM oM;obtain⟨ab,ad,rfl,D,J⟩:=ah;refine wR (A:=[]) (r':=.var b2 29 [vB ((jP (z5-(6:Int)) ((1:Int)+Z)).num<0),ab,ad]) (zO (k:=0) (cs:=[_,_,_]) (vs:=[_,_,_]) I I I (ocr I (ocu D (ocu J oc0))) yG (bL I)) I I I (go4 ?_);refine fI (λE S=>yB I (wV (cs:=[_,_,_]) mh0 underlying29 I yG I) E S) ?_;exact⟨_,(.cons _ (zme _)),(((U.trans O).trans ak).trans M),_,_,I,aj,by omega,_,_,I,D,J⟩
 refine go6 ?_;refine cL (ev1 I) call27 (λw hs=>zNG hs oM oM) λax h1 M ae=>?_;obtain⟨aa,ac,rfl,C,H⟩:=ae;have ap:=sR (z5-(6:Int)) oM oM;refine wR (A:=[]) (r':=.var b2 29 [vB (((((z5-(6:Int)):Int):Rat)).num<0),aa,ac]) (zO (k:=0) (cs:=[_,_,_]) (vs:=[_,_,_]) I I I (ocr I (ocu C (ocu H oc0))) yG (bL I)) I I I (go3 ?_);refine fI (λE S=>yB I (wV (cs:=[_,_,_]) mh0 underlying29 I yG I) E S) ?_;exact⟨_,(.cons _ (zme _)),((U.trans O).trans M),_,_,I,ar,by omega,_,_,I,C,H⟩
theorem mE{w0 w:World}{h0 h:Mem}{b k:Nat}{vl:Value}{xs:List Int}(hl:Is h vl xs)(hk:k<=xs.length){L:List Res}(hs:St w0 h0 (.var b 72 [vl,vI ↑k]::L) h w):Calls prog 77 #[vP b 0] w (cS w0 h0 h L (λg r q'=>∃k':Nat,∃q:Rat,q'=.var b 72 [vl,vI ↑k']/\k'<=xs.length/\(rpQ 2).Is g r q)):=
 (zO5 hl hk hs).mono (zP7 λg r q' x=>by
  obtain⟨k',q,e,h1,h2,h3⟩:=x;exact⟨k',q,e,h1,zAO h3 h2⟩)
section
variable{w0:World}{h0:Mem}(hs:MLe h0 (mem w0))
include hs
theorem zY3{qa:Rat}{vna vda:Value}(hna:Us .u32 h0 vna (zB qa.num.natAbs))(hda:Us .u32 h0 vda (zB (wW qa.den))):
 Calls prog 146 #[.agg #[vB (qa.num<0),vna,vda]] w0 (Ret w0 h0 (λ_ r=>r=.tuple #[vI (smZ qa),vB (smB qa)])):=by
 refine cb1 33 (.agg #[vB (qa.num<0),vna,vda]) func146 hs ?_;refine go2 ?_;refine zH (vH (cs:=[_,_,_]) I I) I I I ?_;intro v1 r1 Z;obtain⟨b1,rfl,rfl⟩:=Z;refine qK ?_;refine gU 6 14 (vB (((0:Int)<(↑(zB (wW qa.den)).length:Int))\/((1:Int)<(↑(zB qa.num.natAbs).length:Int)))) ?_ ?_
 ·
  refine zY ((0:Int)<(↑(zB (wW qa.den)).length:Int)) (λO=>?_) (λO=>?_)
  ·
   refine gT O I (go6 ?_);refine gqU ?_;exact y3u (vV O)
  refine gF O I (uQ ?_);refine gqU ?_;exact y3u (vW O)
 refine gc2 (λC=>?_) λC=>?_
 ·
  refine go8 ?_;refine wU I I I ?_;obtain⟨e1,e2⟩:=yNG C;rw[e1,yN e2]
 refine zDO (λH=>?_) λH=>?_
 ·
  refine go8 ?_;refine wU I I I ?_;obtain⟨e1,e2⟩:=yNF C H;rw[e1,wA e2]
 obtain⟨U,ab,J⟩:=yDY C H;have aa:=zXX C;refine go6 ?_;refine gv (zW (q:=0) (0) underlying27 sizeOf124 I I hna I oM) I (go1 ?_);rw[U];refine gv (zGG (k:=.u32) underlying124 underlying2 I oM) I (zDP (λD=>?_) λD=>?_)
 ·
  have M:=D;refine go3 ?_;refine gv (lK I oM oM) I (go8 ?_);refine wU I I I ?_;exact zI1 oM (Iff.trans oM J.symm)
 have M:=D;refine uY ?_;refine wU I I I ?_;exact zI1 oM (Iff.trans oM J.symm)
theorem tL{k:Nat}{va:Value}{a:Rat}(ra:(rpQ k).Is h0 va a):Calls prog 146 #[va] w0 (Ret w0 h0 (λ_ r=>r=.tuple #[vI (smZ a),vB (smB a)])):=by
 obtain⟨H,J,rfl,C,D,M⟩:=qW ra;exact zY3 hs C D
theorem zJP{n:Int}(hn1:-9223372036854775808<=n)(hn2:n<9223372036854775808):
 Calls prog 148 #[vI n] w0 (Ret w0 h0 (λ_ r=>r=vI (zID n))):=by
 refine cb1 9 (vI n) func148 hs ?_;refine sS ?_;refine cnd (λC=>?_) λC=>?_
 ·
  refine go8 ?_;refine zC I I ?_;unfold zID;rw[zau C]
 refine gc7 (λD=>?_) λD=>?_
 ·
  refine go8 ?_;refine zC I I ?_;unfold zID;rw[zae C,zau D]
 refine go9 ?_;refine zC I I ?_;unfold zID;rw[zae C,zae D]
theorem zC9{k:Nat}{vp:Value}{p:Tq}(rp:(tPt k).Is h0 vp p){i:Nat}{j:Nat}(hcd0:i<3)(hcd1:j<3):
 Calls prog 213 #[vp,vI ↑i,vI ↑j] w0 (Ret w0 h0 (λh r=>r=.tuple #[vI (smZ (p.at i)),vI (smZ (p.at j)),vB (smB (p.at i)/\smB (p.at j))])):=by
 refine cb3 33 vp (vI ↑i) (vI ↑j) func213 hs ?_;refine go2 ?_;refine nB rp λH ah C=>(go8 ?_);refine gv ((zX (sz:=3) i underlying31 sizeOf29 I I I oM).cv (show _=vP H ((i*3+0)) from zbi (vP H) oM)) I (lX (xB yI (Pc.ta pH i oM) C) λac U=>(cL (ev1 I) call146 (λw hs=>tL hs U) λab h1 ae O=>?_));obtain rfl:=O;refine uQ ?_;refine gv ((zX (sz:=3) j underlying31 sizeOf29 I I I oM).cv (show _=vP H ((j*3+0)) from zbi (vP H) oM)) I (lX (xB yI (Pc.ta pH j oM) C) λaa M=>(cL (ev1 I) call146 (λw hs=>tL hs M) λZ h2 ad J=>?_));obtain rfl:=J;refine uY ?_;refine gU 3 32 (vB ((smB (p.at i))/\(smB (p.at j)))) ?_ ?_
 ·
  refine zY (smB (p.at i)) (λD=>?_) (λD=>?_)
  ·
   refine gT D I (go4 ?_);refine gqU ?_;exact y3u (xL D)
  refine gF D I (go3 ?_);refine gqU ?_;exact y3u (xM D)
 refine go6 ?_;refine qJ I I I I ?_
 rfl
theorem zEG{k:Nat}{va:Value}{a:Tq}(ra:(tPt k).Is h0 va a){vb:Value}{b:Tq}(rb:(tPt k).Is h0 vb b){vc:Value}{c:Tq}(rc:(tPt k).Is h0 vc c){i:Nat}{j:Nat}(hcd0:i<3)(hcd1:j<3)(hcd2:k<=1000000000):
 Calls prog 206 #[va,vb,vc,vI ↑i,vI ↑j] w0 (Ret w0 h0 (λ_ r=>r=vI (orZ (pr a i j) (pr b i j) (pr c i j)))):=by
 refine jT (n:=100) (e:=[(0,va),(1,vb),(2,vc),(3,vI ↑i),(4,vI ↑j)]) (vs:=[va,vb,vc,vI ↑i,vI ↑j]) func206 rfl rfl (bL rfl) hs e5z (go2 ?_);refine nB ra λO dh C=>(nB rb λb6 df Z=>(nB rc λb7 de U=>(go5 ?_)));refine lX (xB zN pH C) λck bk=>(go2 ?_);refine cL (ev3 I I I) call213 (λw hs=>zC9 (i:=i) (j:=j) hs bk oM oM) λcj h1 dc bj=>?_;obtain rfl:=bj;refine qK ?_;refine lX (xB zN pH Z) λci bi=>(go2 ?_);refine cL (ev3 I I I) call213 (λw hs=>zC9 (i:=i) (j:=j) hs bi oM oM) λch h2 db bh=>?_;obtain rfl:=bh;refine qK ?_;refine lX (xB zN pH U) λcg bg=>(go2 ?_);refine cL (ev3 I I I) call213 (λw hs=>zC9 (i:=i) (j:=j) hs bg oM oM) λcf h3 da bf=>?_;obtain rfl:=bf;refine pL ?_;refine gU 3 48 (vB ((smB (a.at i)/\smB (a.at j))/\(smB (b.at i)/\smB (b.at j)))) ?_ ?_
 ·
  refine zY (smB (a.at i)/\smB (a.at j)) (λD=>?_) (λD=>?_)
  ·
   refine gT D I (go4 ?_);refine gqU ?_;exact y3u (xL D)
  refine gF D I (go3 ?_);refine gqU ?_;exact y3u (xM D)
 refine gU 3 51 (vB (((smB (a.at i)/\smB (a.at j))/\(smB (b.at i)/\smB (b.at j)))/\(smB (c.at i)/\smB (c.at j)))) ?_ ?_
 ·
  refine zY ((smB (a.at i)/\smB (a.at j))/\(smB (b.at i)/\smB (b.at j))) (λD=>?_) (λD=>?_)
  ·
   refine gT D I (go4 ?_);refine gqU ?_;exact y3u (xL D)
  refine gF D I (go3 ?_);refine gqU ?_;exact y3u (xM D)
 refine gc2 (λH=>?_) λH=>?_
 ·
  obtain⟨⟨⟨ap,ao⟩,an,am⟩,M,J⟩:=H;have cq:=(rC ap).2;have cp:=(rC ao).2;have co:=(rC an).2;have cn:=(rC am).2;have cm:=(rC M).2;have cl:=(rC J).2;have kp:=zYW (u:=smZ (b.at i)-smZ (a.at i)) (v:=smZ (c.at j)-smZ (a.at j)) oM oM oM oM;have kq:=zYW (u:=smZ (b.at j)-smZ (a.at j)) (v:=smZ (c.at i)-smZ (a.at i)) oM oM oM oM;refine go8 ?_;refine gv (gX I I oM oM) I (go6 ?_);refine gv (gX I I oM oM) I (go1 ?_);refine cL (ev1 I) call148 (λw hs=>zJP hs oM oM) λar h4 bl be=>?_;obtain rfl:ar=vI (zID ((((smZ (b.at i))-(smZ (a.at i)))*((smZ (c.at j))-(smZ (a.at j))))-(((smZ (b.at j))-(smZ (a.at j)))*((smZ (c.at i))-(smZ (a.at i)))))):=be;refine go5 ?_;refine zC I I ?_;exact zbi vI (zZD (a:=pr a i j) (b:=pr b i j) (c:=pr c i j) ⟨ap,ao⟩ ⟨an,am⟩ ⟨M,J⟩)
 refine go3 ?_;refine zL 16 _ [(15,(20,29,[.bool false,.slice none 0 0,.slice none 0 0]))] (zai 0 6 (zai 7 6 [(6,.c),(13,.c),(14,.c),(15,.a),(16,.t)])) yF (kL.cons I I (qQ wD I I) kL.nil) (wS zou) (qR I I gY) (λr hr=>hr) (go1 ?_);refine xY I (λ_ _=>(zX (sz:=3) i underlying31 sizeOf29 I I I oM).cv (show _=vP b6 ((i*3+0)) from zbi (vP b6) oM)) I (wX I (xB yI (Pc.ta pH i oM) Z) λce bd=>(go1 ?_));refine xY I (λ_ _=>(zX (sz:=3) i underlying31 sizeOf29 I I I oM).cv (show _=vP O ((i*3+0)) from zbi (vP O) oM)) I (wX I (xB yI (Pc.ta pH i oM) C) λcd bc=>(go1 ?_));refine xY I (λ_ _=>(zX (sz:=3) j underlying31 sizeOf29 I I I oM).cv (show _=vP b7 ((j*3+0)) from zbi (vP b7) oM)) I (wX I (xB yI (Pc.ta pH j oM) U) λcb bb=>(go1 ?_));refine xY I (λ_ _=>(zX (sz:=3) j underlying31 sizeOf29 I I I oM).cv (show _=vP O ((j*3+0)) from zbi (vP O) oM)) I (wX I (xB yI (Pc.ta pH j oM) C) λca ba=>?_);refine w_c I (sC (ev2 I I) call121 (λw hs=>fY hs bd bc oM) λcc h4 bl ah=>?_);replace ah:=Rp.Is.le ah (Le.q (l:=2*k+1) oM);refine w_c I (sC (ev2 I I) call121 (λw hs=>fY hs bb.up ba.up oM) λbz h5 cz ae=>?_);replace ae:=Rp.Is.le ae (Le.q (l:=2*k+1) oM);refine w_c I (sC (ev2 I I) call153 (λw hs=>kT hs ah.up ae oM) λbx h6 cy ad=>?_);replace ad:=Rp.Is.le ad (Le.q (l:=4*k+2) oM);refine w_a I I (λdi=>?_);have ak:(rpQ 1).R h6 [.bool false,.slice none 0 0,.slice none 0 0] (0:Rat):=(yM dC);have ai:=(Le.q (l:=4*k+2) oM).R ak;refine yJ (A:=[]) I (uB sizeOf29 pH ai ad) λbo aj=>(go3 ?_);refine zL 18 _ [] (zai 0 7 (zai 8 6 [(7,.c),(14,.c),(15,.c),(16,.c),(17,.q)])) yF nX (wS zou) nX (λr hr=>hr) (wX I (xB yI pH aj) λbw az=>(go1 ?_));refine xY I (λ_ _=>(zX (sz:=3) j underlying31 sizeOf29 I I I oM).cv (show _=vP b6 ((j*3+0)) from zbi (vP b6) oM)) I (wX I (xB yI (Pc.ta pH j oM) Z) λbv ay=>(go1 ?_));refine xY I (λ_ _=>(zX (sz:=3) j underlying31 sizeOf29 I I I oM).cv (show _=vP O ((j*3+0)) from zbi (vP O) oM)) I (wX I (xB yI (Pc.ta pH j oM) C) λbu ax=>(go1 ?_));refine xY I (λ_ _=>(zX (sz:=3) i underlying31 sizeOf29 I I I oM).cv (show _=vP b7 ((i*3+0)) from zbi (vP b7) oM)) I (wX I (xB yI (Pc.ta pH i oM) U) λbs aw=>(go1 ?_));refine xY I (λ_ _=>(zX (sz:=3) i underlying31 sizeOf29 I I I oM).cv (show _=vP O ((i*3+0)) from zbi (vP O) oM)) I (wX I (xB yI (Pc.ta pH i oM) C) λbr av=>?_);refine w_c I (sC (ev2 I I) call121 (λw hs=>fY hs ay ax oM) λbt h7 cw ac=>?_);replace ac:=Rp.Is.le ac (Le.q (l:=2*k+1) oM);refine w_c I (sC (ev2 I I) call121 (λw hs=>fY hs aw.up av.up oM) λbq h8 cu ab=>?_);replace ab:=Rp.Is.le ab (Le.q (l:=2*k+1) oM);refine w_c I (sC (ev2 I I) call153 (λw hs=>kT hs ac.up ab oM) λbp h9 ct aa=>?_);replace aa:=Rp.Is.le aa (Le.q (l:=4*k+2) oM);refine w_c I (sC (ev2 I I) call182 (λw hs=>aU hs az.up aa oM) λaq dd bn au=>?_);obtain rfl:aq=vI (xU (((b.at i)-(a.at i))*((c.at j)-(a.at j))) (((b.at j)-(a.at j))*((c.at i)-(a.at i)))):=au;have bm:=jF (((b.at i)-(a.at i))*((c.at j)-(a.at j))) (((b.at j)-(a.at j))*((c.at i)-(a.at i)));refine go4 ?_;refine zC I I ?_;exact zbi vI (yJ2 (pr a i j) (pr b i j) (pr c i j))
theorem zBQ{k:Nat}{va:Value}{a:Rat}(ra:(rpQ k).Is h0 va a){vb:Value}{b:Rat}(rb:(rpQ k).Is h0 vb b){vx:Value}{x:Rat}(rx:(rpQ k).Is h0 vx x)(hcd0:k<=1000000000):
 Calls prog 212 #[va,vb,vx] w0 (Ret w0 h0 (λ_ r=>r=vB (qY a b x))):=by
 refine cb3 29 va vb vx func212 hs ?_;refine go2 ?_;refine nB ra λb3 ap O=>(nB rb λb4 ao M=>(nB rx λb5 an D=>(go4 ?_)));refine zL 8 _ [] [(0,.q),(1,.q),(3,.q),(4,.q),(2,.c),(5,.c),(6,.q),(7,.q)] yF nX zou nX (λr hr=>hr) (wX I (xB yI pH O) λv9 r9=>(wX I (xB yI pH D) λaj ac=>(wX I (xB yI pH D) λai aa=>(wX I (xB yI pH M) λah Z=>?_))));refine w_c I (sC (ev2 I I) call182 (λw hs=>aU hs r9 ac oM) λJ h1 am ab=>?_);obtain rfl:J=vI (xU a x):=ab;have ae:=jF a x;refine w_c I (sC (ev2 I I) call182 (λw hs=>aU hs aa.up Z.up oM) λH h2 ak U=>?_);obtain rfl:H=vI (xU x b):=U;have ad:=jF x b;refine go8 ?_;refine gU 4 20 (vB (((xU a x)<=(0:Int))/\((xU x b)<=(0:Int)))) ?_ ?_
 ·
  refine zY ((xU a x)<=(0:Int)) (λC=>?_) (λC=>?_)
  ·
   refine gT C I (go6 ?_);refine gqU ?_;exact y3u (xL C)
  refine gF C I (go4 ?_);refine gqU ?_;exact y3u (xM C)
 refine gU 8 28 (vB ((((xU a x)<=(0:Int))/\((xU x b)<=(0:Int)))\/(((0:Int)<=(xU a x))/\((0:Int)<=(xU x b))))) ?_ ?_
 ·
  refine zY (((xU a x)<=(0:Int))/\((xU x b)<=(0:Int))) (λC=>?_) (λC=>?_)
  ·
   refine gT C I (go8 ?_);refine gqU ?_;exact y3u (vV C)
  refine gF C I (go4 ?_);refine gU 4 27 (vB (((0:Int)<=(xU a x))/\((0:Int)<=(xU x b)))) ?_ ?_
  ·
   refine zY ((0:Int)<=(xU a x)) (λC=>?_) (λC=>?_)
   ·
    refine go1 ?_;refine gT C I (go7 ?_);refine gqU ?_;exact y3u (xL C)
   refine go1 ?_;refine gF C I (go5 ?_);refine gqU ?_;exact y3u (xM C)
  refine go2 ?_;refine gqU ?_;exact y3u (vW C)
 refine go4 ?_;refine zC I I ?_;exact kO yCQ
theorem yEV{k:Nat}{va:Value}{a:Tq}(ra:(tPt k).Is h0 va a){vb:Value}{b:Tq}(rb:(tPt k).Is h0 vb b){vp:Value}{p:Tq}(rp:(tPt k).Is h0 vp p){i:Nat}{j:Nat}(hcd0:i<3)(hcd1:j<3)(hcd2:k<=1000000000):
 Calls prog 205 #[va,vb,vp,vI ↑i,vI ↑j] w0 (Ret w0 h0 (λ_ r=>r=vB (onS (pr a i j) (pr b i j) (pr p i j)))):=by
 refine jT (n:=42) (e:=[(0,va),(1,vb),(2,vp),(3,vI ↑i),(4,vI ↑j)]) (vs:=[va,vb,vp,vI ↑i,vI ↑j]) func205 rfl rfl (bL rfl) hs e5z (go2 ?_);refine nB ra λZ bj M=>(nB rb λU bi J=>(nB rp λO bh H=>(go4 ?_)));refine zL 32 _ [] (zai 0 9 ((9,.c)::zai 10 10 ((20,.c)::zai 21 7 [(28,.c),(29,.q),(30,.q),(31,.q)]))) yF nX (wS zou) nX (λr hr=>hr) (go1 ?_);refine xY I (λ_ _=>(zX (sz:=3) i underlying31 sizeOf29 I I I oM).cv (show _=vP Z ((i*3+0)) from zbi (vP Z) oM)) I (wX I (xB yI (Pc.ta pH i oM) M) λbd ar=>(go1 ?_));refine xY I (λ_ _=>(zX (sz:=3) i underlying31 sizeOf29 I I I oM).cv (show _=vP U ((i*3+0)) from zbi (vP U) oM)) I (wX I (xB yI (Pc.ta pH i oM) J) λbc aq=>(go1 ?_));refine xY I (λ_ _=>(zX (sz:=3) i underlying31 sizeOf29 I I I oM).cv (show _=vP O ((i*3+0)) from zbi (vP O) oM)) I (wX I (xB yI (Pc.ta pH i oM) H) λbb ap=>?_);refine w_c I (sC (ev3 I I I) call212 (λw hs=>zBQ hs ar aq ap oM) λac h1 bg ao=>?_);obtain rfl:ac=vB (qY (a.at i) (b.at i) (p.at i)):=ao;refine go1 ?_;refine kD (qY (a.at i) (b.at i) (p.at i)) (λD=>?_) (λD=>?_)
 ·
  rw[wA D];refine yV I I I (λh' L' hh hR=>xG I) I (yV I I I (λh' L' hh hR=>(zX (sz:=3) j underlying31 sizeOf29 I I I oM).cv (show _=vP Z ((j*3+0)) from zbi (vP Z) oM)) I (oX I (xB yI (Pc.ta pH j oM) M) λba an=>(yV I I I (λh' L' hh hR=>xG I) I (yV I I I (λh' L' hh hR=>(zX (sz:=3) j underlying31 sizeOf29 I I I oM).cv (show _=vP U ((j*3+0)) from zbi (vP U) oM)) I (oX I (xB yI (Pc.ta pH j oM) J) λaz am=>(yV I I I (λh' L' hh hR=>xG I) I (yV I I I (λh' L' hh hR=>(zX (sz:=3) j underlying31 sizeOf29 I I I oM).cv (show _=vP O ((j*3+0)) from zbi (vP O) oM)) I (oX I (xB yI (Pc.ta pH j oM) H) λay ak=>?_))))))));refine w_c I (zCW I I (sC (ev3 I I I) call212 (λw hs=>zBQ hs an am ak oM) λab h2 bf aj=>?_));obtain rfl:ab=vB (qY (a.at j) (b.at j) (p.at j)):=aj;refine go2 ?_;refine kD (qY (a.at j) (b.at j) (p.at j)) (λC=>?_) (λC=>?_)
  ·
   rw[wA C];refine oX I (xB zN pH M) λax ai=>(oX I (xB zN pH J) λaw ah=>(oX I (xB zN pH H) λav ae=>(yV I I I (λh' L' hh hR=>xG I) I (yV I I I (λh' L' hh hR=>xG I) I ?_))));refine w_c I (zCW I I (sC (vs:=[_,_,_,_,_]) e5z call206 (λw hs=>zEG (i:=i) (j:=j) hs ai ah ae oM oM oM) λaa h3 be ad=>?_));obtain rfl:aa=vI (orZ (pr a i j) (pr b i j) (pr p i j)):=ad;have au:=tU (pr a i j) (pr b i j) (pr p i j);refine go6 ?_;refine zC I I ?_
   first|exact kO (by unfold onS;simp only[pr,<-fW] at *;grind)|exact(wA (by unfold onS;simp only[pr,<-fW] at *;grind)).symm|exact(yN (by unfold onS;simp only[pr,<-fW] at *;grind)).symm
  rw[yN C];refine go5 ?_;refine w_c I (mO I I I I (go6 ?_));refine zC I I ?_
  first|exact kO (by unfold onS;simp only[pr,<-fW] at *;grind)|exact(wA (by unfold onS;simp only[pr,<-fW] at *;grind)).symm|exact(yN (by unfold onS;simp only[pr,<-fW] at *;grind)).symm
 rw[yN D];refine go9 ?_;refine w_c I (mO I I I I (go7 ?_));refine w_c I (mO I I I I (go6 ?_));refine zC I I ?_
 first|exact kO (by unfold onS;simp only[pr,<-fW] at *;grind)|exact(wA (by unfold onS;simp only[pr,<-fW] at *;grind)).symm|exact(yN (by unfold onS;simp only[pr,<-fW] at *;grind)).symm
theorem zN5{k:Nat}{vl:Value}{l:(List Tq)}(rl:(tLs k).Is h0 vl l){vp:Value}{p:Tq}(rp:(tPt k).Is h0 vp p){i:Nat}{j:Nat}(hcd0:i<3)(hcd1:j<3)(hcd2:k<=100000)(hcd3:l.length<=1000):
 Calls prog 183 #[vl,vp,vI ↑i,vI ↑j] w0 (Ret w0 h0 (λ_ r=>r=vI (kW l (pr p i j) i j))):=by
 refine jT (n:=78) (e:=[(0,vl),(1,vp),(2,vI ↑i),(3,vI ↑j)]) (vs:=[vl,vp,vI ↑i,vI ↑j]) func183 rfl rfl (bL rfl) hs e4z (go2 ?_);refine nB rp λb5 bp aa=>(mF ?_);refine gcL (ι:=Nat×Mem) (λ(m,ma)=>(MLe h0 ma/\(m<=l.length/\∀q,q<m->¬onS (vG l i j q) (vD l i j q) (pr p i j)),[(0,vl),(2,vI ↑i),(3,vI ↑j),(5,vP b5 0),(9,vB (jN l (pr p i j) i j m)),(16,vl),(17,vI (↑(l).length:Int)),(18,vI ↑m)],[.var b5 31 bp],ma,l.length-m)) (0,h0) ?_ ?_ (he:=⟨I,I,I,I,y3u (yN id).symm,I,I,I,y3e⟩)
 · exact⟨mle,by omega,λq hq=>by omega⟩
 rintro⟨m,ma⟩ ⟨bq,ai,O⟩
 refine xD ?_;refine gc6 (λaj=>?_) λaj=>?_
 ·
  refine go7 ?_;refine lX (xI zT m underlying35 zN rl) λci bk=>(lX (xA zN bk) λch bj=>(nA (ρ:=(tPt 1)) (X:=zT) yS (xW (yM dC)) λam bt ah=>(go1 ?_)));have ad:=(Le.t (Le.q (l:=k+1) oM)).R ah;refine yD (A:=[]) (uB sizeOf31 pH ad (bj.le (Le.t (Le.q (l:=k+1) oM)))) λbr M=>(go9 ?_);refine gv (wI I I oM oM) I (lX (xI zT ((m+1)%l.length) underlying35 zN rl (hi:=by exact zcu _ oM)) λcg bi=>(lX (xA zN bi) λcf bh=>(nA (ρ:=(tPt 1)) (X:=zT) yS (xW (yM dC)) λak bs ae=>?_)));have ac:=(Le.t (Le.q (l:=k+1) oM)).R ae;refine yD (A:=[]) (uB sizeOf31 pH ac (bh.le (Le.t (Le.q (l:=k+1) oM)))) λbo J=>(go5 ?_);refine lX (xB zN pH M) λce bg=>(lX (xB zN pH J) λcd bf=>(lX (xB zN pH aa) λcc be=>(go2 ?_)));refine cL (vs:=[_,_,_,_,_]) e5z call205 (λw hs=>yEV (i:=i) (j:=j) hs bg bf (be.le (Le.t (Le.q (l:=k+1) oM))) oM oM oM) λaq h1 cm bd=>?_;obtain rfl:aq=vB (onS (pr (l.getD m zT) i j) (pr (l.getD ((m+1)%l.length) zT) i j) (pr p i j)):=bd;refine gc2 (λH=>?_) λH=>?_
  ·
   refine uY ?_;refine zC I I ?_;exact zbi vI (yA0 oM H)
  refine go3 ?_;refine zL 18 _ [] (zai 0 6 (zai 8 6 [(6,.c),(7,.q),(14,.c),(15,.q),(16,.q),(17,.q)])) yF nX (wS zou) nX (λr hr=>hr) (go1 ?_);refine xY I (λ_ _=>(zX (sz:=3) j underlying31 sizeOf29 I I I oM).cv (show _=vP am ((j*3+0)) from zbi (vP am) oM)) I (wX I (xB yI (Pc.ta pH j oM) M) λcb bc=>(go1 ?_));refine xY I (λ_ _=>(zX (sz:=3) j underlying31 sizeOf29 I I I oM).cv (show _=vP b5 ((j*3+0)) from zbi (vP b5) oM)) I (wX I (xB yI (Pc.ta pH j oM) aa) λca bb=>(go1 ?_));refine xY I (λ_ _=>(zX (sz:=3) j underlying31 sizeOf29 I I I oM).cv (show _=vP ak ((j*3+0)) from zbi (vP ak) oM)) I (wX I (xB yI (Pc.ta pH j oM) J) λbz az=>(go1 ?_));refine xY I (λ_ _=>(zX (sz:=3) j underlying31 sizeOf29 I I I oM).cv (show _=vP b5 ((j*3+0)) from zbi (vP b5) oM)) I (wX I (xB yI (Pc.ta pH j oM) aa) λbx ay=>?_);refine w_c I (sC (ev2 I I) call182 (λw hs=>aU hs bc bb oM) λap h2 cl ba=>?_);obtain rfl:ap=vI (xU ((l.getD m zT).at j) (p.at j)):=ba;have bn:=jF ((l.getD m zT).at j) (p.at j);refine go1 ?_;refine w_c I (sC (ev2 I I) call182 (λw hs=>aU hs az.up ay.up oM) λao h3 ck ax=>?_);obtain rfl:ao=vI (xU ((l.getD ((m+1)%l.length) zT).at j) (p.at j)):=ax;have bm:=jF ((l.getD ((m+1)%l.length) zT).at j) (p.at j);refine uQ ?_;refine gv (lL underlying4 I I) I (gc2 (λZ=>?_) λZ=>?_)
  ·
   have ab:(vG l i j m).2<=(pr p i j).2↔(vD l i j m).2<=(pr p i j).2:=by have h:=Z;rw[kH,kH] at h;exact h
   refine go8 ?_;refine yW (A:=[]) (yW (A:=[]) ?_);refine gqL ((m+1),h3) ?_ ?_ (he:=⟨I,I,I,I,zbi (λz=>some (vB z)) (zZM ab),I,I,I,y3e⟩)
   · exact⟨mle,by omega,zBL O H⟩
   omega
  have ab:¬((vG l i j m).2<=(pr p i j).2↔(vD l i j m).2<=(pr p i j).2):=by have h:=Z;rw[kH,kH] at h;exact h
  refine go4 ?_;refine lX (xB zN pH M) λbw aw=>(lX (xB zN pH J) λbv av=>(lX (xB zN pH aa) λbu au=>(go2 ?_)));refine cL (vs:=[_,_,_,_,_]) e5z call206 (λw hs=>zEG (i:=i) (j:=j) hs aw av (au.le (Le.t (Le.q (l:=k+1) oM))) oM oM oM) λan h4 cj ar=>?_;obtain rfl:an=vI (orZ (pr (l.getD m zT) i j) (pr (l.getD ((m+1)%l.length) zT) i j) (pr p i j)):=ar;have bl:=tU (pr (l.getD m zT) i j) (pr (l.getD ((m+1)%l.length) zT) i j) (pr p i j);refine go6 ?_;refine gU 4 66 (vB (((xU ((l.getD m zT).at j) (p.at j))<=(0:Int))/\((0:Int)<(orZ (pr (l.getD m zT) i j) (pr (l.getD ((m+1)%l.length) zT) i j) (pr p i j))))) ?_ ?_
  ·
   refine zY ((xU ((l.getD m zT).at j) (p.at j))<=(0:Int)) (λC=>?_) (λC=>?_)
   ·
    refine gT C I (go6 ?_);refine gqU ?_;exact y3u (xL C)
   refine gF C I (go4 ?_);refine gqU ?_;exact y3u (xM C)
  refine gU 7 73 (vB ((((xU ((l.getD m zT).at j) (p.at j))<=(0:Int))/\((0:Int)<(orZ (pr (l.getD m zT) i j) (pr (l.getD ((m+1)%l.length) zT) i j) (pr p i j))))\/(((xU ((l.getD ((m+1)%l.length) zT).at j) (p.at j))<=(0:Int))/\((orZ (pr (l.getD m zT) i j) (pr (l.getD ((m+1)%l.length) zT) i j) (pr p i j))<(0:Int))))) ?_ ?_
  ·
   refine zY (((xU ((l.getD m zT).at j) (p.at j))<=(0:Int))/\((0:Int)<(orZ (pr (l.getD m zT) i j) (pr (l.getD ((m+1)%l.length) zT) i j) (pr p i j)))) (λC=>?_) (λC=>?_)
   ·
    refine gT C I (go7 ?_);refine gqU ?_;exact y3u (vV C)
   refine gF C I (go2 ?_);refine gU 4 72 (vB (((xU ((l.getD ((m+1)%l.length) zT).at j) (p.at j))<=(0:Int))/\((orZ (pr (l.getD m zT) i j) (pr (l.getD ((m+1)%l.length) zT) i j) (pr p i j))<(0:Int)))) ?_ ?_
   ·
    refine zY ((xU ((l.getD ((m+1)%l.length) zT).at j) (p.at j))<=(0:Int)) (λC=>?_) (λC=>?_)
    ·
     refine go1 ?_;refine gT C I (go7 ?_);refine gqU ?_;exact y3u (xL C)
    refine go1 ?_;refine gF C I (go5 ?_);refine gqU ?_;exact y3u (xM C)
   refine go2 ?_;refine gqU ?_;exact y3u (vW C)
  refine gc2 (λD=>?_) λD=>?_
  ·
   rw[kH,kH] at D;refine qK ?_;refine yW (A:=[]) (yW (A:=[]) ?_);refine gqL ((m+1),h4) ?_ ?_ (he:=⟨I,I,I,I,zbi (λz=>some (vB z)) (zZN ab D),I,I,I,y3e⟩)
   · exact⟨mle,by omega,zBL O H⟩
   omega
  rw[kH,kH] at D;refine go7 ?_;refine yW (A:=[]) (yW (A:=[]) ?_);refine gqL ((m+1),h4) ?_ ?_ (he:=⟨I,I,I,I,zbi (λz=>some (vB z)) (zZL D),I,I,I,y3e⟩)
  · exact⟨mle,by omega,zBL O H⟩
  omega
 refine zDO (λU=>?_) λU=>?_
 ·
  refine go7 ?_;refine zC I I ?_;exact zbi vI (yA1 oM ai O U)
 refine go8 ?_;refine zC I I ?_;exact zbi vI (zTJ oM ai O U)
end
end Go.Proofs.YtpkaegemlpaenaaGreat
namespace Bk
open Go Go.RowKit
theorem Is.up{h h':Mem}{v:Value}{xs:List Int}(r:Is h v xs)(hm:MLe h h':=by exact mle):Is h' v xs:=r.mono hm
end Bk
namespace Go.Proofs.YtpkaegemlpaenaaGreat
open Bk Go Tryz
attribute [local irreducible] GL GC GQ W OpV
section
variable{w0:World}{h0:Mem}(hs:MLe h0 (mem w0))
include hs
theorem zN1{k l:Nat}{va:Value}{a:Tq}(ra:(tPt k).Is h0 va a){vb:Value}{b:Tq}(rb:(tPt l).Is h0 vb b)(hcd0:k+l<=1000000000):
 Calls prog 22 #[va,vb] w0 (Ret w0 h0 (λh r=>(tPt (k+3*l+3)).Is h r (T3.mk (a.x-b.x) (a.y-b.y) (a.z-b.z)))):=by
 refine cb2 20 va vb func22 hs ?_;refine go2 ?_;refine nB ra λb2 bn au=>(nB rb λb3 bm aj=>(nA (ρ:=(tPt (k+3*l+3))) (X:=zT) yS (xW (yM oM)) λb4 bl bc=>(go9 ?_)));refine tV (go4 ?_);refine gv (OpV.tr dC (yO (q:=3) I I)) I (go7 ?_);refine zL 9 _ [] (zai 0 7 [(7,.c),(8,.q),(9,.t)]) yF nX zou nX (λr hr=>hr) (go3 ?_);refine wX I (xB yI (y5u pH) au) λbb ar=>(go2 ?_);refine wX I (xB yI (y5u pH) aj) λay ao=>?_;refine w_c I (sC (ev2 I I) call55 (λw hs=>tJ hs ar ao oM) λaa h1 bk M=>?_)
 change (rpQ (k+l+1)).Is h1 aa (a.x-b.x) at M
 refine go1 ?_;have ad:=(Le.t (Le.q (l:=k+l+1) oM)).R au;refine yJ (A:=[_,_]) I (uB sizeOf29 (y5u pH) ad M) λbg J=>(go5 ?_);refine gv ((zU (q:=1) I I oM oM).cv (show _=vI (1) from I)) I (go2 ?_);refine wQ (go4 ?_);refine gv (OpV.tr dC (yO (q:=3) I I)) I (go7 ?_);refine zL 9 _ [] (zai 0 7 [(7,.c),(8,.q),(9,.t)]) yF nX zou nX (λr hr=>hr) (go3 ?_);refine wX I (xB yI (y5e pH) J) λba aq=>(go2 ?_);refine wX I (xB yI (y5e pH) aj) λax an=>?_;refine w_c I (sC (ev2 I I) call55 (λw hs=>tJ hs aq an oM) λZ h2 bj D=>?_)
 change (rpQ ((k+l+1)+l+1)).Is h2 Z (a.y-b.y) at D
 replace D:=Rp.Is.le D (Le.q (l:=k+2*l+2) oM);refine go1 ?_;have ac:=(Le.t (Le.q (l:=k+2*l+2) oM)).R J;refine yJ (A:=[_,_]) I (uB sizeOf29 (y5e pH) ac D) λbf H=>(go5 ?_);refine gv ((zU (q:=1) I I oM oM).cv (show _=vI (2) from I)) I (go2 ?_);refine wQ (go4 ?_);refine gv (OpV.tr dC (yO (q:=3) I I)) I (go7 ?_);refine zL 9 _ [] (zai 0 7 [(7,.c),(8,.q),(9,.t)]) yF nX zou nX (λr hr=>hr) (go3 ?_);refine wX I (xB yI (y6i pH) H) λaz ap=>(go2 ?_);refine wX I (xB yI (y6i pH) aj) λaw am=>?_;refine w_c I (sC (ev2 I I) call55 (λw hs=>tJ hs ap am oM) λU h3 bi C=>?_)
 change (rpQ ((k+2*l+2)+l+1)).Is h3 U (a.z-b.z) at C
 replace C:=Rp.Is.le C (Le.q (l:=k+3*l+3) oM);refine go1 ?_;have ab:=(Le.t (Le.q (l:=k+3*l+3) oM)).R H;refine yJ (A:=[_,_]) I (uB sizeOf29 (y6i pH) ab C) λbe ai=>(go5 ?_);refine gv ((zU (q:=1) I I oM oM).cv (show _=vI (3) from I)) I (go2 ?_);refine wQ (go4 ?_);refine gv (OpV.fa dC (yO (q:=3) I I)) I (uQ ?_);refine lX (xB zN pH ai) λav ak=>(yD (A:=[]) (uB sizeOf31 pH bc ak) λbd ah=>(go3 ?_));refine vM (gG (t:=4) zN mh0 I ah) ?_;intro bh O ae;refine xC (λE S=>yB I O E S) ?_;exact ae
theorem zGN{l k:Nat}{vq:Value}{q:Rat}(rq:(rpQ l).Is h0 vq q){va:Value}{a:Tq}(ra:(tPt k).Is h0 va a)(hcd0:k+l<=1000000000):
 Calls prog 20 #[vq,va] w0 (Ret w0 h0 (λh r=>(tPt (k+3*l+1)).Is h r (T3.mk (q*a.x) (q*a.y) (q*a.z)))):=by
 refine cb2 18 vq va func20 hs ?_;refine go2 ?_;refine nB rq λb2 bn ap=>(nB ra λb3 bm au=>(nA (ρ:=(tPt (k+3*l+1))) (X:=zT) yS (xW (yM oM)) λb4 bl bc=>(go9 ?_)));refine tV (go4 ?_);refine gv (OpV.tr dC (yO (q:=3) I I)) I (go7 ?_);refine zL 7 _ [] (zai 0 5 [(5,.c),(6,.q),(7,.t)]) yF nX zou nX (λr hr=>hr) (go1 ?_);refine wX I (xB yI pH ap) λbb ar=>(go2 ?_);refine wX I (xB yI (y5u pH) au) λba aq=>?_;refine w_c I (sC (ev2 I I) call53 (λw hs=>jC hs ar aq oM) λah h1 bk H=>?_)
 change (rpQ (l+k)).Is h1 ah (q*a.x) at H
 replace H:=Rp.Is.le H (Le.q (l:=k+l) oM);refine go1 ?_;have ak:=(Le.t (Le.q (l:=k+l) oM)).R au;refine yJ (A:=[_]) I (uB sizeOf29 (y5u pH) ak H) λbg M=>(go5 ?_);refine gv ((zU (q:=1) I I oM oM).cv (show _=vI (1) from I)) I (go2 ?_);refine wQ (go4 ?_);refine gv (OpV.tr dC (yO (q:=3) I I)) I (go7 ?_);refine zL 7 _ [] (zai 0 5 [(5,.c),(6,.q),(7,.t)]) yF nX zou nX (λr hr=>hr) (go1 ?_);refine wX I (xB yI pH ap) λaz ad=>(go2 ?_);refine wX I (xB yI (y5e pH) M) λax ab=>?_;refine w_c I (sC (ev2 I I) call53 (λw hs=>jC hs ad ab oM) λU h2 bj D=>?_)
 change (rpQ (l+(k+l))).Is h2 U (q*a.y) at D
 replace D:=Rp.Is.le D (Le.q (l:=k+2*l) oM);refine go1 ?_;have aj:=(Le.t (Le.q (l:=k+2*l) oM)).R M;refine yJ (A:=[_]) I (uB sizeOf29 (y5e pH) aj D) λbf J=>(go5 ?_);refine gv ((zU (q:=1) I I oM oM).cv (show _=vI (2) from I)) I (go2 ?_);refine wQ (go4 ?_);refine gv (OpV.tr dC (yO (q:=3) I I)) I (go7 ?_);refine zL 7 _ [] (zai 0 5 [(5,.c),(6,.q),(7,.t)]) yF nX zou nX (λr hr=>hr) (go1 ?_);refine wX I (xB yI pH ap) λay ac=>(go2 ?_);refine wX I (xB yI (y6i pH) J) λaw aa=>?_;refine w_c I (sC (ev2 I I) call53 (λw hs=>jC hs ac aa oM) λO h3 bi C=>?_)
 change (rpQ (l+(k+2*l))).Is h3 O (q*a.z) at C
 replace C:=Rp.Is.le C (Le.q (l:=k+3*l) oM);refine go1 ?_;have ai:=(Le.t (Le.q (l:=k+3*l) oM)).R J;refine yJ (A:=[_]) I (uB sizeOf29 (y6i pH) ai C) λbe ao=>(go5 ?_);refine gv ((zU (q:=1) I I oM oM).cv (show _=vI (3) from I)) I (go2 ?_);refine wQ (go4 ?_);refine gv (OpV.fa dC (yO (q:=3) I I)) I (uQ ?_);refine lX (xB zN pH ao) λav Z=>(yD (A:=[]) (uB sizeOf31 pH bc (Z.le (Le.t (Le.q (l:=k+3*l+1) oM)))) λbd an=>(go3 ?_));refine vM (gG (t:=4) zN mh0 I an) ?_;intro bh ae am;refine xC (λE S=>yB I ae E S) ?_;exact am
theorem fG{x:Int}(hx1:-9223372036854775808<=x)(hx2:x<9223372036854775808){y:Int}(hy1:-9223372036854775808<=y)(hy2:y<9223372036854775808){z:Int}(hz1:-9223372036854775808<=z)(hz2:z<9223372036854775808):
 Calls prog 12 #[vI x,vI y,vI z] w0 (Ret w0 h0 (λh r=>(tPt 2).Is h r (T3.mk ((x:Int):Rat) ((y:Int):Rat) ((z:Int):Rat)))):=by
 refine cb3 14 (vI x) (vI y) (vI z) func12 hs ?_;refine go2 ?_;refine nA (ρ:=(tPt 1)) (X:=zT) yS (xW (yM dC)) λb6 ak M=>(go5 ?_);refine cL (ev1 I) call27 (λw hs=>gJ hs oM oM) λv8 h1 aj r8=>(go1 ?_);refine cL (ev1 I) call27 (λw hs=>gJ hs oM oM) λae h2 ai Z=>(go1 ?_);refine cL (ev1 I) call27 (λw hs=>gJ hs oM oM) λad h3 ah U=>(lX (xV (ρ:=(tPt 2)) (wH (ps':=[(0,_),(1,_),(2,_)]) underlying31 yS I I sizeOf29 e6z I (xW (yM dC)) (zD I (y5u (y4i _)) r8.up (zD I (y5e (y4i _)) Z.up (zD I (y6i (y4i _)) U zP))))) λac O=>?_);have D:=(Le.t (Le.q (l:=2) dC)).R M;refine yD (A:=[]) (uB sizeOf31 pH D O) λaa J=>(go3 ?_);refine vM (gG (t:=6) zN mh0 I J) ?_;intro ab C H;refine xC (λE S=>yB I C E S) ?_;exact H
end
end Go.Proofs.YtpkaegemlpaenaaGreat
namespace Bk
open Go Go.RowKit
open Classical
abbrev Pl:=Pt×Rat
theorem tG{x:Rat}:yX x=1↔0<x:=by
 have h2:=xK x;rw[<-nM];omega
theorem gV{x:Rat}:yX x= -1↔x<0:=by
 have h2:=xK x;rw[<-jI];omega
theorem kJ{a b:Pt}:a=b↔a.x=b.x/\a.y=b.y/\a.z=b.z:=by cases a;cases b;exact T3.mk.injEq ..▸Iff.rfl
def axI(n:Pt):Nat:=if 0<n.z then 0 else if n.z<0 then 1 else if 0<n.y then 2 else if n.y<0 then 0 else if 0<n.x then 1 else if n.x<0 then 2 else 1
def axJ(n:Pt):Nat:=if 0<n.z then 1 else if n.z<0 then 0 else if 0<n.y then 0 else if n.y<0 then 2 else if 0<n.x then 2 else if n.x<0 then 1 else 2
def axK(n:Pt):Nat:=if n.z≠0 then 2 else if n.y≠0 then 1 else 0
theorem zCL(n:Pt):(0<n.z/\axI n=0/\axJ n=1/\axK n=2)\/(n.z<0/\axI n=1/\axJ n=0/\axK n=2)\/(n.z=0/\0<n.y/\axI n=2/\axJ n=0/\axK n=1)\/(n.z=0/\n.y<0/\axI n=0/\axJ n=2/\axK n=1)\/
 (n.z=0/\n.y=0/\0<n.x/\axI n=1/\axJ n=2/\axK n=0)\/(n.z=0/\n.y=0/\n.x<0/\axI n=2/\axJ n=1/\axK n=0)\/(n.z=0/\n.y=0/\n.x=0/\axI n=1/\axJ n=2/\axK n=0):=by
 have C:∀a:Rat,0<a\/(a<0/\¬0<a)\/(a=0/\¬0<a/\¬a<0):=λa=>by grind
 unfold axI axJ axK
 rcases C n.z with h|⟨h,h'⟩|⟨h,h',h''⟩
 · left;simp only[zau h,zau (show n.z≠0 by grind)];exact⟨h,y3e,y3e,y3e⟩
 · right;left;simp only[zae h',zau h,zau (show n.z≠0 by grind)];exact⟨h,y3e,y3e,y3e⟩
 · simp only[zae h',zae h'',zae (show ¬n.z≠0 by grind)]
   rcases C n.y with k|⟨k,k'⟩|⟨k,k',k''⟩
   · right;right;left;simp only[zau k,zau (show n.y≠0 by grind)];exact⟨h,k,y3e,y3e,y3e⟩
   · right;right;right;left;simp only[zae k',zau k,zau (show n.y≠0 by grind)];exact⟨h,k,y3e,y3e,y3e⟩
   · simp only[zae k',zae k'',zae (show ¬n.y≠0 by grind)]
     rcases C n.x with l|⟨l,l'⟩|⟨l,l',l''⟩
     · right;right;right;right;left;simp only[zau l];exact⟨h,k,l,y3e,y3e,y3e⟩
     · right;right;right;right;right;left;simp only[zae l',zau l];exact⟨h,k,l,y3e,y3e,y3e⟩
     · right;right;right;right;right;right;simp only[zae l',zae l''];exact⟨h,k,l,y3e,y3e,y3e⟩
theorem zD2(n:Pt):axI n+axJ n<=3/\axI n<3/\axJ n<3/\axK n=3-axI n-axJ n:=by
 rcases zCL n with h|h|h|h|h|h|h<;>omega
theorem yC1(n:Pt):axI n<3:=(zD2 n).2.1
theorem yCZ(n:Pt):axJ n<3:=(zD2 n).2.2.1
theorem zUI(n:Pt):n.at (axK n)=0↔n=T3.mk (0:Rat) 0 0:=by
 obtain⟨x,y,z⟩:=n;rw[T3.mk.injEq]
 rcases zCL ⟨x,y,z⟩ with h|h|h|h|h|h|h<;>simp only at h<;>obtain⟨h,h1⟩:=h
 all_goals first|rw[h1.2.2]|rw[h1.2.2.2]|rw[h1.2.2.2.2]
 all_goals simp only[T3.at]
 all_goals grind
def qL(pl:Pl)(p:Pt):Pt:=T3.mk (p.at (axI pl.1)) (p.at (axJ pl.1)) (0:Rat)
def yAM(pl:Pl)(q:Pt):Rat:=if pl.1.at (axK pl.1)=0 then 0 else(pl.2-(pl.1.at (axI pl.1)*q.x+pl.1.at (axJ pl.1)*q.y))/pl.1.at (axK pl.1)
def t7(pl:Pl)(q:Pt):Pt:=if pl.1.at (axK pl.1)=0 then T3.mk (0:Rat) 0 0 else(((T3.mk (0:Rat) 0 0).set (axI pl.1) q.x).set (axJ pl.1) q.y).set (axK pl.1) (yAM pl q)
def zM(a b:Pt):Rat:=a.x*b.x+a.y*b.y+a.z*b.z
def yC(a b:Pt):Pt:=T3.mk (a.y*b.z-a.z*b.y) (a.z*b.x-a.x*b.z) (a.x*b.y-a.y*b.x)
def yZ(a b:Pt):Pt:=T3.mk (a.x-b.x) (a.y-b.y) (a.z-b.z)
theorem yHG(a b c:Pt):uV [a,b,c] 0 1 3=(b.x-a.x)*(c.y-a.y)-(b.y-a.y)*(c.x-a.x):=by
 simp[uV,gp,T3.at];grind
theorem zI0{ni nj nk d ai aj ak bi bj bk ci cj ck:Rat}(ha:nk*ak=d-(ni*ai+nj*aj))(hb:nk*bk=d-(ni*bi+nj*bj))(hc:nk*ck=d-(ni*ci+nj*cj)):
 nk*(((bj-aj)*(ck-ak)-(bk-ak)*(cj-aj))*ni+((bk-ak)*(ci-ai)-(bi-ai)*(ck-ak))*nj+((bi-ai)*(cj-aj)-(bj-aj)*(ci-ai))*nk)=(ni*ni+nj*nj+nk*nk)*((bi-ai)*(cj-aj)-(bj-aj)*(ci-ai)):=by
 grind
theorem zM6(a:Rat):xU a 0=yX a:=by rw[zHZ,show a-0=a by grind]
theorem iS{c:Rat}(hc:0<c)(x:Rat):yX (c*x)=yX x:=by
 have h:=yCB x 0 c;rw[y2i,zM6,zM6,tG.2 hc,Int.mul_one,Rat.mul_comm] at h;exact h
theorem zI9{c e x y:Rat}(hc:0<c)(he:0<e)(h:c*x=e*y):yX x=yX y:=by
 rw[<-iS hc x,<-iS he y,h]
theorem zXU{i j k:Rat}(hk:k≠0):0<i*i+j*j+k*k:=by
 have h1:0<=i*i:=by rcases @Rat.le_total 0 i with h|h;exact zod h h;have:=zod (a:=-i) (b:=-i) zo0 zo0;grind
 have h2:0<=j*j:=by rcases @Rat.le_total 0 j with h|h;exact zod h h;have:=zod (a:=-j) (b:=-j) zo0 zo0;grind
 have h3:0<k*k:=by
  rcases @Rat.le_total 0 k with h|h
  · exact yce zo0 zo0
  · have:=yce (a:=-k) (b:=-k) zo0 zo0;grind
 grind
theorem zE8{n d m q:Rat}(h:¬n=0):n*((d-m)/n)=d-m:=by
 rw[Rat.mul_comm,yye h]
theorem zFN{ni nj nk d ai aj ak bi bj bk ci cj ck:Rat}(hk:0<nk)(ha:nk*ak=d-(ni*ai+nj*aj))(hb:nk*bk=d-(ni*bi+nj*bj))(hc:nk*ck=d-(ni*ci+nj*cj)){X:Rat}
    (hX:X=((bj-aj)*(ck-ak)-(bk-ak)*(cj-aj))*ni+((bk-ak)*(ci-ai)-(bi-ai)*(ck-ak))*nj+((bi-ai)*(cj-aj)-(bj-aj)*(ci-ai))*nk):
    yX ((bi-ai)*(cj-aj)-(bj-aj)*(ci-ai))=yX X:=by
 rw[hX];exact(zI9 hk (zXU zo0) (zI0 ha hb hc)).symm
theorem zFO{ni nj nk d ai aj ak bi bj bk ci cj ck:Rat}(hk:nk<0)(ha:nk*ak=d-(ni*ai+nj*aj))(hb:nk*bk=d-(ni*bi+nj*bj))(hc:nk*ck=d-(ni*ci+nj*cj)){X:Rat}
    (hX:X= -(((bj-aj)*(ck-ak)-(bk-ak)*(cj-aj))*ni+((bk-ak)*(ci-ai)-(bi-ai)*(ck-ak))*nj+((bi-ai)*(cj-aj)-(bj-aj)*(ci-ai))*nk)):
    yX ((bi-ai)*(cj-aj)-(bj-aj)*(ci-ai))=yX X:=by
 refine(zI9 (c:=-nk) zo0 (zXU (i:=ni) (j:=nj) (k:=nk) zo0) ?_).symm;rw[hX,<-zI0 ha hb hc];grind
theorem zXG(pl:Pl)(p q r:Pt)(h:¬pl.1.at (axK pl.1)=0):
 yX (uV [qL pl (t7 pl p),qL pl (t7 pl q),qL pl (t7 pl r)] 0 1 3)=yX (zM (yC (yZ (t7 pl q) (t7 pl p)) (yZ (t7 pl r) (t7 pl p))) pl.1):=by
 rw[yHG];have O:=zE8 (d:=pl.2) (m:=pl.1.at (axI pl.1)*p.x+pl.1.at (axJ pl.1)*p.y) (q:=0) h;have M:=zE8 (d:=pl.2) (m:=pl.1.at (axI pl.1)*q.x+pl.1.at (axJ pl.1)*q.y) (q:=0) h;have J:=zE8 (d:=pl.2) (m:=pl.1.at (axI pl.1)*r.x+pl.1.at (axJ pl.1)*r.y) (q:=0) h;unfold t7 yAM qL;rw[zae h,zae h,zae h,zae h,zae h,zae h];generalize (pl.2-(pl.1.at (axI pl.1)*p.x+pl.1.at (axJ pl.1)*p.y))/pl.1.at (axK pl.1)=u at *;generalize (pl.2-(pl.1.at (axI pl.1)*q.x+pl.1.at (axJ pl.1)*q.y))/pl.1.at (axK pl.1)=v at *;generalize (pl.2-(pl.1.at (axI pl.1)*r.x+pl.1.at (axJ pl.1)*r.y))/pl.1.at (axK pl.1)=w at *;obtain⟨⟨x,y,z⟩,d⟩:=pl;obtain⟨p1,p2,p3⟩:=p;obtain⟨q1,Z,U⟩:=q;obtain⟨r1,r2,r3⟩:=r
 rcases zCL ⟨x,y,z⟩ with e|e|e|e|e|e|e
 · obtain⟨hs,H,D,C⟩:=e
   simp only[H,D,C,T3.at,T3.set,zM,yC,yZ] at *;exact zFN hs O M J zo0
 · obtain⟨hs,H,D,C⟩:=e
   simp only[H,D,C,T3.at,T3.set,zM,yC,yZ] at *;exact zFO hs O M J zo0
 · obtain⟨h1,hs,H,D,C⟩:=e
   simp only[H,D,C,T3.at,T3.set,zM,yC,yZ] at *;exact zFN hs O M J zo0
 · obtain⟨h1,hs,H,D,C⟩:=e
   simp only[H,D,C,T3.at,T3.set,zM,yC,yZ] at *;exact zFO hs O M J zo0
 · obtain⟨h1,h2,hs,H,D,C⟩:=e
   simp only[H,D,C,T3.at,T3.set,zM,yC,yZ] at *;exact zFN hs O M J zo0
 · obtain⟨h1,h2,hs,H,D,C⟩:=e
   simp only[H,D,C,T3.at,T3.set,zM,yC,yZ] at *;exact zFO hs O M J zo0
 · obtain⟨h1,h2,h3,H,D,C⟩:=e
   rw[C] at h;exact absurd h3 h
theorem zUJ(n:Pt):(axI n=0/\axJ n=1/\axK n=2)\/(axI n=1/\axJ n=0/\axK n=2)\/(axI n=2/\axJ n=0/\axK n=1)\/(axI n=0/\axJ n=2/\axK n=1)\/(axI n=1/\axJ n=2/\axK n=0)\/(axI n=2/\axJ n=1/\axK n=0):=by
 rcases zCL n with h|h|h|h|h|h|h<;>omega
theorem zDH{s:Pl}{p:Pt}(h:¬s.1.at (axK s.1)=0)(hs:yX (zM s.1 p-s.2)=0):t7 s (qL s p)=p:=by
 rw[uT] at hs;have C:=zE8 (d:=s.2) (m:=s.1.at (axI s.1)*p.at (axI s.1)+s.1.at (axJ s.1)*p.at (axJ s.1)) (q:=0) h;unfold t7 yAM qL;rw[zae h,zae h];simp only;generalize (s.2-(s.1.at (axI s.1)*p.at (axI s.1)+s.1.at (axJ s.1)*p.at (axJ s.1)))/s.1.at (axK s.1)=u at *;obtain⟨⟨x,y,z⟩,d⟩:=s;obtain⟨a,b,c⟩:=p;have hz:∀{n u v:Rat},¬n=0->n*u=n*v->u=v:=λ{n u v} h e=>by
  have h1:n*(u-v)=0:=by grind
  rcases zoe.1 h1 with h2|h2
  · exact absurd h2 h
  · grind
 rcases zUJ ⟨x,y,z⟩ with⟨e1,e2,e3⟩|⟨e1,e2,e3⟩|⟨e1,e2,e3⟩|⟨e1,e2,e3⟩|⟨e1,e2,e3⟩|⟨e1,e2,e3⟩<;>simp only[e1,e2,e3,T3.at,T3.set,zM] at *<;>rw[T3.mk.injEq]<;>simp only[true_and,and_true]<;>exact hz h zo0
end Bk
namespace Bk
open Classical
def i3(x y z:Int):Pt:=T3.mk ((x:Int):Rat) ((y:Int):Rat) ((z:Int):Rat)
end Bk
namespace Go.Proofs.YtpkaegemlpaenaaGreat
open Bk Go Tryz
attribute [local irreducible] GL GC GQ W OpV
section
variable{w0:World}{h0:Mem}(hs:MLe h0 (mem w0))
include hs
theorem zV2{k:Nat}{vn:Value}{n:Tq}(rn:(tPt k).Is h0 vn n)(hcd0:k<=1000000000):
 Calls prog 106 #[vn] w0 (Ret w0 h0 (λh r=>r=.tuple #[vI (↑(axI n):Int),vI (↑(axJ n):Int)])):=by
 refine cb1 29 vn func106 hs ?_;refine go2 ?_;refine nB rn λb1 au Z=>(qK ?_);refine tV (go4 ?_);refine gv (OpV.tr dC (rN (q:=0) I I)) I (uQ ?_);refine gv ((zU (q:=1) I I oM oM).cv (show _=vI (3) from I)) I (gv ((wI (q:=3) I I oM oM).cv (show _=vI (0) from I)) I (go1 ?_));refine gv ((zU (q:=2) I I oM oM).cv (show _=vI (4) from I)) I (gv ((wI (q:=3) I I oM oM).cv (show _=vI (1) from I)) I (go8 ?_));refine lX (xB yI (y6i pH) Z) λao ah=>(cL (ev1 I) call122 (λw hs=>pF hs ah oM) λU h1 ar ac=>?_);obtain rfl:U=vI (yX n.z):=ac;have ak:=xK n.z;refine gc9 (λD=>?_) λD=>?_
 ·
  refine pX ?_;refine wU I I I ?_;have J:axI n=0:=by unfold axI;simp only[tG,gV] at *;grind
  have H:axJ n=1:=by unfold axJ;simp only[tG,gV] at *;grind
  rw[J,H];rfl
 refine gc6 (λC=>?_) λC=>?_
 ·
  refine pX ?_;refine wU I I I ?_;have J:axI n=1:=by unfold axI;simp only[tG,gV] at *;grind
  have H:axJ n=0:=by unfold axJ;simp only[tG,gV] at *;grind
  rw[J,H];rfl
 refine go6 ?_;refine gv ((vJ (q:=1) I I oM oM).cv (show _=vI (1) from I)) I (go2 ?_);refine wQ (go4 ?_);refine gv (OpV.tr dC (rN (q:=0) I I)) I (uQ ?_);refine gv ((zU (q:=1) I I oM oM).cv (show _=vI (2) from I)) I (gv ((wI (q:=3) I I oM oM).cv (show _=vI (2) from I)) I (go1 ?_));refine gv ((zU (q:=2) I I oM oM).cv (show _=vI (3) from I)) I (gv ((wI (q:=3) I I oM oM).cv (show _=vI (0) from I)) I (go8 ?_));refine lX (xB yI (y5e pH) Z) λan ae=>(cL (ev1 I) call122 (λw hs=>pF hs ae oM) λO h2 aq ab=>?_);obtain rfl:O=vI (yX n.y):=ab;have aj:=xK n.y;refine gc9 (λD=>?_) λD=>?_
 ·
  refine pX ?_;refine wU I I I ?_;have J:axI n=2:=by unfold axI;simp only[tG,gV] at *;grind
  have H:axJ n=0:=by unfold axJ;simp only[tG,gV] at *;grind
  rw[J,H];rfl
 refine gc6 (λC=>?_) λC=>?_
 ·
  refine pX ?_;refine wU I I I ?_;have J:axI n=0:=by unfold axI;simp only[tG,gV] at *;grind
  have H:axJ n=2:=by unfold axJ;simp only[tG,gV] at *;grind
  rw[J,H];rfl
 refine go6 ?_;refine gv ((vJ (q:=1) I I oM oM).cv (show _=vI (0) from I)) I (go2 ?_);refine wQ (go4 ?_);refine gv (OpV.tr dC (rN (q:=0) I I)) I (uQ ?_);refine gv ((zU (q:=1) I I oM oM).cv (show _=vI (1) from I)) I (gv ((wI (q:=3) I I oM oM).cv (show _=vI (1) from I)) I (go1 ?_));refine gv ((zU (q:=2) I I oM oM).cv (show _=vI (2) from I)) I (gv ((wI (q:=3) I I oM oM).cv (show _=vI (2) from I)) I (go8 ?_));refine lX (xB yI (y5u pH) Z) λam ad=>(cL (ev1 I) call122 (λw hs=>pF hs ad oM) λM h3 ap aa=>?_);obtain rfl:M=vI (yX n.x):=aa;have ai:=xK n.x;refine gc9 (λD=>?_) λD=>?_
 ·
  refine pX ?_;refine wU I I I ?_;have J:axI n=1:=by unfold axI;simp only[tG,gV] at *;grind
  have H:axJ n=2:=by unfold axJ;simp only[tG,gV] at *;grind
  rw[J,H];rfl
 refine gc6 (λC=>?_) λC=>?_
 ·
  refine pX ?_;refine wU I I I ?_;have J:axI n=2:=by unfold axI;simp only[tG,gV] at *;grind
  have H:axJ n=1:=by unfold axJ;simp only[tG,gV] at *;grind
  rw[J,H];rfl
 refine go6 ?_;refine gv ((vJ (q:=1) I I oM oM).cv (show _=vI (-1) from I)) I (go2 ?_);refine wQ (go4 ?_);refine gv (OpV.fa dC (rN (q:=0) I I)) I (pX ?_);refine wU I I I ?_;have J:axI n=1:=by unfold axI;simp only[tG,gV] at *;grind
 have H:axJ n=2:=by unfold axJ;simp only[tG,gV] at *;grind
 rw[J,H];rfl
theorem zJJ{k l:Nat}{va:Value}{a:Tq}(ra:(tPt k).Is h0 va a){vb:Value}{b:Tq}(rb:(tPt l).Is h0 vb b)(hcd0:k+l<=1000000000):
 Calls prog 35 #[va,vb] w0 (Ret w0 h0 (λ_ r=>r=vB (a=b))):=by
 refine cb2 24 va vb func35 hs ?_;refine go2 ?_;refine nB ra λb2 ab J=>(nB rb λb3 aa H=>(go6 ?_));refine lX (xB yI (y5u pH) J) λv6 r6=>(go1 ?_);refine lX (xB yI (y5u pH) H) λv8 r8=>(cL (ev2 I I) call73 (λw hs=>sM hs r6 r8 oM) λv9 h1 au r9=>?_);obtain rfl:v9=vB (a.x=b.x):=r9;refine qE (ι:=Mem) 7 (λM=>MLe h1 M) (λ_=>[(16,vB ((a.x=b.x)/\(a.y=b.y))),(2,vP b2 0),(3,vP b3 0)]) (λ_=>[.var b3 31 aa,.var b2 31 ab]) (λM=>M) ?_ ?_
 ·
  refine zY (a.x=b.x) (λD=>?_) (λD=>?_)
  ·
   refine gT D I (go3 ?_);refine lX (xB yI (y5e pH) J) λar an=>(go3 ?_);refine lX (xB yI (y5e pH) H) λaq am=>(go1 ?_);refine cL (ev2 I I) call73 (λw hs=>sM hs an am oM) λae h2 O ak=>?_;obtain rfl:ae=vB (a.y=b.y):=ak;refine go2 ?_;refine zV h2 O ⟨?_,I,I,y3e⟩ I I;exact y3u (xL D)
  refine gF D I (go7 ?_);refine zV h1 (MLe.refl _) ⟨?_,I,I,y3e⟩ I I;exact y3u (xM D)
 intro C Z;refine sN ?_;refine qE (ι:=Mem) 7 (λM=>MLe C M) (λ_=>[(23,vB (((a.x=b.x)/\(a.y=b.y))/\(a.z=b.z)))]) (λ_=>[.var b3 31 aa,.var b2 31 ab]) (λM=>M) ?_ ?_
 ·
  refine zY ((a.x=b.x)/\(a.y=b.y)) (λD=>?_) (λD=>?_)
  ·
   refine gT D I (go3 ?_);refine lX (xB yI (y6i pH) J) λap aj=>(go3 ?_);refine lX (xB yI (y6i pH) H) λao ai=>(go1 ?_);refine cL (ev2 I I) call73 (λw hs=>sM hs aj ai oM) λad h2 O ah=>?_;obtain rfl:ad=vB (a.z=b.z):=ah;refine go2 ?_;refine zV h2 O ⟨?_,y3e⟩ I I;exact y3u (xL D)
  refine gF D I (go7 ?_);refine zV C (MLe.refl _) ⟨?_,y3e⟩ I I;exact y3u (xM D)
 intro ac U;refine sN ?_;refine go4 ?_;refine zC I I ?_
 first|exact kO (by rw[kJ];grind)|exact(wA (by rw[kJ];grind)).symm|exact(yN (by rw[kJ];grind)).symm
theorem zC8{k:Nat}{va:Value}{a:Tq}(ra:(tPt k).Is h0 va a)(hcd0:k<=1000000):
 Calls prog 80 #[va] w0 (Ret w0 h0 (λ_ r=>r=vB (a=zT))):=by
 refine cb1 6 va func80 hs ?_;refine go2 ?_;refine nB ra λO M C=>(go5 ?_);refine lX (xB zN pH C) λv3 r3=>(lX (xV (ρ:=(tPt 1)) (wH (ps':=[]) underlying31 yS I I sizeOf29 trivial I (xW (yM dC)) zP)) λv4 r4=>(cL (ev2 I I) call35 (λw hs=>zJJ hs r3 r4 oM) λD h1 J H=>?_));obtain rfl:D=vB (a=zT):=H;refine go4 ?_;refine zC I I ?_
 rfl
theorem lO{k l:Nat}{va:Value}{a:Tq}(ra:(tPt k).Is h0 va a){vb:Value}{b:Tq}(rb:(tPt l).Is h0 vb b)(hcd0:k+l<=1000000000):
 Calls prog 56 #[va,vb] w0 (Ret w0 h0 (λh r=>(rpQ (3*k+3*l+9)).Is h r (zM a b))):=by
 refine cb2 21 va vb func56 hs ?_;refine go2 ?_;refine nB ra λb2 cf an=>(nB rb λb3 ce am=>(nA (ρ:=(rpQ (3*k+3*l+9))) (X:=(0:Rat)) wD (yM oM) λb4 cd bp=>(go4 ?_)));refine nA (ρ:=(rpQ 1)) (X:=(0:Rat)) wD (yM dC) λb5 cc be=>(go9 ?_);refine tV (go4 ?_);refine gv (OpV.tr dC (yO (q:=3) I I)) I (go7 ?_);refine zL 9 _ [] (zai 0 7 [(7,.c),(8,.c),(9,.t)]) yF nX zou nX (λr hr=>hr) (wX I (xB yI pH be) λbo az=>(go2 ?_));refine wX I (xB yI (y5u pH) an) λbl aw=>(go2 ?_);refine wX I (xB yI (y5u pH) am) λbi ar=>?_;refine w_c I (sC (ev2 I I) call53 (λw hs=>jC hs aw ar oM) λai h1 cb O=>?_)
 change (rpQ (k+l)).Is h1 ai (a.x*b.x) at O
 refine w_c I (sC (ev2 I I) call45 (λw hs=>oZ hs az.up O oM) λad h2 ca H=>?_)
 change (rpQ (1+(k+l)+1)).Is h2 ad ((0:Rat)+(a.x*b.x)) at H
 replace H:=Rp.Is.le H (Le.q (l:=k+l+2) oM);have bc:=(Le.q (l:=k+l+2) oM).R be;refine yJ (A:=[]) I (uB sizeOf29 pH bc H) λbu aa=>(go5 ?_);refine gv ((zU (q:=1) I I oM oM).cv (show _=vI (1) from I)) I (go2 ?_);refine wQ (go4 ?_);refine gv (OpV.tr dC (yO (q:=3) I I)) I (go7 ?_);refine zL 9 _ [] (zai 0 7 [(7,.c),(8,.c),(9,.t)]) yF nX zou nX (λr hr=>hr) (wX I (xB yI pH aa) λbn ay=>(go2 ?_));refine wX I (xB yI (y5e pH) an) λbk av=>(go2 ?_);refine wX I (xB yI (y5e pH) am) λbh aq=>?_;refine w_c I (sC (ev2 I I) call53 (λw hs=>jC hs av aq oM) λah h3 bz M=>?_)
 change (rpQ (k+l)).Is h3 ah (a.y*b.y) at M
 refine w_c I (sC (ev2 I I) call45 (λw hs=>oZ hs ay.up M oM) λac h4 bx D=>?_)
 change (rpQ ((k+l+2)+(k+l)+1)).Is h4 ac (((0:Rat)+(a.x*b.x))+(a.y*b.y)) at D
 replace D:=Rp.Is.le D (Le.q (l:=2*k+2*l+3) oM);have bb:=(Le.q (l:=2*k+2*l+3) oM).R aa;refine yJ (A:=[]) I (uB sizeOf29 pH bb D) λbt Z=>(go5 ?_);refine gv ((zU (q:=1) I I oM oM).cv (show _=vI (2) from I)) I (go2 ?_);refine wQ (go4 ?_);refine gv (OpV.tr dC (yO (q:=3) I I)) I (go7 ?_);refine zL 9 _ [] (zai 0 7 [(7,.c),(8,.c),(9,.t)]) yF nX zou nX (λr hr=>hr) (wX I (xB yI pH Z) λbm ax=>(go2 ?_));refine wX I (xB yI (y6i pH) an) λbj au=>(go2 ?_);refine wX I (xB yI (y6i pH) am) λbg ap=>?_;refine w_c I (sC (ev2 I I) call53 (λw hs=>jC hs au ap oM) λae h5 bw J=>?_)
 change (rpQ (k+l)).Is h5 ae (a.z*b.z) at J
 refine w_c I (sC (ev2 I I) call45 (λw hs=>oZ hs ax.up J oM) λab h6 bv C=>?_)
 change (rpQ ((2*k+2*l+3)+(k+l)+1)).Is h6 ab ((((0:Rat)+(a.x*b.x))+(a.y*b.y))+(a.z*b.z)) at C
 replace C:=Rp.Is.le C (Le.q (l:=3*k+3*l+4) oM);have ba:=(Le.q (l:=3*k+3*l+4) oM).R Z;refine yJ (A:=[]) I (uB sizeOf29 pH ba C) λbs bd=>(go5 ?_);refine gv ((zU (q:=1) I I oM oM).cv (show _=vI (3) from I)) I (go2 ?_);refine wQ (go4 ?_);refine gv (OpV.fa dC (yO (q:=3) I I)) I (uQ ?_);refine lX (xB yI pH bd) λbf ao=>(yD (A:=[_]) (uB sizeOf29 pH bp (ao.le (Le.q (l:=3*k+3*l+9) oM))) λbq ak=>(go3 ?_));refine vM (gG (t:=4) yI mh1 I ak) ?_;intro br U aj;refine xC (λE S=>yB I U E S) ?_;exact(Rp.Is.cast aj (by unfold zM;grind))
theorem zGO{k l:Nat}{va:Value}{a:Tq}(ra:(tPt k).Is h0 va a){vb:Value}{b:Tq}(rb:(tPt l).Is h0 vb b)(hcd0:k+l<=1000000000):
 Calls prog 102 #[va,vb] w0 (Ret w0 h0 (λh r=>(tPt (2*k+2*l+3)).Is h r (yC a b))):=by
 refine cb2 37 va vb func102 hs ?_;refine go2 ?_;refine nB ra λb2 ct aa=>(nB rb λb3 cq Z=>(nA (ρ:=(tPt (2*k+2*l+3))) (X:=zT) yS (xW (yM oM)) λb4 cp bz=>(go4 ?_)));refine nA (ρ:=(tPt (2*k+2*l+3))) (X:=zT) yS (xW (yM oM)) λb5 co bx=>(go9 ?_);refine tV (go4 ?_);refine gv (OpV.tr dC (yO (q:=3) I I)) I (uQ ?_);refine gv ((zU (q:=1) I I oM oM).cv (show _=vI (1) from I)) I (gv ((wI (q:=3) I I oM oM).cv (show _=vI (1) from I)) I (go1 ?_));refine gv ((zU (q:=2) I I oM oM).cv (show _=vI (2) from I)) I (gv ((wI (q:=3) I I oM oM).cv (show _=vI (2) from I)) I (go4 ?_));refine zL 17 _ [] (zai 0 7 (zai 8 6 [(7,.c),(14,.c),(15,.c),(16,.q),(17,.t)])) yF nX (wS zou) nX (λr hr=>hr) (go3 ?_);refine wX I (xB yI (y5e pH) aa) λbw bj=>(go2 ?_);refine wX I (xB yI (y6i pH) Z) λbv bi=>(go2 ?_);refine wX I (xB yI (y6i pH) aa) λbu bh=>(go2 ?_);refine wX I (xB yI (y5e pH) Z) λbt bg=>?_;refine w_c I (sC (ev2 I I) call53 (λw hs=>jC hs bj bi oM) λba h1 cn ac=>?_)
 change (rpQ (k+l)).Is h1 ba (a.y*b.z) at ac
 refine w_c I (sC (ev2 I I) call53 (λw hs=>jC hs bh.up bg.up oM) λaz h2 cm ab=>?_)
 change (rpQ (k+l)).Is h2 az (a.z*b.y) at ab
 refine w_c I (sC (ev2 I I) call55 (λw hs=>tJ hs ac.up ab oM) λay h3 cl H=>?_)
 change (rpQ ((k+l)+(k+l)+1)).Is h3 ay ((a.y*b.z)-(a.z*b.y)) at H
 replace H:=Rp.Is.le H (Le.q (l:=2*k+2*l+1) oM);refine go1 ?_;refine yJ (A:=[]) I (uB sizeOf29 (y5u pH) bx (H.le (Le.q (l:=2*k+2*l+3) oM))) λcd bf=>(go5 ?_);refine gv ((zU (q:=1) I I oM oM).cv (show _=vI (1) from I)) I (go2 ?_);refine wQ (go4 ?_);refine gv (OpV.tr dC (yO (q:=3) I I)) I (uQ ?_);refine gv ((zU (q:=1) I I oM oM).cv (show _=vI (2) from I)) I (gv ((wI (q:=3) I I oM oM).cv (show _=vI (2) from I)) I (go1 ?_));refine gv ((zU (q:=2) I I oM oM).cv (show _=vI (3) from I)) I (gv ((wI (q:=3) I I oM oM).cv (show _=vI (0) from I)) I (go4 ?_));refine zL 17 _ [] (zai 0 7 (zai 8 6 [(7,.c),(14,.c),(15,.c),(16,.q),(17,.t)])) yF nX (wS zou) nX (λr hr=>hr) (go3 ?_);refine wX I (xB yI (y6i pH) aa) λbs aw=>(go2 ?_);refine wX I (xB yI (y5u pH) Z) λbq au=>(go2 ?_);refine wX I (xB yI (y5u pH) aa) λbo aq=>(go2 ?_);refine wX I (xB yI (y6i pH) Z) λbm ao=>?_;refine w_c I (sC (ev2 I I) call53 (λw hs=>jC hs aw au oM) λak h4 ck U=>?_)
 change (rpQ (k+l)).Is h4 ak (a.z*b.x) at U
 refine w_c I (sC (ev2 I I) call53 (λw hs=>jC hs aq.up ao.up oM) λai h5 cj M=>?_)
 change (rpQ (k+l)).Is h5 ai (a.x*b.z) at M
 refine w_c I (sC (ev2 I I) call55 (λw hs=>tJ hs U.up M oM) λae h6 ci D=>?_)
 change (rpQ ((k+l)+(k+l)+1)).Is h6 ae ((a.z*b.x)-(a.x*b.z)) at D
 replace D:=Rp.Is.le D (Le.q (l:=2*k+2*l+1) oM);refine go1 ?_;refine yJ (A:=[]) I (uB sizeOf29 (y5e pH) bf (D.le (Le.q (l:=2*k+2*l+3) oM))) λcc be=>(go5 ?_);refine gv ((zU (q:=1) I I oM oM).cv (show _=vI (2) from I)) I (go2 ?_);refine wQ (go4 ?_);refine gv (OpV.tr dC (yO (q:=3) I I)) I (uQ ?_);refine gv ((zU (q:=1) I I oM oM).cv (show _=vI (3) from I)) I (gv ((wI (q:=3) I I oM oM).cv (show _=vI (0) from I)) I (go1 ?_));refine gv ((zU (q:=2) I I oM oM).cv (show _=vI (4) from I)) I (gv ((wI (q:=3) I I oM oM).cv (show _=vI (1) from I)) I (go4 ?_));refine zL 17 _ [] (zai 0 7 (zai 8 6 [(7,.c),(14,.c),(15,.c),(16,.q),(17,.t)])) yF nX (wS zou) nX (λr hr=>hr) (go3 ?_);refine wX I (xB yI (y5u pH) aa) λbr av=>(go2 ?_);refine wX I (xB yI (y5e pH) Z) λbp ar=>(go2 ?_);refine wX I (xB yI (y5e pH) aa) λbn ap=>(go2 ?_);refine wX I (xB yI (y5u pH) Z) λbl an=>?_;refine w_c I (sC (ev2 I I) call53 (λw hs=>jC hs av ar oM) λaj h7 ch O=>?_)
 change (rpQ (k+l)).Is h7 aj (a.x*b.y) at O
 refine w_c I (sC (ev2 I I) call53 (λw hs=>jC hs ap.up an.up oM) λah h8 cg J=>?_)
 change (rpQ (k+l)).Is h8 ah (a.y*b.x) at J
 refine w_c I (sC (ev2 I I) call55 (λw hs=>tJ hs O.up J oM) λad h9 cf C=>?_)
 change (rpQ ((k+l)+(k+l)+1)).Is h9 ad ((a.x*b.y)-(a.y*b.x)) at C
 replace C:=Rp.Is.le C (Le.q (l:=2*k+2*l+1) oM);refine go1 ?_;refine yJ (A:=[]) I (uB sizeOf29 (y6i pH) be (C.le (Le.q (l:=2*k+2*l+3) oM))) λcb bd=>(go5 ?_);refine gv ((zU (q:=1) I I oM oM).cv (show _=vI (3) from I)) I (go2 ?_);refine wQ (go4 ?_);refine gv (OpV.fa dC (yO (q:=3) I I)) I (uQ ?_);refine lX (xB zN pH bd) λbk am=>(yD (A:=[_]) (uB sizeOf31 pH bz am) λca bc=>(go3 ?_));refine vM (gG (t:=4) zN mh1 I bc) ?_;intro ce ax bb;refine xC (λE S=>yB I ax E S) ?_;exact bb
theorem zVR{m l:Nat}{vs:Value}{s:Pq}(rs:(tPl m l).Is h0 vs s)(hcd0:m<=1000000000):
 Calls prog 152 #[vs] w0 (Ret w0 h0 (λh r=>r=.tuple #[vI (↑(axI s.1):Int),vI (↑(axJ s.1):Int),vI (↑(axK s.1):Int)])):=by
 refine cb1 29 vs func152 hs ?_;refine go2 ?_;refine nB rs λb1 av H=>(mF ?_);refine lX (xB yI (y4e (y6i pH)) H) λar ak=>(cL (ev1 I) call48 (λw hs=>qI hs ak oM) λae h1 au aj=>?_);obtain rfl:ae=vI (yX s.1.z):=aj;have an:=xK s.1.z;refine gc3 (λac=>?_) λac=>?_
 ·
  refine qK ?_;refine lX (xB yI (y4e (y5e pH)) H) λaq ai=>(cL (ev1 I) call48 (λw hs=>qI hs ai oM) λad h2 ap ah=>?_);obtain rfl:ad=vI (yX s.1.y):=ah;have am:=xK s.1.y;refine gc3 (λab=>?_) λab=>?_
  ·
   refine uY ?_;refine lX (xB yI (y4e (y5u pH)) H) λaa M=>(cL (ev1 I) call48 (λw hs=>qI hs M oM) λD h3 ao J=>?_);obtain rfl:D=vI (yX s.1.x):=J;have O:=xK s.1.x;refine gc3 (λC=>?_) λC=>?_
   ·
    refine yFJ ?_;refine qJ I I I I ?_;have eI:axI s.1=2:=by unfold axI;simp only[uT,jI] at *;grind
    have Z:axJ s.1=1:=by unfold axJ;simp only[uT,jI] at *;grind
    have U:axK s.1=0:=by unfold axK;simp only[uT,jI] at *;grind
    rw[eI,Z,U];rfl
   refine pL ?_;refine qJ I I I I ?_;have eI:axI s.1=1:=by unfold axI;simp only[uT,jI] at *;grind
   have Z:axJ s.1=2:=by unfold axJ;simp only[uT,jI] at *;grind
   have U:axK s.1=0:=by unfold axK;simp only[uT,jI] at *;grind
   rw[eI,Z,U];rfl
  refine go8 ?_;refine lX (xB yI (y4e (y5e pH)) H) λaa M=>(cL (ev1 I) call48 (λw hs=>qI hs M oM) λD h3 ao J=>?_);obtain rfl:D=vI (yX s.1.y):=J;have O:=xK s.1.y;refine gc3 (λC=>?_) λC=>?_
  ·
   refine yFJ ?_;refine qJ I I I I ?_;have eI:axI s.1=0:=by unfold axI;simp only[uT,jI] at *;grind
   have Z:axJ s.1=2:=by unfold axJ;simp only[uT,jI] at *;grind
   have U:axK s.1=1:=by unfold axK;simp only[uT,jI] at *;grind
   rw[eI,Z,U];rfl
  refine pL ?_;refine qJ I I I I ?_;have eI:axI s.1=2:=by unfold axI;simp only[uT,jI] at *;grind
  have Z:axJ s.1=0:=by unfold axJ;simp only[uT,jI] at *;grind
  have U:axK s.1=1:=by unfold axK;simp only[uT,jI] at *;grind
  rw[eI,Z,U];rfl
 refine go8 ?_;refine lX (xB yI (y4e (y6i pH)) H) λaa M=>(cL (ev1 I) call48 (λw hs=>qI hs M oM) λD h2 ap J=>?_);obtain rfl:D=vI (yX s.1.z):=J;have O:=xK s.1.z;refine gc3 (λC=>?_) λC=>?_
 ·
  refine yFJ ?_;refine qJ I I I I ?_;have eI:axI s.1=1:=by unfold axI;simp only[uT,jI] at *;grind
  have Z:axJ s.1=0:=by unfold axJ;simp only[uT,jI] at *;grind
  have U:axK s.1=2:=by unfold axK;simp only[uT,jI] at *;grind
  rw[eI,Z,U];rfl
 refine pL ?_;refine qJ I I I I ?_;have eI:axI s.1=0:=by unfold axI;simp only[uT,jI] at *;grind
 have Z:axJ s.1=1:=by unfold axJ;simp only[uT,jI] at *;grind
 have U:axK s.1=2:=by unfold axK;simp only[uT,jI] at *;grind
 rw[eI,Z,U];rfl
theorem zK9{m l k:Nat}{vs:Value}{s:Pq}(rs:(tPl m l).Is h0 vs s){vp:Value}{p:Tq}(rp:(tPt k).Is h0 vp p)(hcd0:k<=1000000000)(hcd1:m<=1000000000):
 Calls prog 112 #[vs,vp] w0 (Ret w0 h0 (λh r=>(tPt (k+1)).Is h r (qL s p))):=by
 refine cb2 21 vs vp func112 hs ?_;refine go2 ?_;refine nB rs λb2 ap U=>(nB rp λM ao J=>(nA (ρ:=(tPt (k+1))) (X:=zT) yS (xW (yM oM)) λb4 an O=>(go4 ?_)));refine lX (xB lE pH U) λv9 r9=>(cL (ev1 I) call152 (λw hs=>zVR hs r9 oM) λak h1 am ac=>?_);obtain rfl:=ac;refine uQ ?_;refine zL 7 _ [] (zai 0 7 [(7,.t)]) yF nX zou nX (λr hr=>hr) (go1 ?_);refine xY I (λ_ _=>(zX (sz:=3) (axI s.1) underlying31 sizeOf29 I I zo3 (by exact yC1 _)).cv (show _=vP M (((axI s.1)*3+0)) from zbi (vP M) oM)) I (wX I (xB yI (Pc.ta pH (axI s.1) (by exact yC1 _)) J) λaj ab=>(go1 ?_));refine xY I (λ_ _=>(zX (sz:=3) (axJ s.1) underlying31 sizeOf29 I I zo3 (by exact yCZ _)).cv (show _=vP M (((axJ s.1)*3+0)) from zbi (vP M) oM)) I (wX I (xB yI (Pc.ta pH (axJ s.1) (by exact yCZ _)) J) λai aa=>(wX I (xV (ρ:=(tPt (k+1))) (wH (ps':=[(0,_),(1,_)]) underlying31 yS I I sizeOf29 e4z I (xW (yM oM)) (zD I (y5u (y4i _)) (ab.le (Le.q (l:=k+1) oM)) (zD I (y5e (y4i _)) (aa.le (Le.q (l:=k+1) oM)) zP)))) λah Z=>(yJ (A:=[]) I (uB sizeOf31 pH O Z) λad H=>(go3 ?_))));refine vM (gG (t:=4) zN mh0 I H) ?_;intro ae C D;refine xC (λE S=>yB I C E S) ?_;exact D
theorem zVS{m l k:Nat}{vs:Value}{s:Pq}(rs:(tPl m l).Is h0 vs s){vp:Value}{p:Tq}(rp:(tPt k).Is h0 vp p)(hcd0:k<=1000000)(hcd1:l<=1000000)(hcd2:m<=1000000):
 Calls prog 23 #[vs,vp] w0 (Ret w0 h0 (λ_ r=>r=vI (yX (zM s.1 p-s.2)))):=by
 refine cb2 13 vs vp func23 hs ?_;refine go2 ?_;refine nB rs λb2 ai D=>(nB rp λb3 ah J=>(go4 ?_));refine zL 9 _ [] [(0,.q),(1,.q),(2,.q),(4,.q),(5,.q),(3,.c),(6,.c),(7,.c),(8,.q)] yF nX zou nX (λr hr=>hr) (go1 ?_);refine wX I (xB zN (y4e pH) D) λv6 r6=>(wX I (xB zN pH J) λv7 r7=>(go1 ?_));refine wX I (xB yI (y5i pH) D) λab U=>?_;refine w_c I (sC (ev2 I I) call56 (λw hs=>lO hs r6 r7 oM) λv8 h1 ae M=>?_);replace M:=Rp.Is.le M (Le.q (l:=3*k+3*m+9) oM);refine w_c I (sC (ev2 I I) call55 (λw hs=>tJ hs M U.up oM) λaa h2 ad C=>?_);replace C:=Rp.Is.le C (Le.q (l:=3*k+l+3*m+10) oM);refine w_c I (sC (ev1 I) call48 (λw hs=>qI hs C oM) λH h3 ac O=>?_);obtain rfl:H=vI (yX ((zM s.1 p)-s.2)):=O;have Z:=xK ((zM s.1 p)-s.2);refine go4 ?_;refine zC I I ?_
 rfl
end
end Go.Proofs.YtpkaegemlpaenaaGreat
namespace Bk
open Classical
def lpP(x:List Int):Prop:=(3<=x.length/\x.length<=64)/\∀i,i<x.length->(0<=(x.getD i 0)/\(x.getD i 0)<512)/\∀k,k<i->¬(x.getD i 0)=(x.getD k 0)
def vfP(L:List (List Int)):Prop:=(1<=L.length/\L.length<=16)/\∀l,l<L.length->lpP ((L.getD l []))
def vaP(F:List (List (List Int))):Prop:=F.length<=256/\∀f,f<F.length->vfP ((F.getD f []))
abbrev E5:=Int×Int×Int×Int×Int
def edX(x:List Int)(f l:Nat):Nat->List E5:=wO λi=>((x.getD i 0),(x.getD ((i+1)%x.length) 0),(f:Int),(l:Int),(i:Int))
def edL(L:List (List Int))(f:Nat):Nat->List E5:=gM λl=>edX ((L.getD l [])) f l ((L.getD l [])).length
def edF(F:List (List (List Int))):Nat->List E5:=gM λf=>edL ((F.getD f [])) f ((F.getD f [])).length
def edZ(F:List (List (List Int))):List E5:=edF F F.length
abbrev e0:E5:=((0:Int),(0:Int),(0:Int),(0:Int),(0:Int))
def zO4(e:E5)(a b:Int):Prop:=e.1=a/\e.2.1=b
def iO(E:List E5)(a b:Int):Nat->Int
  |0=>0
  |m+1=>if zO4 ((E.getD m ((0:Int),(0:Int),(0:Int),(0:Int),(0:Int)))) a b then iO E a b m+1 else iO E a b m
theorem zA3(E:List E5)(a b:Int):∀m,0<=iO E a b m/\iO E a b m<=m
  |0=>by unfold iO;omega
  |m+1=>by
   have h:=zA3 E a b m;unfold iO
   split<;>omega
theorem tm_t{E:List E5}{a b:Int}{m:Nat}(h:zO4 ((E.getD m ((0:Int),(0:Int),(0:Int),(0:Int),(0:Int)))) a b):iO E a b m+1=iO E a b (m+1):=(zau h).symm
theorem tm_f{E:List E5}{a b:Int}{m:Nat}(h:¬zO4 ((E.getD m ((0:Int),(0:Int),(0:Int),(0:Int),(0:Int)))) a b):iO E a b m=iO E a b (m+1):=(zae h).symm
def tmZ(E:List E5)(a b:Int):Int:=iO E a b E.length
def yFS(E:List E5)(i:Nat):Prop:=tmZ E ((E.getD i ((0:Int),(0:Int),(0:Int),(0:Int),(0:Int)))).2.1 ((E.getD i ((0:Int),(0:Int),(0:Int),(0:Int),(0:Int)))).1<tmZ E ((E.getD i ((0:Int),(0:Int),(0:Int),(0:Int),(0:Int)))).1 ((E.getD i ((0:Int),(0:Int),(0:Int),(0:Int),(0:Int)))).2.1
def yLX(E:List E5):Nat->List E5:=cW (yFS E) λi=>((30:Int),(-1:Int),((E.getD i ((0:Int),(0:Int),(0:Int),(0:Int),(0:Int)))).2.2.1,((E.getD i ((0:Int),(0:Int),(0:Int),(0:Int),(0:Int)))).2.2.2.1,((E.getD i ((0:Int),(0:Int),(0:Int),(0:Int),(0:Int)))).2.2.2.2)
def clZ(F:List (List (List Int))):List E5:=if vaP F then yLX (edZ F) (edZ F).length else[((1:Int),(-1:Int),(-1:Int),(-1:Int),(-1:Int))]
theorem zO0(x:List Int)(f l m:Nat):(edX x f l m).length=m:=yY _ _
theorem zHR{L:List (List Int)}(h:∀l,l<L.length->((L.getD l [])).length<=64)(f:Nat):∀m,m<=L.length->(edL L f m).length<=64*m
  |0,_=>zbe _
  |m+1,hm=>by
   have h1:=zHR h f m zot;have h2:=h m zot
   show List.length (edL L f m++edX (L.getD m []) f m (L.getD m []).length)<=_
   rw[lAz,zO0];omega
theorem zCC{F:List (List (List Int))}(h:∀f,f<F.length->((F.getD f [])).length<=16/\∀l,l<((F.getD f [])).length->((((F.getD f [])).getD l [])).length<=64):∀m,m<=F.length->(edF F m).length<=1024*m
  |0,_=>zbe _
  |m+1,hm=>by
   have h1:=zCC h m zot;have h2:=h m zot;have h3:=zHR h2.2 m _ (zbe _)
   show List.length (edF F m++edL (F.getD m []) m (F.getD m []).length)<=_
   rw[lAz];omega
end Bk
namespace Bk
open Go Go.RowKit
section
variable {P:Program}{n:Nat}{w0:World}{h0:Mem}{e:List (Nat×Value)}{L:List Res}{h:Mem}{Q:Exit->Act->World->Prop}
variable {ty:TypeId}{ps:String}{af:Array Edge}
end
end Bk
namespace Go.Proofs.YtpkaegemlpaenaaGreat
open Bk Go Tryz
attribute [local irreducible] GL GC GQ W OpV
section
variable{w0:World}{h0:Mem}(hs:MLe h0 (mem w0))
include hs
theorem dD{vL:Value}{L:(List (List Int))}(rL:tII.Is h0 vL L):
 Calls prog 178 #[vL] w0 (Ret w0 h0 (λ_ r=>r=vB (vfP L))):=by
 refine cb1 65 vL func178 hs ?_;refine qK ?_;refine gU 5 14 (vB (((↑(L).length:Int)<(1:Int))\/((16:Int)<(↑(L).length:Int)))) ?_ ?_
 ·
  refine zY ((↑(L).length:Int)<(1:Int)) (λC=>?_) (λC=>?_)
  ·
   refine gT C I (go5 ?_);refine gqU ?_;exact y3u (vV C)
  refine gF C I (go8 ?_);refine gqU ?_;exact y3u (vW C)
 refine gc2 (λai=>?_) λai=>?_
 ·
  refine go7 ?_;refine zC I I ?_;exact(yN (λe=>by have:=e.1;omega)).symm
 refine go9 ?_;refine gcL (ι:=Nat×Mem) (λ(l,U)=>(MLe h0 U/\(l<=L.length/\∀u,u<l->lpP (L.getD u [])),[(0,vL),(3,vI ↑l)],[],U,L.length-l)) (0,h0) ?_ ?_
 · exact⟨mle,by omega,λu h=>by omega⟩
 rintro⟨l,U⟩ ⟨bb,bp,Z⟩
 refine xD ?_;refine gc9 (λah=>?_) λah=>?_
 ·
  refine go8 ?_;refine lX (xI [] l underlying51 fQ rL) λbo au=>(lX (xA fQ au) λM H=>(go9 ?_));refine gU 5 32 (vB (((↑((L.getD l [])).length:Int)<(3:Int))\/((64:Int)<(↑((L.getD l [])).length:Int)))) ?_ ?_
  ·
   refine zY ((↑((L.getD l [])).length:Int)<(3:Int)) (λC=>?_) (λC=>?_)
   ·
    refine gT C I (go5 ?_);refine gqU ?_;exact y3u (vV C)
   refine gF C I (go8 ?_);refine gqU ?_;exact y3u (vW C)
  refine gc2 (λae=>?_) λae=>?_
  ·
   refine uY ?_;refine zC I I ?_;exact(yN (λe=>by have:=(e.2 l oM).1;omega)).symm
  refine go8 ?_;refine gcL (ι:=Nat×Mem) (λ(i,J)=>(MLe U J/\(i<=(L.getD l []).length/\∀u,u<i->(0<=(L.getD l []).getD u 0/\(L.getD l []).getD u 0<512)/\∀k,k<u->¬(L.getD l []).getD u 0=(L.getD l []).getD k 0),[(0,vL),(3,vI ↑l),(4,M),(5,vI ↑i)],[],J,(L.getD l []).length-i)) (0,U) ?_ ?_
  · exact⟨mle,by omega,λu h=>by omega⟩
  rintro⟨i,J⟩ ⟨ba,br,hi2⟩
  refine xD ?_;refine gc9 (λad=>?_) λad=>?_
  ·
   refine go9 ?_;refine lX (xI (0:Int) i underlying22 ty3 H) λbn ar=>(lX (xA ty3 ar) λbm aq=>?_);obtain⟨rfl,bf,ay⟩:=jM aq;refine go1 ?_;refine gU 7 50 (vB ((((L.getD l []).getD i (0:Int))<(0:Int))\/((512:Int)<=((L.getD l []).getD i (0:Int))))) ?_ ?_
   ·
    refine zY (((L.getD l []).getD i (0:Int))<(0:Int)) (λC=>?_) (λC=>?_)
    ·
     refine gT C I (go7 ?_);refine gqU ?_;exact y3u (vV C)
    refine gF C I (go5 ?_);refine lX (xI (0:Int) i underlying22 ty3 H) λbl ap=>(go1 ?_);refine lX (xA ty3 ap) λbk ao=>?_;obtain⟨rfl,be,ax⟩:=jM ao;refine go4 ?_;refine gqU ?_;exact y3u (vW C)
   refine gc2 (λac=>?_) λac=>?_
   ·
    refine zAQ ?_;refine zC I I ?_;exact(yN (λe=>by have:=((e.2 l oM).2 i oM).1;omega)).symm
   refine go8 ?_;refine gcL (ι:=Nat×Mem) (λ(k,O)=>(MLe J O/\(k<=i/\∀v,v<k->¬(L.getD l []).getD i 0=(L.getD l []).getD v 0),[(0,vL),(3,vI ↑l),(4,M),(5,vI ↑i),(6,vI ↑k)],[],O,i-k)) (0,J) ?_ ?_
   · exact⟨mle,by omega,λu h=>by omega⟩
   rintro⟨k,O⟩ ⟨az,bq,aa⟩
   refine xD ?_;refine gc8 (λab=>?_) λab=>?_
   ·
    refine go5 ?_;refine zL 9 _ [] (zai 0 9 []) yF nX zou nX (λr hr=>hr) (go2 ?_);refine wX I (xI (0:Int) i underlying22 ty3 H) λbj an=>(wX I (xA ty3 an) λbi am=>?_);obtain⟨rfl,bd,aw⟩:=jM am;refine go2 ?_;refine wX I (xI (0:Int) k underlying22 ty3 H) λbh ak=>(wX I (xA ty3 ak) λbg aj=>?_);obtain⟨rfl,bc,av⟩:=jM aj;refine gc3 (λD=>?_) λD=>?_
    ·
     refine yBF ?_;refine zC I I ?_;exact(yN (λe=>((e.2 l oM).2 i oM).2 k oM D)).symm
    refine go8 ?_;refine gqL ((k+1),O) ?_ ?_
    · exact⟨mle,by omega,vX (Q:=λv=>¬(L.getD l []).getD i 0=(L.getD l []).getD v 0) aa D⟩
    omega
   refine qK ?_;refine gqL ((i+1),O) ?_ ?_
   · exact⟨mle,by omega,vX (Q:=λu=>(0<=(L.getD l []).getD u 0/\(L.getD l []).getD u 0<512)/\∀k,k<u->¬(L.getD l []).getD u 0=(L.getD l []).getD k 0) hi2 ⟨by omega,λk hk=>aa k oM⟩⟩
   omega
  refine qK ?_;refine gqL ((l+1),J) ?_ ?_
  · exact⟨mle,by omega,vX (Q:=λu=>lpP (L.getD u [])) Z ⟨by omega,λu hu=>hi2 u oM⟩⟩
  omega
 refine qK ?_;refine zC I I ?_;exact(wA ⟨by omega,λu hu=>Z u oM⟩).symm
theorem zQ0{vF:Value}{F:(List (List (List Int)))}(rF:(rpS tII).Is h0 vF F):
 Calls prog 180 #[vF] w0 (Ret w0 h0 (λ_ r=>r=vB (vaP F))):=by
 refine cb1 19 vF func180 hs ?_;refine pL ?_;refine cnd (λaa=>?_) λaa=>?_
 ·
  refine go7 ?_;refine zC I I ?_;exact(yN (λe=>by have:=e.1;omega)).symm
 refine go9 ?_;refine gcL (ι:=Nat×Mem) (λ(f,Z)=>(MLe h0 Z/\(f<=F.length/\∀u,u<f->vfP (F.getD u [])),[(0,vF),(3,vI ↑f)],[],Z,F.length-f)) (0,h0) ?_ ?_
 · exact⟨mle,by omega,λu h=>by omega⟩
 rintro⟨f,Z⟩ ⟨ab,ah,D⟩
 refine xD ?_;refine gc9 (λH=>?_) λH=>?_
 ·
  refine go8 ?_;refine lX (xI [] f underlying165 cD rF) λad U=>(lX (xA cD U) λac O=>(cL (ev1 I) call178 (λw hs=>dD hs O) λJ h1 ae M=>?_));obtain rfl:J=vB (vfP (F.getD f [])):=M;refine gc3 (λC=>?_) λC=>?_
  ·
   refine qK ?_;refine zC I I ?_;exact(yN (λe=>C (e.2 f oM))).symm
  refine go8 ?_;refine gqL ((f+1),h1) ?_ ?_
  · exact⟨mle,by omega,vX (Q:=λu=>vfP (F.getD u [])) D (zdi C)⟩
  omega
 refine qK ?_;refine zC I I ?_;exact(wA ⟨by omega,λu hu=>D u oM⟩).symm
theorem zGL{vF:Value}{F:(List (List (List Int)))}(rF:(rpS tII).Is h0 vF F)(hcd0:F.length<=1000)(hcd1:∀f,f<F.length->(F.getD f []).length<=16/\∀l,l<(F.getD f []).length->((F.getD f []).getD l []).length<=64):
 Calls prog 135 #[vF] w0 (Ret w0 h0 (λh r=>(rpS tE5).Is h r (edZ F))):=by
 refine cb1 56 vF func135 hs ?_;refine mF ?_;refine xN 168 5 ?_;have ah:=RL.nil (ρ:=rpP rpI (rpP rpI (rpP rpI (rpP rpI rpI)))) (h:=h0);refine gcL (ι:=Nat×List (Int×Int×Int×Int×Int)×Value×List Value×Mem) (λ(f,D0,J,O,ma)=>(MLe h0 ma/\(RL tE5 ma O D0/\f<=F.length/\D0=edF F f),[(0,vF),(3,J),(4,vI ↑f)],[.gs 168 5 J D0.length O],ma,F.length-f)) (0,[],(.slice none 0 0),[],h0) ?_ ?_
 · exact⟨mle,ah,by omega,I⟩
 rintro⟨f,D0,J,O,ma⟩ ⟨bj,aa,ck,ap⟩
 refine xD ?_;refine gc9 (λan=>?_) λan=>?_
 ·
  refine uQ ?_;refine gcL (ι:=Nat×List (Int×Int×Int×Int×Int)×Value×List Value×Mem) (λ(l,D1,C,D,mb)=>(MLe ma mb/\(RL tE5 mb D D1/\l<=(F.getD f []).length/\D1=edF F f++edL (F.getD f []) f l),[(0,vF),(3,C),(4,vI ↑f),(5,vI ↑l)],[.gs 168 5 C D1.length D],mb,(F.getD f []).length-l)) (0,D0,J,O,ma) ?_ ?_
  · exact⟨mle,aa,by omega,by rw[ap];exact(zqi _).symm⟩
  rintro⟨l,D1,C,D,mb⟩ ⟨bi,Z,ci,ao⟩
  refine xD ?_;refine go6 ?_;refine lX (xI [] f underlying165 cD rF) λbx bd=>(lX (xA cD bd) λbw bz=>(gc4 (λam=>?_) λam=>?_))
  ·
   refine go8 ?_;refine lX (xI [] f underlying165 cD rF) λbv bc=>(lX (xA cD bc) λbu bb=>(go1 ?_));refine lX (xI [] l underlying51 fQ bb) λbt ba=>(lX (xA fQ ba) λau ad=>(go9 ?_));refine gcL (ι:=Nat×List (Int×Int×Int×Int×Int)×Value×List Value×Mem) (λ(i,D2,H,M,mc)=>(MLe mb mc/\(RL tE5 mc M D2/\i<=((F.getD f []).getD l []).length/\D2=edF F f++edL (F.getD f []) f l++edX ((F.getD f []).getD l []) f l i),[(0,vF),(3,H),(4,vI ↑f),(5,vI ↑l),(6,au),(7,vI ↑i)],[.gs 168 5 H D2.length M],mc,((F.getD f []).getD l []).length-i)) (0,D1,C,D,mb) ?_ ?_
   · exact⟨mle,Z,by omega,by rw[ao];exact(zqi _).symm⟩
   rintro⟨i,D2,H,M,mc⟩ ⟨bh,U,cj,ae⟩
   refine xD ?_;have ch:=zCC hcd1 f oM;have cg:=(hcd1 f oM).1;have cf:=zHR (hcd1 f oM).2 f l oM;have ce:=(hcd1 f oM).2 l oM;have cd:=zO0 ((F.getD f []).getD l []) f l i;have cc:D2.length<=1100000:=by rw[ae,lAz,lAz];omega
   refine gc9 (λak=>?_) λak=>?_
   ·
    refine go4 ?_;refine qS (A:=[]) 20 [] (zai 0 17 [(17,.c),(18,.c),(19,.q)]) yF nX (wS zou) nX (go3 ?_);refine wX I (xI (0:Int) i underlying22 ty3 ad) λbs az=>(wX I (xA ty3 az) λbr ay=>?_);obtain⟨rfl,bl,bg⟩:=jM ay;refine go4 ?_;refine w_q I (λh' L' hh hR=>qO underlying22 I (ad.up.mono hh)) I (xY I (λ_ _=>wI I I oM oM) I (wX I (xI (0:Int) ((i+1)%((F.getD f []).getD l []).length) underlying22 ty3 ad (hi:=by exact zcu _ oM)) λbq ax=>(wX I (xA ty3 ax) λbp aw=>?_)));obtain⟨rfl,bk,bf⟩:=jM aw;refine go3 ?_;refine wX I (xV (ρ:=tE5) (wE (ps':=[(0,_),(1,_),(2,_),(3,_),(4,_)]) underlying168 zFB I I (zVD underlying168) e10 I (yE wL (yE wL (yE wL (yE wL wL)))) (zD I (y4e (y4i _)) (xZ oM oM) (zD I (y5i (y4e (y4i _))) (xZ oM oM) (zD I (y5i (y5i (y4e (y4i _)))) (xZ oM oM) (zD I (y5i (y5i (y5i (y4e (y4i _))))) (xZ oM oM) (zD I (y5i (y5i (y5i (y5i (y4i _))))) (xZ oM oM) zP))))))) λbo av=>?_;refine w_c I (jH (λX=>zJ (ρ:=tE5) (m:=1) (xs:=[((((F.getD f []).getD l []).getD i (0:Int)),((((F.getD f []).getD l []).getD ((i+1)%((F.getD f []).getD l []).length) (0:Int)),((↑f:Int),((↑l:Int),(↑i:Int)))))]) (ps':=[(0,_)]) underlying163 zFB I I I (yE wL (yE wL (yE wL (yE wL wL)))) e2z (zD I (y4u (y4i _) e50 0 dC) av zP) zoi nP) I ?_)
    rintro bn cb ⟨bm,rfl,aj⟩
    refine w_c I (xT (A:=[]) (ρ:=tE5) aj dK ?_);intro h1 be ac;refine fL (A:=[]) (λX=>zS (ρ:=tE5) (bytes:=40) underlying163 zFB I I I I nP I I U.up ac bO bO) I (xQ zoy) ?_
    rintro ar ca ⟨aq,rfl,ai⟩
    refine go9 ?_;refine gqL ((i+1),(D2++[((((F.getD f []).getD l []).getD i (0:Int)),((((F.getD f []).getD l []).getD ((i+1)%((F.getD f []).getD l []).length) (0:Int)),((↑f:Int),((↑l:Int),(↑i:Int)))))]),ar,aq,h1) ?_ ?_
    · exact⟨mle,ai,by omega,by rw[ae,zju];rfl⟩
    omega
   have ei:i=((F.getD f []).getD l []).length:=by omega
   refine qK ?_;refine gqL ((l+1),D2,H,M,mc) ?_ ?_
   · exact⟨mle,U.up,by omega,by rw[ae,ei,zju];rfl⟩
   omega
  have el:l=(F.getD f []).length:=by omega
  refine qK ?_;refine gqL ((f+1),D1,C,D,mb) ?_ ?_
  · exact⟨mle,Z,by omega,by rw[ao,el];rfl⟩
  omega
 have ef:f=F.length:=by omega
 refine uY ?_;refine wT (A:=[]) (ρ:=tE5) aa ?_;intro h1 be ab;refine zC I I ?_;exact(Rp.Is.cast ab (by rw[ap,ef];rfl))
theorem zGK{vE:Value}{E:(List (Int×(Int×(Int×(Int×Int)))))}(rE:(rpS tE5).Is h0 vE E){a:Int}(ha1:-9223372036854775808<=a)(ha2:a<9223372036854775808){b:Int}(hb1:-9223372036854775808<=b)(hb2:b<9223372036854775808)(hcd0:E.length<=1000000):
 Calls prog 181 #[vE,vI a,vI b] w0 (Ret w0 h0 (λ_ r=>r=vI (tmZ E a b))):=by
 refine cb3 34 vE (vI a) (vI b) func181 hs ?_;refine mF ?_;refine gcL (ι:=Nat×Mem) (λ(m,D)=>(MLe h0 D/\(m<=E.length),[(0,vE),(1,vI a),(2,vI b),(7,vI (iO E a b m)),(8,vI ↑m)],[],D,E.length-m)) (0,h0) ?_ ?_
 · exact⟨mle,oM⟩
 rintro⟨m,D⟩ ⟨ah,H⟩
 refine xD ?_;have au:=H;have ar:=zA3 E a b m;refine gc9 (λM=>?_) λM=>?_
 ·
  refine go8 ?_;refine lX (xI e50 m underlying163 j5 rE) λaq ac=>(lX (xF underlying168 sizeOf3 (y4e pH) ac) λap ab=>(lX (xA ty3 ab) λao aa=>?_));obtain⟨rfl,aj,ae⟩:=jM aa;refine go2 ?_;refine gU 9 30 (vB ((((E.getD m e50).1)=a)/\((((E.getD m e50).2).1)=b))) ?_ ?_
  ·
   refine zY (((E.getD m e50).1)=a) (λJ=>?_) (λJ=>?_)
   ·
    refine gT J I (go5 ?_);refine lX (xI e50 m underlying163 j5 rE) λan Z=>(go1 ?_);refine lX (xF underlying168 sizeOf3 (y5i (y4e pH)) Z) λam U=>(go1 ?_);refine lX (xA ty3 U) λak O=>?_;obtain⟨rfl,ai,ad⟩:=jM O;refine go6 ?_;refine gqU ?_;exact y3u (xL J)
   refine gF J I (go9 ?_);refine gqU ?_;exact y3u (xM J)
  refine gc2 (λC=>?_) λC=>?_
  ·
   refine uY ?_;refine gqL ((m+1),D) ?_ ?_ (he:=⟨I,I,I,zbi (λz=>some (vI z)) (tm_t C),I,y3e⟩)
   · exact⟨mle,oM⟩
   omega
  refine go8 ?_;refine gqL ((m+1),D) ?_ ?_ (he:=⟨I,I,I,zbi (λz=>some (vI z)) (tm_f C),I,y3e⟩)
  · exact⟨mle,oM⟩
  omega
 refine uY ?_;refine zC I I ?_;have em:m=E.length:=by omega
 subst em
 rfl
theorem zNV{vF:Value}{F:(List (List (List Int)))}(rF:(rpS tII).Is h0 vF F):
 Calls prog 145 #[vF] w0 (Ret w0 h0 (λh r=>(rpS tE5).Is h r (clZ F))):=by
 refine cb1 64 vF func145 hs ?_;refine go9 ?_;refine cL (ev1 I) call180 (λw hs=>zQ0 hs rF) λv7 h1 dx r7=>?_;obtain rfl:v7=vB (vaP F):=r7;refine gc3 (λad=>?_) λad=>?_
 ·
  refine go2 ?_;refine lX (xV (ρ:=tE5) (wE (ps':=[(0,_),(1,_),(2,_),(3,_),(4,_)]) underlying200 jU I I (zC3 underlying200) e10 I (yE wL (yE wL (yE wL (yE wL wL)))) (zD I (y4e (y4i _)) (xZ dC dC) (zD I (y5i (y4e (y4i _))) (xZ dC dC) (zD I (y5i (y5i (y4e (y4i _)))) (xZ dC dC) (zD I (y5i (y5i (y5i (y4e (y4i _))))) (xZ dC dC) (zD I (y5i (y5i (y5i (y5i (y4i _))))) (xZ dC dC) zP))))))) λv9 r9=>(zH (zJ (ρ:=tE5) (m:=1) (xs:=[((1:Int),((-1:Int),((-1:Int),((-1:Int),(-1:Int)))))]) (ps':=[(0,_)]) underlying133 jU I I I (yE wL (yE wL (yE wL (yE wL wL)))) e2z (zD I (y4u (y4i _) e50 0 dC) r9 zP) zoi nP) I I I ?_)
  rintro dp dt ⟨cm,rfl,aj⟩
  refine go5 ?_;refine wT (A:=[]) (ρ:=tE5) aj ?_;intro h2 bu ab;refine zC I I ?_;exact(Rp.Is.cast ab (by exact(zae ad).symm))
 refine uQ ?_;have U:vaP F:=zdi ad;have ae:∀f,f<F.length->(F.getD f []).length<=16/\∀l,l<(F.getD f []).length->((F.getD f []).getD l []).length<=64:=λf hf=>⟨(U.2 f hf).1.2,λl hl=>((U.2 f hf).2 l hl).1.2⟩;have ea:F.length<=256:=U.1;have dz:=zCC ae F.length (zbe _);have dy:(edZ F).length<=262144:=by show(edF F F.length).length<=_;omega
 refine cL (ev1 I) call135 (λw hs=>zGL hs rF.up (by first|omega|exact ae) (by first|omega|exact ae)) λaq h2 bu H=>(uQ ?_);refine xN 200 5 ?_;have ac:=RL.nil (ρ:=rpP rpI (rpP rpI (rpP rpI (rpP rpI rpI)))) (h:=h2);refine gcL (ι:=Nat×List (Int×Int×Int×Int×Int)×Value×List Value×Mem) (λ(i,D,C,J,ma)=>(MLe h2 ma/\(RL tE5 ma J D/\i<=(edZ F).length/\D=yLX (edZ F) i),[(3,C),(4,aq),(5,vI ↑i)],[.gs 200 5 C D.length J],ma,(edZ F).length-i)) (0,[],(.slice none 0 0),[],h2) ?_ ?_
 · exact⟨mle,ac,by omega,I⟩
 rintro⟨i,D,C,J,ma⟩ ⟨cd,M,du,hD⟩
 refine xD ?_;have eb:D.length<=i:=by rw[hD];exact cF _ _ i
 refine gc9 (λak=>?_) λak=>?_
 ·
  refine go5 ?_;refine zL 25 _ [] (zai 0 11 (zai 12 11 [(11,.c),(23,.c),(24,.q)])) yF nX (wS zou) nX (λr hr=>hr) (go3 ?_);refine wX I (xI e50 i underlying163 j5 H) λdn bq=>(wX I (xF underlying168 sizeOf3 (y4e pH) bq) λdm bp=>(wX I (xA ty3 bp) λdl bo=>?_));obtain⟨rfl,ck,cc⟩:=jM bo;refine go2 ?_;refine wX I (xI e50 i underlying163 j5 H) λdk bn=>(wX I (xF underlying168 sizeOf3 (y5i (y4e pH)) bn) λdj bm=>(wX I (xA ty3 bm) λdi bl=>?_));obtain⟨rfl,cj,cb⟩:=jM bl;refine go3 ?_;refine wX I (xI e50 i underlying163 j5 H) λdh bj=>(wX I (xF underlying168 sizeOf3 (y5i (y4e pH)) bj) λdf bi=>(wX I (xA ty3 bi) λde bh=>?_));obtain⟨rfl,ci,ca⟩:=jM bh;refine go2 ?_;refine wX I (xI e50 i underlying163 j5 H) λdd bg=>(wX I (xF underlying168 sizeOf3 (y4e pH) bg) λdc bf=>(wX I (xA ty3 bf) λdb be=>?_));obtain⟨rfl,ch,bz⟩:=jM be;refine w_c I (sC (ev3 I I I) call181 (λw hs=>zGK hs H.up oM oM oM oM oM) λap h3 bt bk=>?_);obtain rfl:ap=vI (tmZ (edZ F) (((edZ F).getD i e50).1) ((((edZ F).getD i e50).2).1)):=bk;have bs:=zA3 (edZ F) (((edZ F).getD i e50).1) ((((edZ F).getD i e50).2).1) (edZ F).length;refine w_c I (sC (ev3 I I I) call181 (λw hs=>zGK hs H.up oM oM oM oM oM) λao h4 dw bd=>?_);obtain rfl:ao=vI (tmZ (edZ F) ((((edZ F).getD i e50).2).1) (((edZ F).getD i e50).1)):=bd;have br:=zA3 (edZ F) ((((edZ F).getD i e50).2).1) (((edZ F).getD i e50).1) (edZ F).length;refine gc3 (λO=>?_) λO=>?_
  ·
   refine qS (A:=[]) 20 [] (zai 0 17 [(17,.c),(18,.c),(19,.q)]) yF nX (wS zou) nX (go3 ?_);refine wX I (xI e50 i underlying163 j5 H) λda bc=>(wX I (xF underlying168 sizeOf3 (y5i (y5i (y4e pH))) bc) λcz bb=>(wX I (xA ty3 bb) λcy ba=>?_));obtain⟨rfl,cg,bx⟩:=jM ba;refine go2 ?_;refine wX I (xI e50 i underlying163 j5 H) λcw az=>(wX I (xF underlying168 sizeOf3 (y5i (y5i (y5i (y4e pH)))) az) λcv ay=>(wX I (xA ty3 ay) λcu ax=>?_));obtain⟨rfl,cf,bw⟩:=jM ax;refine go2 ?_;refine wX I (xI e50 i underlying163 j5 H) λct aw=>(wX I (xF underlying168 sizeOf3 (y5i (y5i (y5i (y5i pH)))) aw) λcq av=>(wX I (xA ty3 av) λcp au=>?_));obtain⟨rfl,ce,bv⟩:=jM au;refine wX I (xV (ρ:=tE5) (wE (ps':=[(0,_),(1,_),(2,_),(3,_),(4,_)]) underlying200 jU I I (zC3 underlying200) e10 I (yE wL (yE wL (yE wL (yE wL wL)))) (zD I (y4e (y4i _)) (xZ dC dC) (zD I (y5i (y4e (y4i _))) (xZ dC dC) (zD I (y5i (y5i (y4e (y4i _)))) (xZ oM oM) (zD I (y5i (y5i (y5i (y4e (y4i _))))) (xZ oM oM) (zD I (y5i (y5i (y5i (y5i (y4i _))))) (xZ oM oM) zP))))))) λco ar=>?_;refine w_c I (jH (λX=>zJ (ρ:=tE5) (m:=1) (xs:=[((30:Int),((-1:Int),((((((edZ F).getD i e50).2).2).1),(((((((edZ F).getD i e50).2).2).2).1),((((((edZ F).getD i e50).2).2).2).2)))))]) (ps':=[(0,_)]) underlying133 jU I I I (yE wL (yE wL (yE wL (yE wL wL)))) e2z (zD I (y4u (y4i _) e50 0 dC) ar zP) zoi nP) I ?_)
   rintro cn dr ⟨cl,rfl,ai⟩
   refine w_c I (xT (A:=[]) (ρ:=tE5) ai dK ?_);intro h5 dv aa;refine fL (A:=[]) (λX=>zS (ρ:=tE5) (bytes:=40) underlying133 jU I I I I nP I I M.up aa bO bO) I (xQ zoy) ?_
   rintro an dq ⟨am,rfl,ah⟩
   refine go9 ?_;refine gqL ((i+1),(D++[((30:Int),((-1:Int),((((((edZ F).getD i e50).2).2).1),(((((((edZ F).getD i e50).2).2).2).1),((((((edZ F).getD i e50).2).2).2).2)))))]),an,am,h5) ?_ ?_
   · exact⟨mle,ah,by omega,by rw[hD];exact zBB O⟩
   omega
  refine go8 ?_;refine gqL ((i+1),D,C,J,h4) ?_ ?_
  · exact⟨mle,M.up,by omega,by rw[hD];exact zBC O⟩
  omega
 refine uY ?_;refine wT (A:=[]) (ρ:=tE5) M.up ?_;intro h3 bt Z;refine zC I I ?_;exact(Rp.Is.cast Z (by rw[hD,show i=(edZ F).length by omega];exact(zau U).symm))
end
end Go.Proofs.YtpkaegemlpaenaaGreat
namespace Bk
open Classical
def uC(a b:Pt):Pt:=T3.mk (a.x+b.x) (a.y+b.y) (a.z+b.z)
def moved(l l':List Pt)(v:Pt):Prop:=l'.length=l.length/\∀q,q<l.length->gp l' q=uC (gp l q) v
def hgt(pl:Pl)(p:Pt):Rat:=zM pl.1 p-pl.2
def sdZ(pl:Pl)(p:Pt):Int:=yX (hgt pl p)
theorem lF(pl:Pl)(p:Pt):-1<=sdZ pl p/\sdZ pl p<=1:=xK _
abbrev nx(l:List Pt)(m:Nat):Pt:=gp l ((m+1)%l.length)
section
variable {pl:Pl}{l B:List Pt}{m:Nat}
end
def cY(l:List Pt):Prop:=aM l 0 1->¬uV l 0 1 l.length=0
theorem zDR{l:List Pt}(h:¬uV l 0 1 l.length=0):cY l:=λ_=>h
abbrev PI:=Int×Int
def crI(u v w:PI):Int:=(v.1-u.1)*(w.2-u.2)-(v.2-u.2)*(w.1-u.1)
def sgI(n:Int):Int:=if 0<n then 1 else if n<0 then -1 else 0
def orI(u v w:PI):Int:=sgI (crI u v w)
def lxI(u v:PI):Bool:=decide (u.1<v.1\/(u.1=v.1/\u.2<v.2))
def apI(a b c d:Int):Bool:=decide ((a<c/\a<d/\b<c/\b<d)\/(c<a/\d<a/\c<b/\d<b))
def alS(a b c d:PI):Int:=
 if lxI (if lxI d b then d else b) (if lxI a c then c else a) then 0 else if lxI (if lxI a c then c else a) (if lxI d b then d else b) then 3
 else if((if lxI a c then c else a)=a\/(if lxI a c then c else a)=b)/\((if lxI a c then c else a)=c\/(if lxI a c then c else a)=d) then 1 else 2
def alI(a b c d:PI):Int:=alS (if lxI b a then b else a) (if lxI b a then a else b) (if lxI d c then d else c) (if lxI d c then c else d)
def toI(a b c d:PI):Int:=
 if apI a.1 b.1 c.1 d.1\/apI a.2 b.2 c.2 d.2 then 0
 else if orI a b c=0/\orI a b d=0/\orI c d a=0/\orI c d b=0 then alI a b c d
 else if 0<orI a b c*orI a b d\/0<orI c d a*orI c d b then 0
 else if(orI a b c=0\/orI a b d=0)/\(orI c d a=0\/orI c d b=0) then 1 else 2
def af(x y r:Int)(u:PI):P2:=(((x+r*u.1:Int):Rat),((y+r*u.2:Int):Rat))
def waI(n p q:Nat):Int:=if q=p+1\/(p=0/\q+1=n) then 1 else 0
theorem yB7{a b:List Pt}{p q:Nat}:2<=oO (vG a 0 1 p) (vD a 0 1 p) (vG b 0 1 q) (vD b 0 1 q)↔s5 a b 0 1 p q:=by
 unfold s5;rw[zMW];omega
theorem zWV{a b:List Pt}{p q:Nat}(h:s5 a b 0 1 p q):s5 b a 0 1 q p:=by
 unfold s5 at *;rw[zFQ];exact h
theorem eV{a b:List Pt}(h:gZ a b 0 1):gZ b a 0 1:=by
 obtain⟨p,q,D,C,h⟩:=h;exact⟨q,p,C,D,zWV h⟩
theorem yG0(a b:Pt):pr (T3.mk (zDD a.x b.x) (zDD a.y b.y) (0:Rat)) 0 1=zRJ (pr a 0 1) (pr b 0 1):=rfl
theorem yBU{l:List Pt}(hf:cY l)(hs:aM l 0 1):¬yX (arZ l 0 1)=0:=λe=>hf hs (uT.1 e)
theorem yFO{L:List (List Pt)}(h:∀x,x∈L->cY x)(m:Nat):cY (gl L m):=by
 show cY (L.getD m [])
 rw[zoa]
 rcases ztu m L.length with h1|h1
 · rw[zoc h1]
   exact h _ (ybu h1)
 · rw[zru h1]
   exactλe=>absurd e.1 zow
theorem yJ0{L:List (List Pt)}{m:Nat}(h:yX (uV (gl L m) 0 1 (gl L m).length)<0):sD L 0 1 m L.length=pZ L 0 1 m:=by
 have h1:yX (arZ (gl L m) 0 1)<0:=h;unfold pZ;rw[zae zot]
theorem zY1{L:List (List Pt)}{m:Nat}(hf:∀x,x∈L->cY x)(hs:aM (gl L m) 0 1)(h:¬yX (uV (gl L m) 0 1 (gl L m).length)<0):0<yX (arZ (gl L m) 0 1):=by
 have h1:¬yX (arZ (gl L m) 0 1)<0:=h;have h2:=yBU (yFO hf m) hs;omega
theorem yJZ{L:List (List Pt)}{m:Nat}(hf:∀x,x∈L->cY x)(hs:aM (gl L m) 0 1)(h:¬yX (uV (gl L m) 0 1 (gl L m).length)<0):-1=pZ L 0 1 m:=by
 unfold pZ;rw[zau (zY1 hf hs h)]
theorem zJ1{O:List Int}{m:Nat}{f:Nat->Int}{p:Int}(hl:O.length=m)(h:∀q,q<m->O.getD q 0=f q)(hp:p=f m):(O++[p]).length=m+1/\∀q,q<m+1->(O++[p]).getD q 0=f q:=by
 refine⟨by rw[lAz,hl];rfl,λq C=>?_⟩;rw[zoa]
 by_cases e:q=m
 · subst e
   rw[ymu zot,hl,ytu];exact hp
 · rw[yoi zot,<-zoa]
   exact h q zot
theorem yJ8{L:List (List Pt)}{a:Nat}(h:0<yX (arZ (gl L a) 0 1)):¬iD L 0 1 a/\∀b,b<L.length->¬zCV L 0 1 a b:=by
 refine⟨λe=>e.1 h,λb _ e=>?_⟩;have h1:=e.1.1.2;have h2:pZ L 0 1 a= -1:=by unfold pZ;rw[zau h]
 omega
theorem yK8{L:List (List Pt)}{m:Nat}(hf:∀x,x∈L->cY x)(hs:aM (gl L m) 0 1)(h:0<=yX (uV (gl L m) 0 1 (gl L m).length)):0<yX (arZ (gl L m) 0 1):=zY1 hf hs zot
theorem zTE{L:List (List Pt)}{a:Nat}{o:Int}(h:¬0<=yX (uV (gl L a) 0 1 (gl L a).length))(ho:o=pZ L 0 1 a)(h1:o<0):iD L 0 1 a:=by
 have h2:yX (arZ (gl L a) 0 1)<0:=yue.1 h;refine⟨by omega,?_⟩;rw[ho] at h1;unfold pZ at h1;rw[zae zot] at h1;exact h1
theorem zBR{L:List (List Pt)}{a:Nat}{o:Int}(ho:o=pZ L 0 1 a)(h1:¬o<0):¬iD L 0 1 a:=λe=>by
 rw[ho] at h1;unfold pZ at h1;rw[zae e.1] at h1;exact h1 e.2
abbrev Fc:=(Pt×Rat)×List (List Int)×List Nat
abbrev En:=Int×Int×Rat
abbrev Sd:=List Pt×List Fc×List En
abbrev zVG:Pt×Rat:=(zT,(0:Rat))
abbrev zA:Fc:=(zVG,([]:List (List Int)),([]:List Nat))
def nmL(n:Nat)(x:List Int):Prop:=∀k,k<x.length->0<=(x.getD k 0)/\(x.getD k 0)<n
def nmP(s:Sd)(f:Nat):Prop:=∀l,l<((s.2.1.getD f zA).2.1).length->nmL s.1.length ((((s.2.1.getD f zA).2.1).getD l []))
def wZ(s:Sd):List (List (List Int)):=wO (λf=>(s.2.1.getD f zA).2.1) s.2.1.length
theorem tX(s:Sd):(wZ s).length=s.2.1.length:=yY _ _
theorem aW{s:Sd}{f:Nat}(h:f<s.2.1.length):((wZ s).getD f [])=(s.2.1.getD f zA).2.1:=uO _ _ h
def zF7(ps:List Pt)(x:List Int):Nat->List Pt:=wO λk=>gp ps ((x.getD k 0)).toNat
def zHW(s:Sd)(f:Nat):Nat->List (List Pt):=wO λl=>zF7 s.1 ((((s.2.1.getD f zA).2.1).getD l [])) ((((s.2.1.getD f zA).2.1).getD l [])).length
def xR(s:Sd)(f:Int):List (List Pt):=if(0<=f/\f<s.2.1.length)/\nmP s f.toNat then zHW s f.toNat ((s.2.1.getD f.toNat zA).2.1).length else[]
theorem yF0{s:Sd}{f:Int}(h:∀f,f<s.2.1.length->(s.2.1.getD f zA).2.1.length<=10000/\∀l,l<(s.2.1.getD f zA).2.1.length->((s.2.1.getD f zA).2.1.getD l []).length<=10000):(xR s f).length<=10000/\∀l,((xR s f).getD l []).length<=10000:=by
 unfold xR
 split
 · rename_i hf
   have h1:=h f.toNat zot;have h2:(zHW s f.toNat (s.2.1.getD f.toNat zA).2.1.length).length=(s.2.1.getD f.toNat zA).2.1.length:=yY _ _;refine⟨by omega,λl=>?_⟩
   rcases ztu l (s.2.1.getD f.toNat zA).2.1.length with h3|h3
   · unfold zHW
     rw[uO _ _ h3];unfold zF7;rw[yY];exact h1.2 l h3
   · rw[zoa,zru zot];exact zui _
 · exact⟨zui _,λl=>zui _⟩
def flA(pl:Pl)(l:List Pt):Nat->List Pt:=wO λi=>qL pl (gp l i)
def flL(pl:Pl)(L:List (List Pt)):Nat->List (List Pt):=wO λi=>flA pl (gl L i) (gl L i).length
def fJ(s:Sd)(f:Nat):List (List Pt):=flL ((s.2.1.getD f zA)).1 (xR s f) (xR s f).length
def dg(kind face loop edge:Int):E5:=(kind,(-1:Int),face,loop,edge)
def szP(s:Sd)(f:Nat):Prop:=¬vfP ((s.2.1.getD f zA).2.1)\/¬nmP s f
def zPK(s:Sd):Prop:=(512<s.1.length\/256<s.2.1.length)\/1024<s.2.2.length
def yIV(s:Sd):Nat->List E5:=cW (szP s) λf=>dg 1 f (-1) (-1)
def szZ(s:Sd):List E5:=if zPK s then yIV s s.2.1.length++[dg 2 (-1) (-1) (-1)] else yIV s s.2.1.length
def twP(s:Sd)(i:Nat):Prop:=∃k,k<i/\gp s.1 i=gp s.1 k
def zMV(s:Sd):Nat->List E5:=cW (twP s) λi=>dg 37 (-1) (-1) i
def zrP(s:Sd)(f:Nat):Prop:=((s.2.1.getD f zA)).1.1=zT
def zUN(s:Sd):Nat->List E5:=cW (zrP s) λf=>dg 9 f (-1) (-1)
def ofP(s:Sd)(f l k:Nat):Prop:=¬sdZ ((s.2.1.getD f zA)).1 (gp (gl (xR s f) l) k)=0
def ofX(s:Sd)(f l:Nat):Nat->List E5:=cW (ofP s f l) λk=>dg 31 f l k
def ofL(s:Sd)(f:Nat):Nat->List E5:=gM λl=>ofX s f l (gl (xR s f) l).length
def zQW(s:Sd):Nat->List E5:=gM λf=>ofL s f (xR s f).length
theorem oD{s:Sd}{f:Int}(h:∀f,f<s.2.1.length->(s.2.1.getD f zA).2.1.length<=16/\∀l,l<(s.2.1.getD f zA).2.1.length->((s.2.1.getD f zA).2.1.getD l []).length<=64):(xR s f).length<=16/\∀l,((xR s f).getD l []).length<=64:=by
 unfold xR
 split
 · rename_i hf
   have h1:=h f.toNat zot;have h2:(zHW s f.toNat (s.2.1.getD f.toNat zA).2.1.length).length=(s.2.1.getD f.toNat zA).2.1.length:=yY _ _;refine⟨by omega,λl=>?_⟩
   rcases ztu l (s.2.1.getD f.toNat zA).2.1.length with h3|h3
   · unfold zHW
     rw[uO _ _ h3];unfold zF7;rw[yY];exact h1.2 l h3
   · rw[zoa,zru zot];exact zui _
 · exact⟨zui _,λl=>zui _⟩
section
variable {s:Sd}(h:∀f,f<s.2.1.length->(s.2.1.getD f zA).2.1.length<=16/\∀l,l<(s.2.1.getD f zA).2.1.length->((s.2.1.getD f zA).2.1.getD l []).length<=64)
include h
theorem zGH(f:Nat):∀l,(ofL s f l).length<=64*l
  |0=>zbe _
  |l+1=>by
   have h1:=zGH f l;have h2:(ofX s f l ((xR s f).getD l []).length).length<=((xR s f).getD l []).length:=cF _ _ _;have h3:=(oD (f:=↑f) h).2 l
   show List.length (ofL s f l++ofX s f l ((xR s f).getD l []).length)<=_
   rw[lAz];omega
theorem zZJ:∀f,f<=s.2.1.length->(zQW s f).length<=1024*f
  |0,_=>zbe _
  |f+1,hf=>by
   have h1:=zZJ f zot;have h2:=zGH h f (xR s f).length;have h3:=(oD (f:=↑f) h).1
   show List.length (zQW s f++ofL s f (xR s f).length)<=_
   rw[lAz];omega
end
def plZ(s:Sd):List E5:=if 0<(zUN s s.2.1.length).length then zUN s s.2.1.length else zQW s s.2.1.length
def zAF(L:List (List Pt)):Nat->Int
  |0=>0
  |m+1=>if 0<yX (arZ (gl L m) 0 1) then zAF L m+1 else zAF L m
theorem zBJ(L:List (List Pt)):∀m,0<=zAF L m/\zAF L m<=m
  |0=>by unfold zAF;omega
  |m+1=>by
   have h:=zBJ L m;unfold zAF
   split<;>omega
theorem ou_t{L:List (List Pt)}{m:Nat}(h:0<yX (arZ (gl L m) 0 1)):zAF L m+1=zAF L (m+1):=(zau h).symm
theorem ou_f{L:List (List Pt)}{m:Nat}(h:¬0<yX (arZ (gl L m) 0 1)):zAF L m=zAF L (m+1):=(zae h).symm
def ouZ(L:List (List Pt)):Int:=zAF L L.length
def bnP(s:Sd)(f:Nat):Prop:=¬uG (fJ s f) 0 1=0
def yCL(s:Sd):Nat->List E5:=cW (bnP s) λf=>dg (uG (fJ s f) 0 1) f (-1) (-1)
def mnP(s:Sd)(f:Nat):Prop:=¬ouZ (fJ s f)=1
def yKB(s:Sd):Nat->List E5:=cW (mnP s) λf=>dg 33 f (-1) (-1)
def neZ(s:Sd):List E5:=if 0<(yCL s s.2.1.length).length then yCL s s.2.1.length else yKB s s.2.1.length
theorem zOB(L:List (List Pt))(i j:Nat):0<=uG L i j/\uG L i j<=33:=by
 unfold uG
 repeat' split
 all_goals decide
theorem zB8(s:Sd)(f:Nat):(fJ s f).length=(xR s ↑f).length/\∀l,((fJ s f).getD l []).length=((xR s ↑f).getD l []).length:=by
 have h1:(fJ s f).length=(xR s ↑f).length:=yY _ _;refine⟨h1,λl=>?_⟩
 rcases ztu l (xR s ↑f).length with h|h
 · unfold fJ flL
   rw[uO _ _ h];exact yY _ _
 · rw[zoa,zoa,zru zot,zru h]
def okS(s:Sd):Prop:=((s.1.length<=1000/\s.2.1.length<=1000)/\s.2.2.length<=2000)/\(∀f,f<s.2.1.length->(s.2.1.getD f zA).2.1.length<=16/\∀l,l<(s.2.1.getD f zA).2.1.length->((s.2.1.getD f zA).2.1.getD l []).length<=64)/\∀f,f<s.2.1.length->∀x,x∈fJ s f->cY x
theorem okS.big{s:Sd}(h:okS s):∀f,f<s.2.1.length->(s.2.1.getD f zA).2.1.length<=10000/\∀l,l<(s.2.1.getD f zA).2.1.length->((s.2.1.getD f zA).2.1.getD l []).length<=10000:=λf hf=>⟨zci (h.2.1 f hf).1 zow,λl hl=>zci ((h.2.1 f hf).2 l hl) zow⟩
theorem okS.mem{s:Sd}(h:okS s):∀f,f<s.2.1.length->(s.2.1.getD f zA).2.1.length<=100000/\∀x,x∈(s.2.1.getD f zA).2.1->x.length<=100000:=λf hf=>⟨zci (h.2.1 f hf).1 zow,λx hx=>by
 obtain⟨m,hm,e⟩:=yfe hx;have:=(h.2.1 f hf).2 m hm;rw[zoa,zoc hm] at this;rw[<-e];exact zci this zow⟩
def yCD(s:Sd):List E5:=if 0<(szZ s).length then szZ s else if 0<(zMV s s.1.length).length then zMV s s.1.length else if 0<(plZ s).length then plZ s else if 0<(neZ s).length then neZ s else clZ (wZ s)
def kC(s:Sd):Prop:=(yCD s).length=0
def lsP(p q:Pt):Prop:=p.x<q.x\/(p.x=q.x/\(p.y<q.y\/(p.y=q.y/\p.z<q.z)))
def cQ:List Int->List Int->Int
  |[],[]=>0
  |[],_::_=>-1
  |_::_,[]=>1
  |x::a,y::b=>if x=y then cQ a b else if x<y then -1 else 1
theorem zT7{i:Nat}:∀{a b:List Int},(∀u,u<i->(a.getD u 0)=(b.getD u 0))->i<a.length->i<b.length->¬(a.getD i 0)=(b.getD i 0)->cQ a b=if(a.getD i 0)<(b.getD i 0) then -1 else 1:=by
 induction i with
 |zero=>
  intro a b _ ha hb hne
  match a,b,ha,hb with
  |x::a,y::b,_,_=>exact zae hne
 |succ i ih=>
  intro a b h ha hb hne
  match a,b,ha,hb with
  |x::a,y::b,ha,hb=>
   have h0:x=y:=h 0 zot
   show(if x=y then cQ a b else _)=_
   rw[zau h0];exact ih (λu hu=>h (u+1) zot) (by simpa using ha) (by simpa using hb) hne
theorem zH1{i:Nat}:∀{a b:List Int},(∀u,u<i->(a.getD u 0)=(b.getD u 0))->i=min a.length b.length->cQ a b=if a.length<b.length then -1 else if b.length<a.length then 1 else 0:=by
 induction i with
 |zero=>
  intro a b _ he
  match a,b with
  |[],[]=>rfl
  |[],_::_=>rfl
  |_::_,[]=>rfl
  |_::_,_::_=>simp at he
 |succ i ih=>
  intro a b h he
  match a,b with
  |[],_=>simp at he
  |_::_,[]=>simp at he
  |x::a,y::b=>
   have h0:x=y:=h 0 zot
   show(if x=y then cQ a b else _)=_
   rw[zau h0,ih (λu hu=>h (u+1) zot) (by simp at he;omega)];simp only[lC,Nat.add_lt_add_iff_right]
theorem zAU:∀a b:List Int,-1<=cQ a b/\cQ a b<=1
  |[],[]=>⟨by show(-1:Int)<=0;decide,by show(0:Int)<=1;decide⟩
  |[],_::_=>⟨by show(-1:Int)<= -1;decide,by show(-1:Int)<=1;decide⟩
  |_::_,[]=>⟨by show(-1:Int)<=1;decide,by show(1:Int)<=1;decide⟩
  |x::a,y::b=>by
   show -1<=(if x=y then cQ a b else if x<y then -1 else 1)/\(if x=y then cQ a b else if x<y then -1 else 1)<=1
   split
   · exact zAU a b
   · split<;>decide
def cX(x:List Int):Nat->Nat
  |0=>0
  |m+1=>if(x.getD m 0)<(x.getD (cX x m) 0) then m else cX x m
theorem yGZ(x:List Int):∀m,cX x m<m\/cX x m=0
  |0=>.inr rfl
  |m+1=>by
   have h:=yGZ x m;unfold cX
   split<;>omega
theorem mn_t{x:List Int}{m:Nat}(h:(x.getD m 0)<(x.getD (cX x m) 0)):m=cX x (m+1):=(zau h).symm
theorem mn_f{x:List Int}{m:Nat}(h:¬(x.getD m 0)<(x.getD (cX x m) 0)):cX x m=cX x (m+1):=(zae h).symm
def zU8(x:List Int):List Int:=x.drop (cX x x.length)++x.take (cX x x.length)
def zWC:List (List Int)->List (List Int)->Prop
  |[],[]=>False
  |[],_::_=>True
  |_::_,[]=>False
  |x::a,y::b=>if cQ x y=0 then zWC a b else cQ x y<0
theorem yE6{i:Nat}:∀{a b:List (List Int)},(∀u,u<i->cQ ((a.getD u [])) ((b.getD u []))=0)->i<a.length->i<b.length->¬cQ ((a.getD i [])) ((b.getD i []))=0->(zWC a b↔cQ ((a.getD i [])) ((b.getD i []))<0):=by
 induction i with
 |zero=>
  intro a b _ ha hb hne
  match a,b,ha,hb with
  |x::a,y::b,_,_=>exact Iff.of_eq (zae hne)
 |succ i ih=>
  intro a b h ha hb hne
  match a,b,ha,hb with
  |x::a,y::b,ha,hb=>
   have h0:cQ x y=0:=h 0 zot
   show(if cQ x y=0 then zWC a b else _)↔_
   rw[zau h0];exact ih (λu hu=>h (u+1) zot) (by simpa using ha) (by simpa using hb) hne
theorem yAF{i:Nat}:∀{a b:List (List Int)},(∀u,u<i->cQ ((a.getD u [])) ((b.getD u []))=0)->i=min a.length b.length->(zWC a b↔a.length<b.length):=by
 induction i with
 |zero=>
  intro a b _ he
  match a,b with
  |[],[]=>exact⟨False.elim,λh=>absurd h (ymi _)⟩
  |[],_::_=>exact⟨λ_=>yle _,λ_=>trivial⟩
  |_::_,[]=>exact⟨False.elim,λh=>absurd h (z2u _)⟩
  |_::_,_::_=>simp at he
 |succ i ih=>
  intro a b h he
  match a,b with
  |[],_=>simp at he
  |_::_,[]=>simp at he
  |x::a,y::b=>
   have h0:cQ x y=0:=h 0 zot
   show(if cQ x y=0 then zWC a b else _)↔_
   rw[zau h0,ih (λu hu=>h (u+1) zot) (by simp at he;omega)];simp only[lC,Nat.add_lt_add_iff_right]
def lsF(a b:Fc):Prop:=if a.2.2=b.2.2 then zWC a.2.1 b.2.1 else lsN a.2.2 b.2.2
theorem ls_x{p q:Pt}(h:¬xU p.x q.x=0):xU p.x q.x<0↔lsP p q:=by
 unfold lsP;rw[oE];rw[aZ] at h;exact⟨.inl,λe=>e.elim id λe=>absurd e.1 h⟩
theorem ls_y{p q:Pt}(h:xU p.x q.x=0)(h2:¬xU p.y q.y=0):xU p.y q.y<0↔lsP p q:=by
 unfold lsP;rw[oE];rw[aZ] at h h2;have:=@Rat.lt_irrefl p.x;exact⟨λe=>.inr ⟨h,.inl e⟩,λe=>e.elim (λe=>absurd (h▸e) this) λe=>e.2.elim id λe=>absurd e.1 h2⟩
theorem ls_z{p q:Pt}(h:xU p.x q.x=0)(h2:xU p.y q.y=0)(h3:¬xU p.z q.z=0):xU p.z q.z<0↔lsP p q:=by
 unfold lsP;rw[oE];rw[aZ] at h h2;have D:=@Rat.lt_irrefl p.x;have C:=@Rat.lt_irrefl p.y;exact⟨λe=>.inr ⟨h,.inr ⟨h2,e⟩⟩,λe=>e.elim (λe=>absurd (h▸e) D) λe=>e.2.elim (λe=>absurd (h2▸e) C) λe=>e.2⟩
theorem yN0{p q:Pt}(h:xU p.x q.x=0)(h2:xU p.y q.y=0)(h3:xU p.z q.z=0):¬lsP p q:=by
 rw[aZ] at h h2 h3;have H:=@Rat.lt_irrefl p.x;have D:=@Rat.lt_irrefl p.y;have C:=@Rat.lt_irrefl p.z;exactλe=>e.elim (λe=>absurd (h▸e) H) λe=>e.2.elim (λe=>absurd (h2▸e) D) λe=>absurd (h3▸e.2) C
theorem yN2{p q:Pt}{i:Nat}(hi:i<3)(h:∀u,u<i->xU (p.at u) (q.at u)=0)(hn:¬xU (p.at i) (q.at i)=0):xU (p.at i) (q.at i)<0↔lsP p q:=by
 match i,hi with
 |0,_=>exact ls_x hn
 |1,_=>exact ls_y (h 0 zow) hn
 |2,_=>exact ls_z (h 0 zow) (h 1 zow) hn
theorem yKH{p q:Pt}(h:∀u,u<3->xU (p.at u) (q.at u)=0):¬lsP p q:=yN0 (h 0 zow) (h 1 zow) (h 2 zow)
def ivA(x:Rat):Rat:=if dS x=0 then 0 else((1:Int):Rat)/dS x
def scW(r:Rat)(pl:Pl):Pl:=(T3.mk (r*pl.1.x) (r*pl.1.y) (r*pl.1.z),r*pl.2)
def scZ(pl:Pl):Pl:=if ¬yX pl.1.x=0 then scW (ivA pl.1.x) pl else if ¬yX pl.1.y=0 then scW (ivA pl.1.y) pl else if ¬yX pl.1.z=0 then scW (ivA pl.1.z) pl else zVG
theorem yNL{pl:Pl}{i:Nat}(hi:i<3)(h:∀u,u<i->yX (pl.1.at u)=0)(hn:¬yX (pl.1.at i)=0):scW (ivA (pl.1.at i)) pl=scZ pl:=by
 unfold scZ
 match i,hi with
 |0,_=>exact(zau hn).symm
 |1,_=>exact((zae (λe=>e (h 0 zow))).trans (zau hn)).symm
 |2,_=>exact((zae (λe=>e (h 0 zow))).trans ((zae (λe=>e (h 1 zow))).trans (zau hn))).symm
theorem yJJ{pl:Pl}(h:∀u,u<3->yX (pl.1.at u)=0):zVG=scZ pl:=by
 unfold scZ;exact((zae (λe=>e (h 0 zow))).trans ((zae (λe=>e (h 1 zow))).trans (zae (λe=>e (h 2 zow))))).symm
def iJ(x:List Int):Nat->List Int:=wO λi=>x.getD (x.length-1-i) 0
def zKI(E:List E5)(m i:Nat):Prop:=∃q,q<m/\(E.getD q ((0:Int),(0:Int),(0:Int),(0:Int),(0:Int))).1=(i:Int)
theorem zXE{E:List E5}{m n:Nat}{U:List Prop}(hl:U.length=n)(h:∀u,u<n->(U.getD u False↔zKI E m u))(h0:0<=(E.getD m ((0:Int),(0:Int),(0:Int),(0:Int),(0:Int))).1)(h1:(E.getD m ((0:Int),(0:Int),(0:Int),(0:Int),(0:Int))).1<n):∀u,u<n->((U.set (E.getD m ((0:Int),(0:Int),(0:Int),(0:Int),(0:Int))).1.toNat True).getD u False↔zKI E (m+1) u):=by
 intro u D;rw[zoa,y0i];have hx:zKI E (m+1) u↔zKI E m u\/(E.getD m ((0:Int),(0:Int),(0:Int),(0:Int),(0:Int))).1=(u:Int):=by
  constructor
  · rintro⟨q,C,e⟩
    rcases zhu.1 C with h|h
    · exact .inl ⟨q,h,e⟩
    · subst h;exact .inr e
  · rintro(⟨q,C,e⟩|e)
    · exact⟨q,by omega,e⟩
    · exact⟨m,by omega,e⟩
 rw[hx]
 split
 · rename_i e
   rw[zau zot];exact⟨λ_=>.inr zot,λ_=>trivial⟩
 · rename_i e
   have:=h u D;rw[zoa] at this;rw[this];exact⟨.inl,λh=>h.resolve_right zot⟩
def nmA(s:Sd):Prop:=∀f,f<s.2.1.length->nmP s f
theorem zWQ{s:Sd}(h:nmA s){q:Nat}(hq:q<(edZ (wZ s)).length):0<=((edZ (wZ s)).getD q ((0:Int),(0:Int),(0:Int),(0:Int),(0:Int))).1/\((edZ (wZ s)).getD q ((0:Int),(0:Int),(0:Int),(0:Int),(0:Int))).1<s.1.length:=by
 have C:=kR (d:=((0:Int),(0:Int),(0:Int),(0:Int),(0:Int))) hq;generalize (edZ (wZ s)).getD q ((0:Int),(0:Int),(0:Int),(0:Int),(0:Int))=e at C ⊢;obtain⟨f,hf,C⟩:=zHM C;obtain⟨l,D,C⟩:=zHM C;obtain⟨i,hi,rfl⟩:=zS9 C;rw[tX] at hf;have H:(wZ s).getD f []=(s.2.1.getD f zA).2.1:=uO _ _ hf;rw[H] at D hi ⊢;exact h f hf l D i hi
theorem yFV{s:Sd}(h:okS s):(edZ (wZ s)).length<=1100000:=by
 have h1:=zCC (F:=wZ s) (λf hf=>by rw[tX] at hf;rw[aW hf];exact h.2.1 f hf) _ (zbe _);rw[tX] at h1;have h2:=h.1.1.2
 show(edF (wZ s) (wZ s).length).length<=_
 rw[tX];omega
def zVK(s:Sd)(out:List Int)(i k:Nat):Prop:=lsP (gp s.1 i) (gp s.1 (out.getD k 0).toNat)
def aO(s:Sd):Nat->List Int
  |0=>[]
  |i+1=>if zKI (edZ (wZ s)) (edZ (wZ s)).length i then dM (aO s i) (aR (zVK s (aO s i) i) (aO s i).length) (i:Int) else aO s i
theorem zQU(s:Sd):∀i,(aO s i).length<=i
  |0=>zbe _
  |i+1=>by
   have:=zQU s i;unfold aO
   split
   · rw[zHE _ _ (zFE _ _)];omega
   · omega
theorem zK7{s:Sd}{x:Int}:∀{i},x∈aO s i->0<=x/\x<i
  |0,h=>absurd h zgu
  |i+1,h=>by
   unfold aO at h
   split at h
   · unfold dM at h
     rcases zli.1 h with h|h
     · have:=zK7 (z2e h);omega
     · rcases zfu.1 h with rfl|h
       · omega
       · have:=zK7 (z6e h);omega
   · have:=zK7 h;omega
theorem oV{s:Sd}{i k:Nat}(h:k<(aO s i).length):0<=(aO s i).getD k 0/\(aO s i).getD k 0<i:=zK7 (kR h)
def nwL(s:Sd)(ix:List Int)(f i:Nat):Nat->List Int:=wO λq=>ix.getD (((s.2.1.getD f zA).2.1.getD i []).getD q 0).toNat 0
def nfL(s:Sd)(ix:List Int)(f i:Nat):List Int:=zU8 (nwL s ix f i ((s.2.1.getD f zA).2.1.getD i []).length)
def zEQ(s:Sd)(f i:Nat):Prop:=0<yX (arZ (gl (fJ s f) i) 0 1)
def ouL(s:Sd)(ix:List Int)(f:Nat):Nat->List (List Int):=cW (zEQ s f) (nfL s ix f)
def yA8(l:List Int)(D:List (List Int))(k:Nat):Prop:=cQ l (D.getD k [])<0
def zAP(s:Sd)(ix:List Int)(f:Nat):Nat->List (List Int)
  |0=>[]
  |i+1=>if zEQ s f i then zAP s ix f i else dM (zAP s ix f i) (aR (yA8 (nfL s ix f i) (zAP s ix f i)) (zAP s ix f i).length) (nfL s ix f i)
theorem zRV(s:Sd)(ix:List Int)(f:Nat):∀i,(zAP s ix f i).length<=i
  |0=>zbe _
  |i+1=>by
   have:=zRV s ix f i;unfold zAP
   split
   · omega
   · rw[zHE _ _ (zFE _ _)];omega
def nfF(s:Sd)(ix:List Int)(f:Nat):Fc:=(scZ (s.2.1.getD f zA).1,ouL s ix f (s.2.1.getD f zA).2.1.length++zAP s ix f (s.2.1.getD f zA).2.1.length,(s.2.1.getD f zA).2.2)
theorem zR3{s:Sd}{f:Nat}(hf:f<s.2.1.length)(h:nmP s f):xR s ↑f=zHW s f (s.2.1.getD f zA).2.1.length:=zau ⟨by omega,h⟩
theorem yLB{s:Sd}{f:Nat}(hf:f<s.2.1.length)(h:nmP s f):(fJ s f).length=(s.2.1.getD f zA).2.1.length:=by
 rw[(zB8 s f).1,zR3 hf h];exact yY _ _
def fX(s:Sd):List Int:=aO s s.1.length
def zIN(s:Sd):Nat->List Int
  |0=>List.replicate s.1.length (0:Int)
  |i+1=>(zIN s i).set ((fX s).getD i 0).toNat (i:Int)
theorem zDK(s:Sd):∀i,(zIN s i).length=s.1.length
  |0=>ydu
  |i+1=>by unfold zIN;rw[lS];exact zDK s i
def ixZ(s:Sd):List Int:=zIN s (fX s).length
def zZV(s:Sd):Nat->List Pt:=wO λi=>gp s.1 ((fX s).getD i 0).toNat
def zRM(x:Fc)(D:List Fc)(k:Nat):Prop:=lsF x (D.getD k zA)
def zAJ(s:Sd):Nat->List Fc
  |0=>[]
  |f+1=>dM (zAJ s f) (aR (zRM (nfF s (ixZ s) f) (zAJ s f)) (zAJ s f).length) (nfF s (ixZ s) f)
theorem zRA(s:Sd):∀f,(zAJ s f).length=f
  |0=>rfl
  |f+1=>by
   unfold zAJ;rw[zHE _ _ (zFE _ _),zRA s f]
def nrP(s:Sd):List Pt:=if kC s then zZV s (fX s).length else[]
def nrF(s:Sd):List Fc:=if kC s then zAJ s s.2.1.length else[]
def nrE(s:Sd):List En:=if kC s then s.2.2 else[]
theorem yIX{s:Sd}(h:kC s):nmA s:=by
 have h1:(szZ s).length=0:=by
  unfold kC yCD at h
  split at h
  · omega
  · omega
 have h2:szZ s=[]:=zof h1;unfold szZ at h2
 split at h2
 · exact absurd h2 zo2
 · intro f hf
   exact zdu λe=>(oQ _).1 h2 f hf (.inr e)
theorem zGU{s:Sd}(h:okS s){ix:List Int}{f:Nat}(hf:f<s.2.1.length):(nfF s ix f).2.1.length<=100:=by
 have h1:=cF (zEQ s f) (nfL s ix f) (s.2.1.getD f zA).2.1.length;have h2:=zRV s ix f (s.2.1.getD f zA).2.1.length;have h3:=(h.2.1 f hf).1
 show List.length (ouL s ix f _++zAP s ix f _)<=_
 rw[lAz];have C:(ouL s ix f (s.2.1.getD f zA).2.1.length).length<=(s.2.1.getD f zA).2.1.length:=h1;omega
theorem yA3{α:Type}{p:α->Prop}{l:List α}{k:Nat}{x:α}(h:∀y,y∈l->p y)(hx:p x):∀y,y∈dM l k x->p y:=by
 intro y hy;unfold dM at hy
 rcases zli.1 hy with hy|hy
 · exact h y (z2e hy)
 · rcases zfu.1 hy with rfl|hy
   · exact hx
   · exact h y (z6e hy)
theorem zZS{s:Sd}(h:okS s):∀f,f<=s.2.1.length->∀x,x∈zAJ s f->x.2.1.length<=100
  |0,_,x,hx=>absurd hx zgu
  |f+1,hf,x,hx=>yA3 (p:=λx:Fc=>x.2.1.length<=100) (zZS h f zot) (zGU h zot) x hx
end Bk
namespace Go.Proofs.YtpkaegemlpaenaaGreat
open Bk Go Tryz
attribute [local irreducible] GL GC GQ W OpV
section
variable{w0:World}{h0:Mem}(hs:MLe h0 (mem w0))
include hs
theorem zIH{vL:Value}{L:(List (List Int))}(rL:tII.Is h0 vL L)(hcd0:L.length<=100000)(hcd1:∀x,x∈L->x.length<=100000):
 Calls prog 99 #[vL] w0 (Ret w0 h0 (λh r=>tII.Is h r L)):=by
 refine cb1 20 vL func99 hs ?_;refine mF ?_;refine xN 22 1 ?_;have aa:=RL.nil (ρ:=rpS rpI) (h:=h0);refine gcL (ι:=Nat×List (List Int)×Value×List Value×Mem) (λ(i,D,C,H,mi)=>(MLe h0 mi/\(RL (rpS rpI) mi H D/\i<=L.length/\D=L.take i),[(0,vL),(3,C),(4,vI ↑i)],[.gs 22 1 C D.length H],mi,L.length-i)) (0,[],(.slice none 0 0),[],h0) ?_ ?_
 · exact⟨mle,aa,by omega,I⟩
 rintro⟨i,D,C,H,mi⟩ ⟨an,J,ba,hD⟩
 refine xD ?_;have bc:=zOW hcd1 i;have az:D.length<=i:=by rw[hD,zei];omega
 refine gc9 (λam=>?_) λam=>?_
 ·
  refine go8 ?_;refine lX (xI [] i underlying51 fQ rL) λav aj=>(lX (xA fQ aj) λau ai=>(zDM 3 1 ?_));have Z:=RL.nil (ρ:=rpI) (h:=mi);refine xP (A:=[]) (zS (ρ:=rpI) (bytes:=8) underlying22 jY I I I I nP I I Z ai bO bO) I I I ?_
  rintro ar ay ⟨ap,rfl,ad⟩
  refine zQ (A:=[]) (ρ:=rpI) ad ?_;intro h1 ak U;refine zH (zJ (ρ:=(rpS rpI)) (m:=1) (xs:=[(([]:List Int)++(L.getD i []))]) (ps':=[(0,_)]) underlying51 jD I I I wK e2z (zD I (y4u (y4i _) [] 0 dC) U zP) zoj nP) I I I ?_
  rintro aq ax ⟨ao,rfl,ac⟩
  refine zQ (A:=[]) (ρ:=(rpS rpI)) ac ?_;intro h2 bb O;refine xP (A:=[]) (zS (ρ:=(rpS rpI)) (bytes:=24) underlying51 jD I I I I nP I I J.up O bO bO) I I I ?_
  rintro ah aw ⟨ae,rfl,ab⟩
  refine go9 ?_;refine gqL ((i+1),(D++[(([]:List Int)++(L.getD i []))]),ah,ae,h2) ?_ ?_
  · exact⟨mle,ab,by omega,by rw[hD,zhe];exact(zI4 [] oM).symm⟩
  omega
 have ei:i=L.length:=by omega
 refine uY ?_;refine wT (A:=[]) (ρ:=(rpS rpI)) J.up ?_;intro h1 ak M;refine zC I I ?_;exact(Rp.Is.cast M (by rw[hD,ei,z6i]))
theorem zJN{k m n j:Nat}{vs:Value}{s:Sq}(rs:(tSd k m n j).Is h0 vs s)(hcd0:s.2.1.length<=100000)(hcd1:∀f,f<s.2.1.length->(s.2.1.getD f zA).2.1.length<=100000/\∀x,x∈(s.2.1.getD f zA).2.1->x.length<=100000):
 Calls prog 136 #[vs] w0 (Ret w0 h0 (λh r=>(rpS tII).Is h r (wZ s))):=by
 refine cb1 23 vs func136 hs ?_;refine go2 ?_;refine nB rs λb1 ao ab=>(pX ?_);refine xN 51 1 ?_;have U:=RL.nil (ρ:=rpS (rpS rpI)) (h:=h0);refine gcL (ι:=Nat×List (List (List Int))×Value×List Value×Mem) (λ(f,D,C,H,mf)=>(MLe h0 mf/\(RL tII mf H D/\f<=s.2.1.length/\D=wO (λf=>(s.2.1.getD f zA).2.1) f),[(1,vP b1 0),(3,C),(4,vI ↑f)],[.gs 51 1 C D.length H,.var b1 39 ao],mf,s.2.1.length-f)) (0,[],(.slice none 0 0),[],h0) ?_ ?_
 · exact⟨mle,U,by omega,I⟩
 rintro⟨f,D,C,H,mf⟩ ⟨ap,J,bd,hD⟩
 refine xD ?_;have bb:D.length=f:=by rw[hD];exact yY _ _
 refine go5 ?_;refine lX (xB gS (y5i (y4e pH)) ab) λv7 r7=>(gc4 (λan=>?_) λan=>?_)
 ·
  refine go7 ?_;refine lX (xB gS (y5i (y4e pH)) ab) λay ak=>(go1 ?_);refine lX (xI zA f underlying36 bQ ak) λax aj=>(lX (xF underlying53 sizeOf51 (y5i (y4e pH)) aj) λaw ai=>(lX (xA cD ai) λav ah=>(cL (ev1 I) call99 (λw hs=>zIH hs ah (by first|omega|exact(hcd1 f oM).1|exact(hcd1 f oM).2) (by first|omega|exact(hcd1 f oM).1|exact(hcd1 f oM).2)) λau h1 am ae=>(zH (zJ (ρ:=tII) (m:=1) (xs:=[(((s.2.1.getD f zA).2).1)]) (ps':=[(0,_)]) underlying165 zRU I I I wK e2z (zD I (y4u (y4i _) [] 0 dC) ae zP) zoj nP) I I I ?_))))
  rintro ar ba ⟨aq,rfl,aa⟩
  refine zQ (A:=[]) (ρ:=tII) aa ?_;intro h2 bc O;refine xP (A:=[]) (zS (ρ:=tII) (bytes:=24) underlying165 zRU I I I I nP I I J.up O bO bO) I I I ?_
  rintro ad az ⟨ac,rfl,Z⟩
  refine go9 ?_;refine gqL ((f+1),(D++[(((s.2.1.getD f zA).2).1)]),ad,ac,h2) ?_ ?_
  · exact⟨mle,Z,by omega,by rw[hD];rfl⟩
  omega
 have ef:f=s.2.1.length:=by omega
 refine uY ?_;refine wT (A:=[]) (ρ:=tII) J.up ?_;intro h1 am M;refine zC I I ?_;exact(Rp.Is.cast M (by rw[hD,ef];rfl))
theorem zJM{k m n j:Nat}{vs:Value}{s:Sq}(rs:(tSd k m n j).Is h0 vs s){f:Int}(hf1:-9223372036854775808<=f)(hf2:f<9223372036854775808)(hcd0:0<=f)(hcd1:f<↑s.2.1.length)(hcd2:(s.2.1.getD f.toNat zA).2.1.length<=100000)(hcd3:∀l,l<(s.2.1.getD f.toNat zA).2.1.length->((s.2.1.getD f.toNat zA).2.1.getD l []).length<=100000):
 Calls prog 158 #[vs,vI f] w0 (Ret w0 h0 (λ_ r=>r=vB (nmP s f.toNat))):=by
 refine cb2 50 vs (vI f) func158 hs ?_;refine go2 ?_;refine nB rs λb2 ac J=>(go6 ?_);refine lX (xB gS (y5i (y4e pH)) J) λv9 r9=>(go1 ?_);refine lX (xI zA f.toNat underlying36 bQ r9) λbm ar=>(lX (xF underlying53 sizeOf51 (y5i (y4e pH)) ar) λbl aq=>(lX (xA cD aq) λH D=>(uQ ?_)));refine gcL (ι:=Nat×Mem) (λ(l,O)=>(MLe h0 O/\(l<=(s.2.1.getD f.toNat zA).2.1.length/\∀u,u<l->nmL s.1.length ((s.2.1.getD f.toNat zA).2.1.getD u [])),[(2,vP b2 0),(5,H),(6,vI ↑l)],[.var b2 39 ac],O,(s.2.1.getD f.toNat zA).2.1.length-l)) (0,h0) ?_ ?_
 · exact⟨mle,by omega,λu h=>by omega⟩
 rintro⟨l,O⟩ ⟨ax,bp,U⟩
 refine xD ?_;refine gc9 (λab=>?_) λab=>?_
 ·
  refine uQ ?_;refine gcL (ι:=Nat×Mem) (λ(i,M)=>(MLe O M/\(i<=((s.2.1.getD f.toNat zA).2.1.getD l []).length/\∀u,u<i->0<=((s.2.1.getD f.toNat zA).2.1.getD l []).getD u 0/\((s.2.1.getD f.toNat zA).2.1.getD l []).getD u 0<↑s.1.length),[(2,vP b2 0),(5,H),(6,vI ↑l),(7,vI ↑i)],[.var b2 39 ac],M,((s.2.1.getD f.toNat zA).2.1.getD l []).length-i)) (0,O) ?_ ?_
  · exact⟨mle,by omega,λu h=>by omega⟩
  rintro⟨i,M⟩ ⟨aw,bq,hi2⟩
  refine xD ?_;have bo:=hcd3 l oM;refine go6 ?_;refine lX (xI [] l underlying51 fQ D) λbk ap=>(lX (xA fQ ap) λbj bn=>(gc4 (λaa=>?_) λaa=>?_))
  ·
   refine go5 ?_;refine zL 21 _ [] (zai 0 21 []) yF nX (wS zou) nX (λr hr=>hr) (go2 ?_);refine wX I (xI [] l underlying51 fQ D) λbi ao=>(wX I (xA fQ ao) λbh an=>(go1 ?_));refine wX I (xI (0:Int) i underlying22 ty3 an) λbg am=>(wX I (xA ty3 am) λbf ak=>?_);obtain⟨rfl,az,av⟩:=jM ak;refine go2 ?_;refine kD ((((((s.2.1.getD f.toNat zA).2).1).getD l []).getD i (0:Int))<(0:Int)) (λC=>?_) (λC=>?_)
   ·
    rw[wA C];refine go30 ?_;refine zC I I ?_;exact(yN (λe=>by have:=e l oM i oM;omega)).symm
   rw[yN C];refine yV I I I (λh' L' hh hR=>xG I) I (yV I I I (λh' L' hh hR=>xG I) I (oX I (xI [] l underlying51 fQ D) λbe aj=>(oX I (xA fQ aj) λbd ai=>(yV I I I (λh' L' hh hR=>xG I) I (oX I (xI (0:Int) i underlying22 ty3 ai) λbc ah=>(oX I (xA ty3 ah) λbb ae=>?_))))));obtain⟨rfl,ay,au⟩:=jM ae;refine go1 ?_;refine oX I (xB qD (y4e pH) J) λba ad=>(yV I I I (λh' L' hh hR=>qO underlying35 I (ad.mono hh)) I (gc4 (λZ=>?_) λZ=>?_))
   ·
    refine pX ?_;refine zC I I ?_;exact(yN (λe=>by have:=e l oM i oM;omega)).symm
   refine go8 ?_;refine gqL ((i+1),M) ?_ ?_
   · exact⟨mle,by omega,vX (Q:=λu=>0<=((s.2.1.getD f.toNat zA).2.1.getD l []).getD u 0/\((s.2.1.getD f.toNat zA).2.1.getD l []).getD u 0<↑s.1.length) hi2 oM⟩
   omega
  refine qK ?_;refine gqL ((l+1),M) ?_ ?_
  · exact⟨mle,by omega,vX (Q:=λu=>nmL s.1.length ((s.2.1.getD f.toNat zA).2.1.getD u [])) U (λu hu=>hi2 u oM)⟩
  omega
 refine qK ?_;refine zC I I ?_;exact(wA (λu hu=>U u oM)).symm
theorem zEE{k m n j:Nat}{vs:Value}{s:Sq}(rs:(tSd k m n j).Is h0 vs s){f:Int}(hf1:-9223372036854775808<=f)(hf2:f<9223372036854775808)(hcd0:s.1.length<=100000)(hcd1:∀f,f<s.2.1.length->(s.2.1.getD f zA).2.1.length<=10000/\∀l,l<(s.2.1.getD f zA).2.1.length->((s.2.1.getD f zA).2.1.getD l []).length<=10000):
 Calls prog 118 #[vs,vI f] w0 (Ret w0 h0 (λh r=>(tLL (k+1)).Is h r (xR s f))):=by
 refine cb2 65 vs (vI f) func118 hs ?_;refine go2 ?_;refine nB rs λb2 an ab=>(go8 ?_);refine gU 7 18 (vB ((f<(0:Int))\/((↑(s.2.1).length:Int)<=f))) ?_ ?_
 ·
  refine zY (f<(0:Int)) (λhg=>?_) (λhg=>?_)
  ·
   refine gT hg I (go7 ?_);refine gqU ?_;exact y3u (vV hg)
  refine gF hg I (go5 ?_);refine lX (xB gS (y5i (y4e pH)) ab) λct cv=>(go6 ?_);refine gqU ?_;exact y3u (vW hg)
 refine qE (ι:=Mem) 6 (λm_=>MLe h0 m_) (λ_=>[(24,vB (((f<(0:Int))\/((↑(s.2.1).length:Int)<=f))\/(¬(nmP s f.toNat)))),(1,vI f),(2,vP b2 0)]) (λ_=>[.var b2 39 an]) (λm_=>m_) ?_ ?_
 ·
  refine zY ((f<(0:Int))\/((↑(s.2.1).length:Int)<=f)) (λhg=>?_) (λhg=>?_)
  ·
   refine gT hg I (go6 ?_);refine zV h0 (MLe.refl _) ⟨?_,I,I,y3e⟩ I I;exact y3u (vV hg)
  refine gF hg I (go1 ?_);refine lX (xB jV pH ab) λcq bt=>(go3 ?_);refine cL (ev2 I I) call158 (λw hs=>zJM hs bt oM oM oM (by first|omega|exact zci (hcd1 f.toNat oM).1 dC|exactλl hl=>zci ((hcd1 f.toNat oM).2 l hl) dC) (by first|omega|exact zci (hcd1 f.toNat oM).1 dC|exactλl hl=>zci ((hcd1 f.toNat oM).2 l hl) dC) (by first|omega|exact zci (hcd1 f.toNat oM).1 dC|exactλl hl=>zci ((hcd1 f.toNat oM).2 l hl) dC)) λbg h1 ac bs=>?_;obtain rfl:bg=vB (nmP s f.toNat):=bs;refine go4 ?_;refine zV h1 ac ⟨?_,I,I,y3e⟩ I I;exact y3u (vW hg)
 intro M ay;refine sN ?_;refine gc2 (λaa=>?_) λaa=>?_
 ·
  refine go7 ?_;refine zC I I ?_;exact(Rp.Is.cast (eO _) (by exact(zae (λe=>aa.elim (λh=>by omega) (λh=>h e.2))).symm))
 have aw:(0<=f/\f<↑s.2.1.length)/\nmP s f.toNat:=by constructor;exact oM;exact zdi (λe=>aa (.inr e))
 have ax:∀l,l<(s.2.1.getD f.toNat zA).2.1.length->∀q,q<((s.2.1.getD f.toNat zA).2.1.getD l []).length->0<=((s.2.1.getD f.toNat zA).2.1.getD l []).getD q 0/\((s.2.1.getD f.toNat zA).2.1.getD l []).getD q 0<↑s.1.length:=λl hl q hq=>aw.2 l hl q hq;have az:=hcd1 f.toNat oM;refine uQ ?_;refine lX (xB gS (y5i (y4e pH)) ab) λcp br=>(go1 ?_);refine lX (xI zA f.toNat underlying36 bQ br) λco bq=>(lX (xF underlying53 sizeOf51 (y5i (y4e pH)) bq) λcn bp=>(lX (xA cD bp) λao av=>(uQ ?_)));refine xN 35 1 ?_;have ak:=RL.nil (ρ:=rpS (tPt (k+1))) (h:=M);refine gcL (ι:=Nat×List (List Tq)×Value×List Value×Mem) (λ(l,D,C,H,ml)=>(MLe M ml/\(RL (tLs (k+1)) ml H D/\l<=(s.2.1.getD f.toNat zA).2.1.length/\D=zHW s f.toNat l),[(2,vP b2 0),(5,C),(6,ao),(7,vI ↑l)],[.gs 35 1 C D.length H,.var b2 39 an],ml,(s.2.1.getD f.toNat zA).2.1.length-l)) (0,[],(.slice none 0 0),[],M) ?_ ?_
 · exact⟨mle,ak,by omega,I⟩
 rintro⟨l,D,C,H,ml⟩ ⟨bx,Z,de,hD⟩
 refine xD ?_;have dd:D.length=l:=by rw[hD];exact yY _ _
 refine gc9 (λbb=>?_) λbb=>?_
 ·
  refine zAQ ?_;refine xN 31 9 ?_;have aj:=RL.nil (ρ:=rpT (rpQ (k+1))) (h:=ml);refine gcL (ι:=Nat×List Tq×Value×List Value×Mem) (λ(q,YY,J,O,mq)=>(MLe ml mq/\(RL (tPt (k+1)) mq O YY/\q<=((s.2.1.getD f.toNat zA).2.1.getD l []).length/\YY=zF7 s.1 ((s.2.1.getD f.toNat zA).2.1.getD l []) q),[(2,vP b2 0),(5,C),(6,ao),(7,vI ↑l),(8,J),(9,vI ↑q)],[.gs 31 9 J YY.length O,.gs 35 1 C D.length H,.var b2 39 an],mq,((s.2.1.getD f.toNat zA).2.1.getD l []).length-q)) (0,[],(.slice none 0 0),[],ml) ?_ ?_
  · exact⟨mle,aj,by omega,I⟩
  rintro⟨q,YY,J,O,mq⟩ ⟨bw,U,db,am⟩
  refine xD ?_;have dc:YY.length=q:=by rw[am];exact yY _ _
  have bu:=az.2 l oM;refine go6 ?_;refine lX (xI [] l underlying51 fQ av) λcm bo=>(lX (xA fQ bo) λcl cu=>(gc4 (λba=>?_) λba=>?_))
  ·
   refine go4 ?_;refine qS (A:=[]) 15 [] (zai 0 12 [(12,.c),(13,.c),(14,.q)]) yF nX (wS zou) nX (go2 ?_);refine wX I (xB qD (y4e pH) ab) λck bn=>(go2 ?_);refine wX I (xI [] l underlying51 fQ av) λcj bm=>(wX I (xA fQ bm) λci bl=>(go1 ?_));refine wX I (xI (0:Int) q underlying22 ty3 bl) λch bk=>(wX I (xA ty3 bk) λcg bj=>?_);obtain⟨rfl,bz,bv⟩:=jM bj;refine aI (F:=λv_=>AtP (tPt k) mq v_ (s.1.getD ((((s.2.1.getD f.toNat zA).2.1.getD l []).getD q 0).toNat) zT)) I (rM zT ((((s.2.1.getD f.toNat zA).2.1.getD l []).getD q 0).toNat) underlying35 zN I I bn (by(have h:=ax l oM q oM;omega)) (by(have h:=ax l oM q oM;omega)) nP) zBW I ?_;intro cf bi;refine wX I (xA zN bi) λce bh=>?_;refine w_c I (jH (λX=>zJ (ρ:=(tPt (k+1))) (m:=1) (xs:=[(s.1.getD ((((s.2.1.getD f.toNat zA).2.1.getD l []).getD q 0).toNat) zT)]) (ps':=[(0,_)]) underlying35 yS I I I (xW (yM oM)) e2z (zD I (y4u (y4i _) zT 0 dC) (bh.le (Le.t (Le.q (l:=k+1) oM))) zP) zok nP) I ?_)
   rintro cd da ⟨cb,rfl,au⟩
   refine w_c I (xT (A:=[]) (ρ:=(tPt (k+1))) au dK ?_);intro h1 ac ai;refine fL (A:=[]) (λX=>zS (ρ:=(tPt (k+1))) (bytes:=168) underlying35 yS I I I I nP I I U.up ai bO bO) I (xQ zoy) ?_
   rintro bf cz ⟨bd,rfl,ar⟩
   refine go9 ?_;refine gqL ((q+1),(YY++[(s.1.getD ((((s.2.1.getD f.toNat zA).2.1.getD l []).getD q 0).toNat) zT)]),bf,bd,h1) ?_ ?_
   · exact⟨mle,ar,by omega,by rw[am];rfl⟩
   omega
  have eq:q=((s.2.1.getD f.toNat zA).2.1.getD l []).length:=by omega
  have bu:=az.2 l oM;refine go8 ?_;refine zQ (A:=[]) (ρ:=(tPt (k+1))) U.up ?_;intro h1 ac ah;refine zH (zJ (ρ:=(tLs (k+1))) (m:=1) (xs:=[YY]) (ps':=[(0,_)]) underlying76 bH I I I wK e2z (zD I (y4u (y4i _) [] 0 dC) ah zP) zoj nP) I I I ?_
  rintro cc cy ⟨ca,rfl,aq⟩
  refine zQ (A:=[]) (ρ:=(tLs (k+1))) aq ?_;intro h2 df ae;refine xP (A:=[]) (zS (ρ:=(tLs (k+1))) (bytes:=24) underlying76 bH I I I I nP I I Z.up ae bO bO) I I I ?_
  rintro be cw ⟨bc,rfl,ap⟩
  refine go9 ?_;refine gqL ((l+1),(D++[YY]),be,bc,h2) ?_ ?_
  · exact⟨mle,ap,by omega,by rw[hD,am,eq];rfl⟩
  omega
 have el:l=(s.2.1.getD f.toNat zA).2.1.length:=by omega
 refine uY ?_;refine wT (A:=[]) (ρ:=(tLs (k+1))) Z.up ?_;intro h1 ac ad;refine zC I I ?_;exact(Rp.Is.cast ad (by rw[hD,el];exact(zau aw).symm))
theorem zER{m n k:Nat}{vpl:Value}{pl:Pq}(rpl:(tPl m n).Is h0 vpl pl){vl:Value}{l:(List Tq)}(rl:(tLs k).Is h0 vl l)(hcd0:k<=100000000)(hcd1:m<=100000000)(hcd2:n<=100000000)(hcd3:l.length<=100000):
 Calls prog 187 #[vpl,vl] w0 (Ret w0 h0 (λh r=>(tLs (k+1)).Is h r (flA pl l l.length))):=by
 refine cb2 23 vpl vl func187 hs ?_;refine go2 ?_;refine nB rpl λb2 an ae=>(pX ?_);refine xN 31 9 ?_;have U:=RL.nil (ρ:=rpT (rpQ (k+1))) (h:=h0);refine gcL (ι:=Nat×List Tq×Value×List Value×Mem) (λ(i,D,C,H,mi)=>(MLe h0 mi/\(RL (tPt (k+1)) mi H D/\i<=l.length/\D=flA pl l i),[(1,vl),(2,vP b2 0),(5,C),(6,vI ↑i)],[.gs 31 9 C D.length H,.var b2 50 an],mi,l.length-i)) (0,[],(.slice none 0 0),[],h0) ?_ ?_
 · exact⟨mle,U,by omega,I⟩
 rintro⟨i,D,C,H,mi⟩ ⟨ao,J,az,hD⟩
 refine xD ?_;have bb:D.length=i:=by rw[hD];exact yY _ _
 refine gc9 (λab=>?_) λab=>?_
 ·
  refine go4 ?_;refine qS (A:=[]) 10 [] (zai 0 6 [(6,.c),(7,.c),(8,.c),(9,.q)]) yF nX zou nX (go1 ?_);refine wX I (xB lE pH ae) λaw ak=>(go2 ?_);refine wX I (xI zT i underlying35 zN rl) λav aj=>(wX I (xA zN aj) λau ai=>?_);refine w_c I (sC (ev2 I I) call112 (λw hs=>zK9 hs ak ai oM oM) λar h1 am ah=>?_);refine w_c I (jH (λX=>zJ (ρ:=(tPt (k+1))) (m:=1) (xs:=[qL pl (l.getD i zT)]) (ps':=[(0,_)]) underlying35 yS I I I (xW (yM oM)) e2z (zD I (y4u (y4i _) zT 0 dC) ah zP) zok nP) I ?_)
  rintro aq ay ⟨ap,rfl,aa⟩
  refine w_c I (xT (A:=[]) (ρ:=(tPt (k+1))) aa dK ?_);intro h2 ba O;refine fL (A:=[]) (λX=>zS (ρ:=(tPt (k+1))) (bytes:=168) underlying35 yS I I I I nP I I J.up O bO bO) I (xQ zoy) ?_
  rintro ad ax ⟨ac,rfl,Z⟩
  refine go9 ?_;refine gqL ((i+1),(D++[qL pl (l.getD i zT)]),ad,ac,h2) ?_ ?_
  · exact⟨mle,Z,by omega,by rw[hD];rfl⟩
  omega
 have ei:i=l.length:=by omega
 refine uY ?_;refine wT (A:=[]) (ρ:=(tPt (k+1))) J.up ?_;intro h1 am M;refine zC I I ?_;exact(Rp.Is.cast M (by rw[hD,ei]))
theorem zBO{m n k:Nat}{vpl:Value}{pl:Pq}(rpl:(tPl m n).Is h0 vpl pl){vL:Value}{L:(List (List Tq))}(rL:(tLL k).Is h0 vL L)(hcd0:k<=100000000)(hcd1:m<=100000000)(hcd2:n<=100000000)(hcd3:L.length<=100000)(hcd4:∀l,l<L.length->(L.getD l []).length<=10000):
 Calls prog 151 #[vpl,vL] w0 (Ret w0 h0 (λh r=>(tLL (k+1)).Is h r (flL pl L L.length))):=by
 refine cb2 23 vpl vL func151 hs ?_;refine go2 ?_;refine nB rpl λb2 an ae=>(pX ?_);refine xN 35 1 ?_;have U:=RL.nil (ρ:=rpS (tPt (k+1))) (h:=h0);refine gcL (ι:=Nat×List (List Tq)×Value×List Value×Mem) (λ(i,D,C,H,mi)=>(MLe h0 mi/\(RL (tLs (k+1)) mi H D/\i<=L.length/\D=flL pl L i),[(1,vL),(2,vP b2 0),(5,C),(6,vI ↑i)],[.gs 35 1 C D.length H,.var b2 50 an],mi,L.length-i)) (0,[],(.slice none 0 0),[],h0) ?_ ?_
 · exact⟨mle,U,by omega,I⟩
 rintro⟨i,D,C,H,mi⟩ ⟨ao,J,az,hD⟩
 refine xD ?_;have bb:D.length=i:=by rw[hD];exact yY _ _
 refine gc9 (λab=>?_) λab=>?_
 ·
  refine go4 ?_;refine qS (A:=[]) 10 [] (zai 0 6 [(6,.c),(7,.c),(8,.c),(9,.q)]) yF nX zou nX (go1 ?_);refine wX I (xB lE pH ae) λaw ak=>(go2 ?_);refine wX I (xI [] i underlying76 qD rL) λav aj=>(wX I (xA qD aj) λau ai=>?_);refine w_c I (sC (ev2 I I) call187 (λw hs=>zER hs ak ai oM oM oM (by first|omega|exact zci (hcd4 i oM) dC)) λar h1 am ah=>?_);refine w_c I (jH (λX=>zJ (ρ:=(tLs (k+1))) (m:=1) (xs:=[flA pl (L.getD i []) (L.getD i []).length]) (ps':=[(0,_)]) underlying76 bH I I I wK e2z (zD I (y4u (y4i _) [] 0 dC) ah zP) zoj nP) I ?_)
  rintro aq ay ⟨ap,rfl,aa⟩
  refine w_c I (xT (A:=[]) (ρ:=(tLs (k+1))) aa dK ?_);intro h2 ba O;refine fL (A:=[]) (λX=>zS (ρ:=(tLs (k+1))) (bytes:=24) underlying76 bH I I I I nP I I J.up O bO bO) I (xQ zoy) ?_
  rintro ad ax ⟨ac,rfl,Z⟩
  refine go9 ?_;refine gqL ((i+1),(D++[flA pl (L.getD i []) (L.getD i []).length]),ad,ac,h2) ?_ ?_
  · exact⟨mle,Z,by omega,by rw[hD];rfl⟩
  omega
 have ei:i=L.length:=by omega
 refine uY ?_;refine wT (A:=[]) (ρ:=(tLs (k+1))) J.up ?_;intro h1 am M;refine zC I I ?_;exact(Rp.Is.cast M (by rw[hD,ei]))
theorem zN3{k m n j:Nat}{vs:Value}{s:Sq}(rs:(tSd k m n j).Is h0 vs s){f:Nat}(hcd0:k<=1000)(hcd1:m<=100000)(hcd2:n<=100000)(hcd3:s.1.length<=100000)(hcd4:∀f,f<s.2.1.length->(s.2.1.getD f zA).2.1.length<=10000/\∀l,l<(s.2.1.getD f zA).2.1.length->((s.2.1.getD f zA).2.1.getD l []).length<=10000)(hcd5:f<s.2.1.length)(hcd6:s.2.1.length<=100000):
 Calls prog 111 #[vs,vI ↑f] w0 (Ret w0 h0 (λh r=>(tLL (k+2)).Is h r (fJ s f))):=by
 have C:=yF0 (s:=s) (f:=↑f) hcd4;refine cb2 15 vs (vI ↑f) func111 hs ?_;refine go2 ?_;refine nB rs λb2 ae H=>(go4 ?_);refine zL 11 _ [] (zai 0 8 [(8,.c),(9,.c),(10,.q)]) yF nX zou nX (λr hr=>hr) (go1 ?_);refine wX I (xB gS (y5i (y4e pH)) H) λv6 r6=>(go1 ?_);refine wX I (xI zA f underlying36 bQ r6) λv8 r8=>(wX I (xF underlying53 sizeOf50 (y4e pH) r8) λv9 r9=>(wX I (xA lE r9) λab O=>(wX I (xB jV pH H) λaa M=>(go1 ?_))));refine w_c I (sC (ev2 I I) call118 (λw hs=>zEE hs M oM oM (by first|omega|exact hcd4) (by first|omega|exact hcd4)) λZ h1 ad J=>?_);refine w_c I (sC (ev2 I I) call151 (λw hs=>zBO hs O.up J oM oM oM (by first|omega|exact C.1|exactλl hl=>C.2 l) (by first|omega|exact C.1|exactλl hl=>C.2 l)) λU h2 ac D=>?_);replace D:=Rp.Is.le D (Le.s (Le.s (Le.t (Le.q (l:=k+2) oM))));refine go4 ?_;refine zC I I ?_;exact D
theorem zAI{kind:Int}(hkind1:-9223372036854775808<=kind)(hkind2:kind<9223372036854775808){face:Int}(hface1:-9223372036854775808<=face)(hface2:face<9223372036854775808){loop:Int}(hloop1:-9223372036854775808<=loop)(hloop2:loop<9223372036854775808){edge:Int}(hedge1:-9223372036854775808<=edge)(hedge2:edge<9223372036854775808):
 Calls prog 179 #[vI kind,vI face,vI loop,vI edge] w0 (Ret w0 h0 (λh r=>tE5.Is h r (dg kind face loop edge))):=by
 refine jT (n:=14) (e:=[(0,vI kind),(1,vI face),(2,vI loop),(3,vI edge)]) (vs:=[vI kind,vI face,vI loop,vI edge]) func179 rfl rfl (bL rfl) hs e4z (go2 ?_);refine nA (ρ:=tE5) (X:=e50) jU (yE wL (yE wL (yE wL (yE wL wL)))) λb8 aa J=>(go8 ?_);refine lX (xV (ρ:=tE5) (wE (ps':=[(0,_),(1,_),(2,_),(3,_),(4,_)]) underlying200 jU I I (zC3 underlying200) e10 I (yE wL (yE wL (yE wL (yE wL wL)))) (zD I (y4e (y4i _)) (xZ oM oM) (zD I (y5i (y4e (y4i _))) (xZ dC dC) (zD I (y5i (y5i (y4e (y4i _)))) (xZ oM oM) (zD I (y5i (y5i (y5i (y4e (y4i _))))) (xZ oM oM) (zD I (y5i (y5i (y5i (y5i (y4i _))))) (xZ oM oM) zP))))))) λZ M=>(yD (A:=[]) (uB sizeOf200 pH J M) λO H=>(go3 ?_));refine vM (gG (t:=8) yM6 mh0 I H) ?_;intro U C D;refine xC (λE S=>yB I C E S) ?_;exact D
theorem zZP{k l:Nat}{vp:Value}{p:Tq}(rp:(tPt k).Is h0 vp p){vq:Value}{q:Tq}(rq:(tPt l).Is h0 vq q)(hcd0:k<=100000000)(hcd1:l<=100000000):
 Calls prog 137 #[vp,vq] w0 (Ret w0 h0 (λ_ r=>r=vB (lsP p q))):=by
 refine cb2 22 vp vq func137 hs ?_;refine go2 ?_;refine nB rp λH ae O=>(nB rq λD ad M=>(uQ ?_));refine gcL (ι:=Nat×Mem) (λ(i,ma)=>(MLe h0 ma/\(i<=3/\∀u,u<i->xU (p.at u) (q.at u)=0),[(2,vP H 0),(3,vP D 0),(5,vI ↑i)],[.var D 31 ad,.var H 31 ae],ma,3-i)) (0,h0) ?_ ?_
 · exact⟨mle,by omega,λu h=>by omega⟩
 rintro⟨i,ma⟩ ⟨ah,ak,hi2⟩
 refine xD ?_;refine gc7 (λac=>?_) λac=>?_
 ·
  refine go5 ?_;refine zL 8 _ [] (zai 0 6 [(6,.c),(7,.q)]) yF nX zou nX (λr hr=>hr) (go1 ?_);refine xY I (λ_ _=>(zX (sz:=3) i underlying31 sizeOf29 I I I oM).cv (show _=vP H ((i*3+0)) from zbi (vP H) oM)) I (wX I (xB yI (Pc.ta pH i oM) O) λaj aa=>(go1 ?_));refine xY I (λ_ _=>(zX (sz:=3) i underlying31 sizeOf29 I I I oM).cv (show _=vP D ((i*3+0)) from zbi (vP D) oM)) I (wX I (xB yI (Pc.ta pH i oM) M) λai Z=>?_);refine w_c I (sC (ev2 I I) call17 (λw hs=>tK hs aa Z oM) λJ h1 am U=>?_);obtain rfl:J=vI (xU (p.at i) (q.at i)):=U;have ab:=jF (p.at i) (q.at i);refine gc9 (λC=>?_) λC=>?_
  ·
   refine pL ?_;refine zC I I ?_;exact kO (yN2 oM hi2 C)
  refine go8 ?_;refine gqL ((i+1),h1) ?_ ?_
  · exact⟨mle,by omega,vX (Q:=λu=>xU (p.at u) (q.at u)=0) hi2 (zdi C)⟩
  omega
 have ei:i=3:=by omega
 refine qK ?_;refine zC I I ?_;exact(yN (yKH λu hu=>hi2 u oM)).symm
theorem zEF{va:Value}{a:(List Int)}(ra:(rpS rpI).Is h0 va a){vb:Value}{b:(List Int)}(rb:(rpS rpI).Is h0 vb b):
 Calls prog 139 #[va,vb] w0 (Ret w0 h0 (λ_ r=>r=vI (cQ a b))):=by
 have be:=yNN ra;have bd:=yNN rb;refine cb2 48 va vb func139 hs ?_;refine uY ?_;refine gcL (ι:=Nat×Mem) (λ(i,U)=>(MLe h0 U/\((i<=a.length/\i<=b.length)/\∀u,u<i->a.getD u 0=b.getD u 0),[(0,va),(1,vb),(5,vI ↑i)],[],U,a.length-i)) (0,h0) ?_ ?_
 · exact⟨mle,by omega,λu h=>by omega⟩
 rintro⟨i,U⟩ ⟨ao,bf,hi2⟩
 refine xD ?_;refine go7 ?_;refine gU 6 15 (vB (((↑i:Int)<(↑(a).length:Int))/\((↑i:Int)<(↑(b).length:Int)))) ?_ ?_
 ·
  refine zY ((↑i:Int)<(↑(a).length:Int)) (λH=>?_) (λH=>?_)
  ·
   refine gT H I (uQ ?_);refine gqU ?_;exact y3u (xL H)
  refine gF H I (go6 ?_);refine gqU ?_;exact y3u (xM H)
 refine gc2 (λO=>?_) λO=>?_
 ·
  refine go5 ?_;refine zL 9 _ [] (zai 0 9 []) yF nX zou nX (λr hr=>hr) (go2 ?_);refine wX I (xI (0:Int) i underlying22 ty3 ra) λbc ai=>(wX I (xA ty3 ai) λbb ah=>?_);obtain⟨rfl,au,an⟩:=jM ah;refine go2 ?_;refine wX I (xI (0:Int) i underlying22 ty3 rb) λba ae=>(wX I (xA ty3 ae) λaz ad=>?_);obtain⟨rfl,ar,am⟩:=jM ad;refine gc3 (λC=>?_) λC=>?_
  ·
   refine go2 ?_;refine zL 9 _ [] (zai 0 9 []) yF nX zou nX (λr hr=>hr) (go2 ?_);refine wX I (xI (0:Int) i underlying22 ty3 ra) λay ac=>(wX I (xA ty3 ac) λax ab=>?_);obtain⟨rfl,aq,ak⟩:=jM ab;refine go2 ?_;refine wX I (xI (0:Int) i underlying22 ty3 rb) λaw aa=>(wX I (xA ty3 aa) λav Z=>?_);obtain⟨rfl,ap,aj⟩:=jM Z;refine gc3 (λD=>?_) λD=>?_
   ·
    refine uY ?_;refine zC I I ?_;refine zbi vI ?_;rw[zT7 hi2 oM oM C,zau D]
   refine pL ?_;refine zC I I ?_;refine zbi vI ?_;rw[zT7 hi2 oM oM C,zae D]
  refine go8 ?_;refine gqL ((i+1),U) ?_ ?_
  · exact⟨mle,by omega,vX (Q:=λu=>a.getD u 0=b.getD u 0) hi2 (zdi C)⟩
  omega
 have ei:i=min a.length b.length:=by omega
 refine mF ?_;refine cnd (λM=>?_) λM=>?_
 ·
  refine go8 ?_;refine zC I I ?_;refine zbi vI ?_;rw[zH1 hi2 ei,zau oM]
 refine zDP (λJ=>?_) λJ=>?_
 ·
  refine go8 ?_;refine zC I I ?_;refine zbi vI ?_;rw[zH1 hi2 ei,zae oM,zau oM]
 refine go9 ?_;refine zC I I ?_;refine zbi vI ?_;rw[zH1 hi2 ei,zae oM,zae oM]
theorem zQ2{vx:Value}{x:(List Int)}(rx:(rpS rpI).Is h0 vx x)(hcd0:x.length<=100000):
 Calls prog 138 #[vx] w0 (Ret w0 h0 (λh r=>(rpS rpI).Is h r (zU8 x))):=by
 refine cb1 29 vx func138 hs ?_;refine mF ?_;refine gcL (ι:=Nat×Mem) (λ(i,D)=>(MLe h0 D/\(i<=x.length),[(0,vx),(3,vI ↑(cX x i)),(4,vI ↑i)],[],D,x.length-i)) (0,h0) ?_ ?_
 · exact⟨mle,oM⟩
 rintro⟨i,D⟩ ⟨am,U⟩
 refine xD ?_;have be:=U;have bd:=yGZ x i;refine gc9 (λai=>?_) λai=>?_
 ·
  refine go5 ?_;refine zL 9 _ [] (zai 0 9 []) yF nX zou nX (λr hr=>hr) (go2 ?_);refine wX I (xI (0:Int) i underlying22 ty3 rx) λba ah=>(wX I (xA ty3 ah) λaz ae=>?_);obtain⟨rfl,ao,ak⟩:=jM ae;refine go2 ?_;refine wX I (xI (0:Int) (cX x i) underlying22 ty3 rx) λay ad=>(wX I (xA ty3 ad) λax ac=>?_);obtain⟨rfl,an,aj⟩:=jM ac;refine gc3 (λC=>?_) λC=>?_
  ·
   refine qK ?_;refine gqL ((i+1),D) ?_ ?_ (he:=⟨I,zbi (λz:Nat=>some (vI ↑z)) (mn_t C),I,y3e⟩)
   · exact⟨mle,oM⟩
   omega
  refine go8 ?_;refine gqL ((i+1),D) ?_ ?_ (he:=⟨I,zbi (λz:Nat=>some (vI ↑z)) (mn_f C),I,y3e⟩)
  · exact⟨mle,oM⟩
  omega
 have ei:i=x.length:=by omega
 refine go6 ?_;refine zL 9 _ [] [(0,.q),(1,.q),(2,.q),(4,.q),(5,.q),(6,.q),(3,.c),(7,.c),(8,.q)] yF nX zou nX (λr hr=>hr) (go2 ?_);refine aI (F:=λZ=>(rpS rpI).Is D Z (x.drop (cX x i))) I (zQK (ρ:=rpI) (cX x i) underlying22 sizeOf3 I I rx.up oM oM) zBW I ?_;intro aw ab;refine go2 ?_;refine aI (F:=λZ=>(rpS rpI).Is D Z (x.take (cX x i))) I (zQL (ρ:=rpI) (cX x i) underlying22 sizeOf3 I I rx.up oM oM) zBW I ?_;intro au aa;refine w_c I (iT 3 1 ?_);have J:=RL.nil (ρ:=rpI) (h:=D);refine fL (A:=[]) (λX=>zS (ρ:=rpI) (bytes:=8) underlying22 jY I I I I nP I I J ab zo6 zo6) I (xQ zoy) ?_
 rintro av bc ⟨aq,rfl,O⟩
 refine w_c I (fL (A:=[]) (λX=>zS (ρ:=rpI) (bytes:=8) underlying22 jY I I I I nP I I O aa zo6 zo6) I (xQ zoy) ?_)
 rintro ar bb ⟨ap,rfl,M⟩
 refine go4 ?_;refine wT (A:=[]) (ρ:=rpI) M ?_;intro h1 bf H;refine zC I I ?_;exact(Rp.Is.cast H (by rw[ei,zhe];rfl))
theorem zLB{m n k l:Nat}{va:Value}{a:(Pq×((List (List Int))×(List Nat)))}(ra:(tFc m n).Is h0 va a){vb:Value}{b:(Pq×((List (List Int))×(List Nat)))}(rb:(tFc k l).Is h0 vb b)(hcd0:a.2.1.length<=100000)(hcd1:b.2.1.length<=100000):
 Calls prog 91 #[va,vb] w0 (Ret w0 h0 (λ_ r=>r=vB (lsF a b))):=by
 refine cb2 53 va vb func91 hs ?_;refine go2 ?_;refine nB ra λb2 av D=>(nB rb λb3 au C=>(go7 ?_));refine lX (xB ty9 (y5i (y5i pH)) D) λv8 r8=>?_;obtain⟨rfl,ar⟩:=kU r8;refine go1 ?_;refine lX (xB ty9 (y5i (y5i pH)) C) λbj ap=>?_;obtain⟨rfl,ab⟩:=kU ap;refine gv (zY7 (pa:=a.2.2) (pb:=b.2.2) ar ab I I) I (gc2 (λJ=>?_) λJ=>?_)
 ·
  refine go3 ?_;refine lX (xB ty9 (y5i (y5i pH)) D) λbi ao=>?_;obtain⟨rfl,aa⟩:=kU ao;refine go1 ?_;refine lX (xB ty9 (y5i (y5i pH)) C) λbh an=>?_;obtain⟨rfl,Z⟩:=kU an;refine gv (zZA (pa:=a.2.2) (pb:=b.2.2) aa Z I I) I (go5 ?_);refine zC I I ?_;exact kO (Iff.of_eq (zae J).symm)
 have M:a.2.2=b.2.2:=zdi J;refine go9 ?_;refine gcL (ι:=Nat×Mem) (λ(i,ma)=>(MLe h0 ma/\((i<=a.2.1.length/\i<=b.2.1.length)/\∀u,u<i->cQ (a.2.1.getD u []) (b.2.1.getD u [])=0),[(2,vP b2 0),(3,vP b3 0),(5,vI ↑i)],[.var b3 53 au,.var b2 53 av],ma,a.2.1.length-i)) (0,h0) ?_ ?_
 · exact⟨mle,by omega,λu h=>by omega⟩
 rintro⟨i,ma⟩ ⟨aw,bo,hi2⟩
 refine xD ?_;refine go5 ?_;refine lX (xB cD (y5i (y4e pH)) D) λbg bn=>(go2 ?_);refine gU 7 28 (vB (((↑i:Int)<(↑(a.2.1).length:Int))/\((↑i:Int)<(↑(b.2.1).length:Int)))) ?_ ?_
 ·
  refine zY ((↑i:Int)<(↑(a.2.1).length:Int)) (λO=>?_) (λO=>?_)
  ·
   refine gT O I (go5 ?_);refine lX (xB cD (y5i (y4e pH)) C) λbf bm=>(go6 ?_);refine gqU ?_;exact y3u (xL O)
  refine gF O I (go7 ?_);refine gqU ?_;exact y3u (xM O)
 refine gc2 (λU=>?_) λU=>?_
 ·
  refine go5 ?_;refine zL 12 _ [] (zai 0 10 [(10,.c),(11,.q)]) yF nX (wS zou) nX (λr hr=>hr) (go1 ?_);refine wX I (xB cD (y5i (y4e pH)) D) λbe am=>(go1 ?_);refine wX I (xI [] i underlying51 fQ am) λbd ak=>(wX I (xA fQ ak) λbc aj=>(go1 ?_));refine wX I (xB cD (y5i (y4e pH)) C) λbb ai=>(go1 ?_);refine wX I (xI [] i underlying51 fQ ai) λba ah=>(wX I (xA fQ ah) λaz ae=>?_);refine w_c I (sC (ev2 I I) call139 (λw hs=>zEF hs aj ae) λac h1 bp ad=>?_);obtain rfl:ac=vI (cQ (a.2.1.getD i []) (b.2.1.getD i [])):=ad;have aq:=zAU (a.2.1.getD i []) (b.2.1.getD i []);refine gc9 (λH=>?_) λH=>?_
  ·
   refine pL ?_;refine zC I I ?_;exact kO ((yE6 hi2 oM oM H).symm.trans (Iff.of_eq (zau M).symm))
  refine go8 ?_;refine gqL ((i+1),h1) ?_ ?_
  · exact⟨mle,by omega,vX (Q:=λu=>cQ (a.2.1.getD u []) (b.2.1.getD u [])=0) hi2 (zdi H)⟩
  omega
 have ei:i=min a.2.1.length b.2.1.length:=by omega
 refine go8 ?_;refine lX (xB cD (y5i (y4e pH)) D) λay bl=>(go2 ?_);refine lX (xB cD (y5i (y4e pH)) C) λax bk=>(go6 ?_);refine zC I I ?_;exact kO (Iff.trans oM ((yAF hi2 ei).symm.trans (Iff.of_eq (zau M).symm)))
theorem zVW{m n:Nat}{vs:Value}{s:Pq}(rs:(tPl m n).Is h0 vs s)(hcd0:m<=10000000)(hcd1:n<=10000000):
 Calls prog 66 #[vs] w0 (Ret w0 h0 (λh r=>(tPl (4*m+10) (m+n+10)).Is h r (scZ s))):=by
 refine cb1 36 vs func66 hs ?_;refine go2 ?_;refine nB rs λb1 bf H=>(nA (ρ:=(tPl 1 1)) (X:=(zT,(0:Rat))) rG (yE (xW (yM dC)) (yM dC)) λb2 be aj=>(go9 ?_));refine gcL (ι:=Nat×Mem) (λ(i,ma)=>(MLe h0 ma/\(i<=3/\∀u,u<i->yX (s.1.at u)=0),[(1,vP b1 0),(2,vP b2 0),(3,vI ↑i)],[.var b2 50 be,.var b1 50 bf],ma,3-i)) (0,h0) ?_ ?_
 · exact⟨mle,by omega,λu h=>by omega⟩
 rintro⟨i,ma⟩ ⟨bh,bz,hi2⟩
 refine xD ?_;refine gc7 (λbc=>?_) λbc=>?_
 ·
  refine go8 ?_;refine gv ((zX (sz:=3) i underlying31 sizeOf29 I I I oM).cv (show _=vP b1 ((i*3+0)) from zbi (vP b1) oM)) I (lX (xB yI (y4e (Pc.ta pH i oM)) H) λbx ba=>(cL (ev1 I) call48 (λw hs=>qI hs ba oM) λak h1 cf az=>?_));obtain rfl:ak=vI (yX (s.1.at i)):=az;have bb:=xK (s.1.at i);refine gc3 (λD=>?_) λD=>?_
  ·
   refine go1 ?_;refine zL 13 _ [(10,(4,29,[.bool false,.slice none 0 0,.slice none 0 0]))] (zai 1 4 [(0,.c),(5,.c),(6,.c),(7,.q),(8,.q),(9,.q),(10,.a),(11,.c),(12,.q)]) yF (kL.cons I I (qQ wD I I) kL.nil) (wS zou) (qR I I gY) (λr hr=>hr) (go2 ?_);refine xY I (λ_ _=>(zX (sz:=3) i underlying31 sizeOf29 I I I oM).cv (show _=vP b1 ((i*3+0)) from zbi (vP b1) oM)) I (wX I (xB yI (y4e (Pc.ta pH i oM)) H) λbv ax=>?_);refine w_c I (sC (vs:=[vI (1)]) ⟨I,y3e⟩ call27 (λw hs=>gJ hs dC dC) λbw h2 ce ay=>?_);refine w_c I (sC (ev1 I) call103 (λw hs=>zQZ hs ax.up oM) λbu h3 cd aw=>?_);refine w_c I (sC (ev2 I I) call81 (λw hs=>zQY hs ay.up aw oM) λbt h4 cc av=>?_);obtain⟨O,rfl,C⟩:=av
   change (rpQ (2+m)).Is h4 O (if(dS (s.1.at i))=0 then 0 else(((1:Int):Int):Rat)/(dS (s.1.at i))) at C
   replace C:=Rp.Is.le C (Le.q (l:=m+2) oM);refine go3 ?_;refine w_a I I (λb4=>?_);have am:(rpQ 1).R h4 [.bool false,.slice none 0 0,.slice none 0 0] (0:Rat):=(yM dC);refine w_c I ?_;have ah:=(Le.q (l:=m+2) oM).R am;refine lG (A:=[]) (uB sizeOf29 pH ah C) (xQ zoy) λbj M=>(go4 ?_);refine zL 9 _ [] [(0,.q),(1,.q),(2,.q),(4,.q),(5,.q),(6,.q),(3,.c),(7,.c),(8,.q),(9,.t)] yF nX zou nX (λr hr=>hr) (wX I (xB yI pH M) λbs au=>(go1 ?_));refine wX I (xB zN (y4e pH) H) λbr ar=>(wX I (xB yI pH M) λbp aq=>(go1 ?_));refine wX I (xB yI (y5i pH) H) λbo ap=>?_;refine w_c I (sC (ev2 I I) call20 (λw hs=>zGN hs au ar oM) λbq h5 cb ac=>?_);replace ac:=Rp.Is.le ac (Le.t (Le.q (l:=4*m+7) oM));refine w_c I (sC (ev2 I I) call53 (λw hs=>jC hs aq.up ap.up oM) λbn h6 ca ab=>?_);replace ab:=Rp.Is.le ab (Le.q (l:=m+n+2) oM);refine wX I (xV (ρ:=(tPl (4*m+7) (m+n+2))) (wE (ps':=[(0,_),(1,_)]) underlying50 rG I I (rJ underlying50) e4z I (yE (xW (yM oM)) (yM oM)) (zD I (y4e (y4i _)) ac.up (zD I (y5i (y4i _)) ab zP)))) λbm ao=>?_;have ae:=(Le.p (Le.t (Le.q (l:=4*m+7) oM)) (Le.q (l:=m+n+2) oM)).R aj;refine yJ (A:=[_]) I (uB sizeOf50 pH ae ao) λbi ai=>(go8 ?_);refine vM (gG (t:=2) lE mh1 I ai) ?_;intro bk ad Z;refine xC (λE S=>yB I ad E S) ?_;exact(Rp.Is.cast (Rp.Is.le Z (Le.p (Le.t (Le.q (l:=4*m+10) oM)) (Le.q (l:=m+n+10) oM))) (by exact yNL oM hi2 D))
  refine go8 ?_;refine gqL ((i+1),h1) ?_ ?_
  · exact⟨mle,by omega,vX (Q:=λu=>yX (s.1.at u)=0) hi2 (zdi D)⟩
  omega
 have ei:i=3:=by omega
 refine go7 ?_;refine lX (xV (ρ:=(tPl 1 1)) (wE (ps':=[]) underlying50 rG I I (rJ underlying50) trivial I (yE (xW (yM dC)) (yM dC)) zP)) λbl an=>(yD (A:=[]) (uB sizeOf50 pH aj an) λbd aa=>(go3 ?_));refine vM (gG (t:=2) lE mh0 I aa) ?_;intro bg J U;refine xC (λE S=>yB I J E S) ?_;exact(Rp.Is.cast (Rp.Is.le U (Le.p (Le.t (Le.q (l:=4*m+10) oM)) (Le.q (l:=m+n+10) oM))) (by exact yJJ λu hu=>hi2 u oM))
theorem zED{vx:Value}{x:(List Int)}(rx:(rpS rpI).Is h0 vx x)(hcd0:x.length<=100000):
 Calls prog 67 #[vx] w0 (Ret w0 h0 (λh r=>(rpS rpI).Is h r (iJ x x.length))):=by
 refine cb1 20 vx func67 hs ?_;refine go20 ?_;refine xN 3 1 ?_;have U:=RL.nil (ρ:=rpI) (h:=h0);refine gcL (ι:=Nat×List Int×Value×List Value×Mem) (λ(i,D,C,H,ma)=>(MLe h0 ma/\(RL rpI ma H D/\i<=x.length/\D=iJ x i),[(0,vx),(3,C),(4,vI (↑x.length-1-↑i))],[.gs 3 1 C D.length H],ma,x.length-i)) (0,[],(.slice none 0 0),[],h0) ?_ ?_ (he:=⟨I,I,zbi (λz=>some (vI z)) oM,y3e⟩)
 · exact⟨mle,U,by omega,I⟩
 rintro⟨i,D,C,H,ma⟩ ⟨ak,J,av,hD⟩
 refine xD ?_;have aw:D.length=i:=by rw[hD];exact yY _ _
 refine gc7 (λai=>?_) λai=>?_
 ·
  refine go8 ?_;refine lX (xI (0:Int) (x.length-1-i) underlying22 ty3 rx) λaq ae=>(lX (xA ty3 ae) λap ad=>?_);obtain⟨rfl,am,aj⟩:=jM ad;refine zH (zJ (ρ:=rpI) (m:=1) (xs:=[(x.getD (x.length-1-i) (0:Int))]) (ps':=[(0,_)]) underlying22 jY I I I wL e2z (zD I (y4u (y4i _) (0:Int) 0 dC) (xZ oM oM) zP) zoj nP) I I I ?_
  rintro ao au ⟨an,rfl,aa⟩
  refine zQ (A:=[]) (ρ:=rpI) aa ?_;intro h1 ah O;refine xP (A:=[]) (zS (ρ:=rpI) (bytes:=8) underlying22 jY I I I I nP I I J.up O bO bO) I I I ?_
  rintro ac ar ⟨ab,rfl,Z⟩
  refine go9 ?_;refine gqL ((i+1),(D++[(x.getD (x.length-1-i) (0:Int))]),ac,ab,h1) ?_ ?_ (he:=⟨I,I,zbi (λz=>some (vI z)) oM,y3e⟩)
  · exact⟨mle,Z,by omega,by rw[hD];rfl⟩
  omega
 have ei:i=x.length:=by omega
 refine uY ?_;refine wT (A:=[]) (ρ:=rpI) J.up ?_;intro h1 ah M;refine zC I I ?_;exact(Rp.Is.cast M (by rw[hD,ei]))
theorem zVX{k m n j:Nat}{vs:Value}{s:Sq}(rs:(tSd k m n j).Is h0 vs s)(hcd0:k<=1000)(hcd1:okS s)(hcd2:nmA s):
 Calls prog 89 #[vs] w0 (Ret w0 h0 (λh r=>(rpS rpI).Is h r (aO s s.1.length))):=by
 have dx:=hcd1.1.1.1;have dw:=hcd1.1.1.2;have be:=tX s;refine cb1 80 vs func89 hs ?_;refine go2 ?_;refine nB rs λb1 ba aj=>(go6 ?_);refine lX (xB qD (y4e pH) aj) λdq dt=>(go1 ?_);refine zH (zJR (ρ:=rpB) (X:=False) (by':=1) s.1.length underlying162 yA5 I I I I zUM I I zo3 zo3 bO bO) I I I ?_
 rintro bs du ⟨bn,rfl,bd⟩
 refine go5 ?_;refine lX (xB jV pH aj) λdp ci=>(cL (ev1 I) call136 (λw hs=>zJN hs ci (by first|omega|exact hcd1.mem) (by first|omega|exact hcd1.mem)) λdn h1 eb ch=>(cL (ev1 I) call135 (λw hs=>zGL hs ch (by first|omega|exactλf hf=>(by rw[be] at hf;rw[aW hf];exact hcd1.2.1 f hf)) (by first|omega|exactλf hf=>(by rw[be] at hf;rw[aW hf];exact hcd1.2.1 f hf))) λbr h2 ea cg=>(go6 ?_)));have ec:=yFV hcd1;have hE:∀q,q<(edZ (wZ s)).length->0<=((edZ (wZ s)).getD q e50).1/\((edZ (wZ s)).getD q e50).1<↑s.1.length:=λq hq=>zWQ hcd2 hq;refine go4 ?_;refine gcL (ι:=Nat×List Prop×Value×List Value×Mem) (λ(i,U,C,O,ma)=>(MLe h2 ma/\(RL rpB ma O U/\(i<=(edZ (wZ s)).length/\U.length=s.1.length)/\∀u,u<s.1.length->(U.getD u False↔zKI (edZ (wZ s)) i u)),[(1,vP b1 0),(3,C),(4,br),(5,vI ↑i)],[.gs 4 1 C U.length O,.var b1 39 ba],ma,(edZ (wZ s)).length-i)) (0,(List.replicate s.1.length False),bs,bn,h2) ?_ ?_
 · exact⟨mle,bd.up,⟨by omega,ydu⟩,λu h=>by rw[zU9 h];exact⟨False.elim,λ⟨q,h,_⟩=>by omega⟩⟩
 rintro⟨i,U,C,O,ma⟩ ⟨cw,ak,⟨dy,bj⟩,bi⟩
 refine xD ?_;refine gc9 (λbh=>?_) λbh=>?_
 ·
  refine go8 ?_;refine lX (xI e50 i underlying163 j5 cg) λdm cf=>(lX (xF underlying168 sizeOf3 (y4e pH) cf) λdl ce=>(lX (xA ty3 ce) λdk cd=>?_));obtain⟨rfl,cz,cq⟩:=jM cd;refine gv ((yK (((edZ (wZ s)).getD i e50).1.toNat) mh0 underlying162 sizeOf4 I I (by(have:=hE i oM;omega)) (by(have:=hE i oM;omega)) nP).cv (show _=zG 1 C ((((edZ (wZ s)).getD i e50).1.toNat*1+0)) from zbi (zG 1 C) zo3)) I (fZ (A:=[]) (F:=λc_=>RL rpB ma c_ (U.set (((edZ (wZ s)).getD i e50).1.toNat) True)) (rW sizeOf4 (y4u (y4i _) False (((edZ (wZ s)).getD i e50).1.toNat) (by(have:=hE i oM;omega))) I nP I I ak (yN4) I) ?_);intro bk bc;refine go8 ?_;refine gqL ((i+1),(U.set (((edZ (wZ s)).getD i e50).1.toNat) True),C,bk,ma) ?_ ?_
  · exact⟨mle,bc,⟨by omega,by rw[lS];exact bj⟩,zXE bj bi (hE i oM).1 (hE i oM).2⟩
  omega
 have av:∀u,u<s.1.length->(U.getD u False↔zKI (edZ (wZ s)) (edZ (wZ s)).length u):=λu hu=>by rw[show(edZ (wZ s)).length=i by omega];exact bi u hu
 refine mF ?_;refine xN 3 1 ?_;have bb:=RL.nil (ρ:=rpI) (h:=ma);refine gcL (ι:=Nat×List Int×Value×List Value×Mem) (λ(i,D,H,M,mb)=>(MLe ma mb/\(RL rpI mb M D/\i<=s.1.length/\D=aO s i),[(1,vP b1 0),(3,C),(6,H),(7,vI ↑i)],[.gs 3 1 H D.length M,.gs 4 1 C U.length O,.var b1 39 ba],mb,s.1.length-i)) (0,[],(.slice none 0 0),[],ma) ?_ ?_
 · exact⟨mle,bb,by omega,I⟩
 rintro⟨i,D,H,M,mb⟩ ⟨cu,J,hi2,hD⟩
 refine xD ?_;have ed:D.length<=i:=by rw[hD];exact zQU s i
 refine go5 ?_;refine lX (xB qD (y4e pH) aj) λdj dr=>(gc4 (λbg=>?_) λbg=>?_)
 ·
  refine go9 ?_;refine gv ((yK i mh1 underlying162 sizeOf4 I I I bO nP).cv (show _=zG 1 C ((i*1+0)) from zbi (zG 1 C) zo3)) I (zIP (F:=λv_=>rpB.Is mb v_ (U.getD i False)) (xE ty4 (y4u (y4i _) False i bO) I nP I ak.up I) (gC mh1) I ?_);intro di cc;obtain rfl:=yJ6 cc;refine gc3 (λae=>?_) λae=>?_
  ·
   refine go9 ?_;refine gqL ((i+1),D,H,M,mb) ?_ ?_
   · exact⟨mle,J,by omega,by rw[hD];exact(zae (λe=>ae ((av i oM).2 e))).symm⟩
   omega
  refine go5 ?_;refine gv (kF mh0 underlying22 I) I (go5 ?_);refine gcL (ι:=Nat×Mem) (λ(kp,mk)=>(MLe mb mk/\(kp<=D.length/\aR (zVK s D i) D.length=aR (zVK s D i) kp),[(1,vP b1 0),(3,C),(6,H),(7,vI ↑i),(8,vI ↑kp)],[.gs 3 1 H D.length M,.gs 4 1 C U.length O,.var b1 39 ba],mk,kp)) (D.length,mb) ?_ ?_ (he:=e5z)
  · exact⟨mle,by omega,I⟩
  rintro⟨kp,mk⟩ ⟨ct,dv,ax⟩
  refine xD ?_;refine go2 ?_;refine zL 19 _ [] (zai 0 17 [(17,.c),(18,.q)]) yF nX (wS zou) nX (λr hr=>hr) (go3 ?_);refine kD ((0:Int)<(↑kp:Int)) (λac=>?_) (λac=>?_)
  ·
   rw[wA ac];refine go1 ?_;refine oX I (xB qD (y4e pH) aj) λdh cb=>(yV I I I (λh' L' hh hR=>xG I) I (oX I (xI zT i underlying35 zN cb) λdf ca=>(oX I (xA zN ca) λde bz=>(go1 ?_))));refine oX I (xB qD (y4e pH) aj) λdd bx=>(yV I I I (λh' L' hh hR=>xG I) I (yV I I I (λh' L' hh hR=>xG I) I (go1 ?_)));refine yV I I I (λh' L' hh hR=>(yK (kp-1) (hR _ mh0) underlying22 sizeOf3 I I oM oM nP).cv (show _=zG 1 H (((kp-1)*1+0)) from zbi (zG 1 H) zo3)) I (nH (F:=λv_=>rpI.Is mk v_ (D.getD (kp-1) (0:Int))) I I I (xE ty3 (y4u (y4i _) (0:Int) (kp-1) oM) I nP I J.up I) (gC mh0) I ?_);intro dc bw;obtain⟨rfl,cy,cp⟩:=jM bw;refine nH (F:=λv_=>AtP (tPt k) mk v_ (s.1.getD ((D.getD (kp-1) 0).toNat) zT)) I I I (rM zT ((D.getD (kp-1) 0).toNat) underlying35 zN I I bx (by(have:=oV (s:=s) (i:=i) (k:=kp-1) (by rw[<-hD];omega);rw[<-hD] at this;omega)) (by(have:=oV (s:=s) (i:=i) (k:=kp-1) (by rw[<-hD];omega);rw[<-hD] at this;omega)) nP) zBW I ?_;intro db bv;refine oX I (xA zN bv) λda bu=>?_;refine w_c I (zCW I I (sC (ev2 I I) call137 (λw hs=>zZP hs bz bu oM oM) λbq h3 bf bt=>?_));obtain rfl:bq=vB (lsP (s.1.getD i zT) (s.1.getD ((D.getD (kp-1) 0).toNat) zT)):=bt;refine gc3 (λad=>?_) λad=>?_
   ·
    refine go9 ?_;refine gqL ((kp-1),h3) ?_ ?_ (he:=⟨I,I,I,I,zbi (λz=>some (vI z)) oM,y3e⟩)
    · exact⟨mle,by omega,by rw[ax];exact zR5 oM ad⟩
    omega
   refine go8 ?_;refine zH (zJ (ρ:=rpI) (m:=1) (xs:=[(0:Int)]) (ps':=[(0,_)]) underlying22 jY I I I wL e2z (zD I (y4u (y4i _) (0:Int) 0 dC) (xZ dC dC) zP) zoj nP) I I I ?_
   rintro bp cl ⟨bm,rfl,ai⟩
   refine zQ (A:=[]) (ρ:=rpI) ai ?_;intro h4 dz ao;refine xP (A:=[]) (zS (ρ:=rpI) (bytes:=8) underlying22 jY I I I I nP I I J.up ao bO bO) I I I ?_
   rintro Z ck ⟨bl,rfl,ah⟩
   refine go4 ?_;refine lQ (A:=[]) (by rw[lAz];exact yvi _) (λob co aa ab=>?_);refine qS (A:=[]) 8 [] (zai 0 7 [(7,.c)]) yF nX zou nX (go3 ?_);refine xY I (λ_ _=>jL (kp+1) underlying22 sizeOf3 I I ⟨_,_,aa,ab⟩ oM zo1) I (go2 ?_);refine xY I (λ_ _=>jL kp underlying22 sizeOf3 I I ⟨_,_,aa,ab⟩ oM zo1) I ?_;refine w_c I (fL (A:=[]) (λX=>mP (ρ:=rpI) kp aa ab underlying22 sizeOf3 I I zo1 ah) I (xQ zoy) ?_)
   rintro bo cj ⟨cn,rfl,au⟩
   refine go6 ?_;refine gv ((yK kp mh0 underlying22 sizeOf3 I I oM (by rw[fR zo1];simp only[lAz,lC,lN];omega) nP).cv (show _=zG 1 Z ((kp*1+0)) from zbi (zG 1 Z) zo3)) I (fZ (A:=[]) (F:=λc_=>RL rpI h4 c_ ((sJ (D++[(0:Int)]) kp).set kp (↑i:Int))) (rW sizeOf3 (y4u (y4i _) (0:Int) kp (by rw[fR zo1];simp only[lAz,lC,lN];omega)) I nP I I au (xZ oM oM) I) ?_);intro az ar;refine go8 ?_;refine gqL ((i+1),((sJ (D++[(0:Int)]) kp).set kp (↑i:Int)),Z,az,h4) ?_ ?_
   · exact⟨mle,ar,by omega,by rw[mM oM];have aw:aR (zVK s D i) D.length=kp:=by{rw[ax];exact zH4 (λe=>by first|omega|exact ad e.2)};rw[<-aw,hD];exact(zau ((av i oM).1 (zdi ae))).symm⟩
   omega
  rw[yN ac];refine sS ?_;refine w_c I (mO I I I I (uY ?_));refine zH (zJ (ρ:=rpI) (m:=1) (xs:=[(0:Int)]) (ps':=[(0,_)]) underlying22 jY I I I wL e2z (zD I (y4u (y4i _) (0:Int) 0 dC) (xZ dC dC) zP) zoj nP) I I I ?_
  rintro bp cl ⟨bm,rfl,ai⟩
  refine zQ (A:=[]) (ρ:=rpI) ai ?_;intro h3 bf an;refine xP (A:=[]) (zS (ρ:=rpI) (bytes:=8) underlying22 jY I I I I nP I I J.up an bO bO) I I I ?_
  rintro Z ck ⟨bl,rfl,ah⟩
  refine go4 ?_;refine lQ (A:=[]) (by rw[lAz];exact yvi _) (λob co aa ab=>?_);refine qS (A:=[]) 8 [] (zai 0 7 [(7,.c)]) yF nX zou nX (go3 ?_);refine xY I (λ_ _=>jL (kp+1) underlying22 sizeOf3 I I ⟨_,_,aa,ab⟩ oM zo1) I (go2 ?_);refine xY I (λ_ _=>jL kp underlying22 sizeOf3 I I ⟨_,_,aa,ab⟩ oM zo1) I ?_;refine w_c I (fL (A:=[]) (λX=>mP (ρ:=rpI) kp aa ab underlying22 sizeOf3 I I zo1 ah) I (xQ zoy) ?_)
  rintro bo cj ⟨cm,rfl,aq⟩
  refine go6 ?_;refine gv ((yK kp mh0 underlying22 sizeOf3 I I oM (by rw[fR zo1];simp only[lAz,lC,lN];omega) nP).cv (show _=zG 1 Z ((kp*1+0)) from zbi (zG 1 Z) zo3)) I (fZ (A:=[]) (F:=λc_=>RL rpI h3 c_ ((sJ (D++[(0:Int)]) kp).set kp (↑i:Int))) (rW sizeOf3 (y4u (y4i _) (0:Int) kp (by rw[fR zo1];simp only[lAz,lC,lN];omega)) I nP I I aq (xZ oM oM) I) ?_);intro ay ap;refine go8 ?_;refine gqL ((i+1),((sJ (D++[(0:Int)]) kp).set kp (↑i:Int)),Z,ay,h3) ?_ ?_
  · exact⟨mle,ap,by omega,by rw[mM oM];have aw:aR (zVK s D i) D.length=kp:=by{rw[ax];exact zH4 (λe=>by first|omega|exact ad e.2)};rw[<-aw,hD];exact(zau ((av i oM).1 (zdi ae))).symm⟩
  omega
 have ei:i=s.1.length:=by omega
 refine uY ?_;refine wT (A:=[]) (ρ:=rpI) J.up ?_;intro h3 bf am;refine zC I I ?_;exact(Rp.Is.cast am (by rw[hD,ei]))
end
end Go.Proofs.YtpkaegemlpaenaaGreat
