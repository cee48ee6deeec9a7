/- Texts that the proof needs, part 4. -/
import Derived.Test.YtpkaegemlpaenaaGreatK3
set_option linter.unusedVariables false
set_option linter.unusedSimpArgs false
namespace Go.Proofs.YtpkaegemlpaenaaGreat
open Bk Go Tryz
set_option maxRecDepth 10000
set_option maxHeartbeats 1000000
attribute [local irreducible] GL GC GQ W OpV
section
variable{w0:World}{h0:Mem}(hs:MLe h0 (mem w0))
include hs
theorem pG{s:Prop}{vn vd:Value}{xs ys:List Nat}(hn:Us .u32 h0 vn xs)(hd:Us .u32 h0 vd ys)(hl:xs.length<=500000000000)(hl':ys.length<=500000000000)(hd0:val ys≠0):
 Calls Tryz.prog 82 #[vB s,vn,vd] w0 (Ret w0 h0 (λh r=>vO h r (mkRat (sg s (val xs)) (val ys)))):=by
 have bd:=uU hn.lt;have bc:=uU hd.lt;refine cb3 55 (vB s) vn vd func82 hs ?_;refine go2 ?_;refine zK (uG (cs:=[vB ((0:Rat).num<0),.slice none 0 0,.slice none 0 0]) wB I (by simp only[zb];rfl)) I I I ?_;intro v6 r6 ap;obtain⟨b6,rfl,rfl⟩:=ap;refine go5 ?_;refine cL (ev1 I) call92 (λw hs=>tH hs hn oM) λv9 h1 aw D=>(go1 ?_);replace hd:=hd.mono aw;refine cL (ev1 I) call92 (λw hs=>tH hs hd oM) λaj h2 av H=>?_;replace D:=D.mono av;refine zKJ (λao=>?_) λao=>?_
 ·
  refine go2 ?_;refine gv (wG (ps':=[]) (vs:=[vB ((0:Rat).num<0),.slice none 0 0,.slice none 0 0]) underlying29 wB I (qB underlying29) trivial (by simp only[zb];exact jQ)) I (wN (A:=[]) (r':=.var b6 29 [vB ((0:Rat).num<0),.slice none 0 0,.slice none 0 0]) (zN (k:=0) (cs:=[_,_,_]) (vs:=[_,_,_]) I I I I yH (bL I)) I I I (go4 ?_));refine yW (λE S=>yE I (wS (cs:=[_,_,_]) mh0 underlying29 I yH I) E S) ?_;have e:val xs=0:=Classical.byContradiction λe=>by have:=yQ.2 e;omega
  rw[e,zAV];exact vO.zero _
 have ae:val xs≠0:=yQ.1 oM;have be:Nat.gcd (val xs) (val ys)≠0:=Nat.ne_of_gt (Nat.gcd_pos_of_pos_left _ oM);refine go6 ?_;refine cL (ev2 I I) call126 (λw hs=>yBF hs D H oM oM) λaz h3 ab O=>?_;have au:=y3 ((val (xs))) ((val (ys)));refine go9 ?_;refine gU 6 27 (vB (((↑(zB (Nat.gcd ((val (xs))) ((val (ys))))).length:Int)≠(1:Int))\/(((zB (Nat.gcd ((val (xs))) ((val (ys))))).getD (0) 0)≠(1:Nat)))) ?_ ?_
 ·
  refine zW ((↑(zB (Nat.gcd ((val (xs))) ((val (ys))))).length:Int)≠(1:Int)) (λU=>?_) (λU=>?_)
  ·
   refine gT U I (go6 ?_);refine gqU ?_;exact congrArg some (vS U)
  refine gF U I (go3 ?_);refine gv (zU (q:=0) (0) underlying27 sizeOf124 I I O I oM) I (go3 ?_);refine gv (tI (k:=.u32) (q:=1) I I) I (go2 ?_);refine gqU ?_;exact congrArg some (vT U)
 refine gc2 (λac=>?_) λac=>?_
 ·
  refine go4 ?_;replace D:=D.mono ab;refine cL (ev2 I I) call127 (λw hs=>zJA hs D O oM oM) λay h4 an ai=>?_;obtain⟨ad,bb,rfl,J,ai⟩:=ai;have ar:=yL (Nat.div_le_self ((val (xs))) ((Nat.gcd ((val (xs))) ((val (ys))))));refine uK ?_;replace H:=H.mono (ab.trans an);replace O:=O.mono an;refine cL (ev2 I I) call127 (λw hs=>zJA hs H O oM oM) λax h5 am ah=>?_;obtain⟨ak,ba,rfl,Z,ah⟩:=ah;have aq:=yL (Nat.div_le_self ((val (ys))) ((Nat.gcd ((val (xs))) ((val (ys))))));refine pQ ?_;refine gU 6 50 (vB (((↑(zB (((val (ys)))/((Nat.gcd ((val (xs))) ((val (ys))))))).length:Int)=(1:Int))/\(((zB (((val (ys)))/((Nat.gcd ((val (xs))) ((val (ys))))))).getD (0) 0)=(1:Nat)))) ?_ ?_
  ·
   refine zW ((↑(zB (((val (ys)))/((Nat.gcd ((val (xs))) ((val (ys))))))).length:Int)=(1:Int)) (λU=>?_) (λU=>?_)
   ·
    refine gT U I (go3 ?_);refine gv (zU (q:=0) (0) underlying27 sizeOf124 I I Z I oM) I (go3 ?_);refine gv (fG (k:=.u32) (q:=1) I I) I (go2 ?_);refine gqU ?_;exact congrArg some (xH U)
   refine gF U I (go6 ?_);refine gqU ?_;exact congrArg some (xJ U)
  refine gc2 (λM=>?_) λM=>?_
  ·
   refine go9 ?_;replace J:=J.mono am;refine gv (wG (ps':=[(0,_),(1,_),(2,_)]) (vs:=[vB s,ad,.slice none 0 0]) underlying29 wB I (qB underlying29) e6z (wY (A:=[]) (B:=[_]) (C:=[_,_]) (cs:=[_]) (off:=0) (size:=1) I I I I I (wY (A:=[_]) (B:=[_]) (C:=[_]) (cs:=[_]) (off:=1) (size:=1) I I I I J.cells (wY (A:=[_,_]) (B:=[_]) (C:=[]) (cs:=[_]) (off:=2) (size:=1) I I I I I jQ)))) I (wN (A:=[]) (r':=.var b6 29 [vB s,ad,.slice none 0 0]) (zN (k:=0) (cs:=[_,_,_]) (vs:=[_,_,_]) I I I (ocr I (ocu J (ocr I oc0))) yH (bL I)) I I I (go3 ?_));refine yW (λE S=>yE I (wS (cs:=[_,_,_]) mh0 underlying29 I yH I) E S) ?_;exact vO.fin1 ae hd0 J M
  refine go7 ?_;replace J:=J.mono am;refine gv (wG (ps':=[(0,_),(1,_),(2,_)]) (vs:=[vB s,ad,ak]) underlying29 wB I (qB underlying29) e6z (wY (A:=[]) (B:=[_]) (C:=[_,_]) (cs:=[_]) (off:=0) (size:=1) I I I I I (wY (A:=[_]) (B:=[_]) (C:=[_]) (cs:=[_]) (off:=1) (size:=1) I I I I J.cells (wY (A:=[_,_]) (B:=[_]) (C:=[]) (cs:=[_]) (off:=2) (size:=1) I I I I Z.cells jQ)))) I (wN (A:=[]) (r':=.var b6 29 [vB s,ad,ak]) (zN (k:=0) (cs:=[_,_,_]) (vs:=[_,_,_]) I I I (ocr I (ocu J (ocu Z oc0))) yH (bL I)) I I I (go3 ?_));refine yW (λE S=>yE I (wS (cs:=[_,_,_]) mh0 underlying29 I yH I) E S) ?_;exact vO.fin ae hd0 J Z M
 replace H:=H.mono ab;refine go8 ?_;refine gU 6 50 (vB (((↑(zB (val (ys))).length:Int)=(1:Int))/\(((zB (val (ys))).getD (0) 0)=(1:Nat)))) ?_ ?_
 ·
  refine zW ((↑(zB (val (ys))).length:Int)=(1:Int)) (λU=>?_) (λU=>?_)
  ·
   refine gT U I (go3 ?_);refine gv (zU (q:=0) (0) underlying27 sizeOf124 I I H I oM) I (go3 ?_);refine gv (fG (k:=.u32) (q:=1) I I) I (go2 ?_);refine gqU ?_;exact congrArg some (xH U)
  refine gF U I (go6 ?_);refine gqU ?_;exact congrArg some (xJ U)
 refine gc2 (λM=>?_) λM=>?_
 ·
  refine go9 ?_;replace D:=D.mono ab;refine gv (wG (ps':=[(0,_),(1,_),(2,_)]) (vs:=[vB s,v9,.slice none 0 0]) underlying29 wB I (qB underlying29) e6z (wY (A:=[]) (B:=[_]) (C:=[_,_]) (cs:=[_]) (off:=0) (size:=1) I I I I I (wY (A:=[_]) (B:=[_]) (C:=[_]) (cs:=[_]) (off:=1) (size:=1) I I I I D.cells (wY (A:=[_,_]) (B:=[_]) (C:=[]) (cs:=[_]) (off:=2) (size:=1) I I I I I jQ)))) I (wN (A:=[]) (r':=.var b6 29 [vB s,v9,.slice none 0 0]) (zN (k:=0) (cs:=[_,_,_]) (vs:=[_,_,_]) I I I (ocr I (ocu D (ocr I oc0))) yH (bL I)) I I I (go3 ?_));refine yW (λE S=>yE I (wS (cs:=[_,_,_]) mh0 underlying29 I yH I) E S) ?_;have aa:=zGB ac;exact vO.fin1 ae hd0 (by rw[aa,Nat.div_one];exact D) (by rw[aa,Nat.div_one];exact M)
 refine go7 ?_;replace D:=D.mono ab;refine gv (wG (ps':=[(0,_),(1,_),(2,_)]) (vs:=[vB s,v9,aj]) underlying29 wB I (qB underlying29) e6z (wY (A:=[]) (B:=[_]) (C:=[_,_]) (cs:=[_]) (off:=0) (size:=1) I I I I I (wY (A:=[_]) (B:=[_]) (C:=[_]) (cs:=[_]) (off:=1) (size:=1) I I I I D.cells (wY (A:=[_,_]) (B:=[_]) (C:=[]) (cs:=[_]) (off:=2) (size:=1) I I I I H.cells jQ)))) I (wN (A:=[]) (r':=.var b6 29 [vB s,v9,aj]) (zN (k:=0) (cs:=[_,_,_]) (vs:=[_,_,_]) I I I (ocr I (ocu D (ocu H oc0))) yH (bL I)) I I I (go3 ?_));refine yW (λE S=>yE I (wS (cs:=[_,_,_]) mh0 underlying29 I yH I) E S) ?_;have aa:=zGB ac;exact vO.fin ae hd0 (by rw[aa,Nat.div_one];exact D) (by rw[aa,Nat.div_one];exact H) (by rw[aa,Nat.div_one];exact M)
theorem zBY{n:Int}(hn1:-9223372036854775808<=n)(hn2:n<9223372036854775808):
 Calls Tryz.prog 61 #[vI n] w0 (Ret w0 h0 (λh r=>∃u,r=.tuple #[u,vB (n<0)]/\Us .u32 h u (zB n.natAbs))):=by
 refine cb1 15 (vI n) func61 hs ?_;refine pQ ?_;refine cnd (λC=>?_) λC=>?_
 ·
  refine go4 ?_;refine gv (mJ I oM oM) I (gv (u5 (p:=(-(n+1)).toNat) (k':=.u64) (W:=18446744073709551616) underlying2 underlying125 I I (congrArg some (congrArg vI oM)) oM) I (gv (tW (k:=.u64) (q:=1) (W:=18446744073709551616) I I I I oM) I (cL (ev1 I) call96 (λw hs=>w8 hs oM) λO h1 J H=>(go6 ?_))));refine wL I I I ?_;rw[xT C,show n.natAbs=(-(n+1)).toNat+1 by omega];exact⟨_,I,H⟩
 refine go5 ?_;refine gv (u5 (p:=n.toNat) (k':=.u64) (W:=18446744073709551616) underlying2 underlying125 I I (congrArg some (congrArg vI oM)) oM) I (cL (ev1 I) call96 (λw hs=>w8 hs oM) λM h1 J D=>(go5 ?_));refine wL I I I ?_;rw[yM C,show n.natAbs=n.toNat by omega];exact⟨_,I,D⟩
theorem zSY{n:Int}(hn1:-9223372036854775808<=n)(hn2:n<9223372036854775808){d:Int}(hd1:-9223372036854775808<=d)(hd2:d<9223372036854775808):
 Calls Tryz.prog 54 #[vI n,vI d] w0 (Ret w0 h0 (λh r=>∃u,r=.tuple #[u,vI (if d=0 then 3 else 0)]/\vO h u (uR n d))):=by
 refine cb2 29 (vI n) (vI d) func54 hs ?_;refine go2 ?_;refine zK (uG (cs:=[vB ((0:Rat).num<0),.slice none 0 0,.slice none 0 0]) wB I (by simp only[zb];rfl)) I I I ?_;intro v4 r4 ac;obtain⟨b4,rfl,rfl⟩:=ac;refine zDN (λC=>?_) λC=>?_
 ·
  refine go2 ?_;refine gv (wG (ps':=[]) (vs:=[vB ((0:Rat).num<0),.slice none 0 0,.slice none 0 0]) underlying29 wB I (qB underlying29) trivial (by simp only[zb];exact jQ)) I (wN (A:=[]) (r':=.var b4 29 [vB ((0:Rat).num<0),.slice none 0 0,.slice none 0 0]) (zN (k:=0) (cs:=[_,_,_]) (vs:=[_,_,_]) I I I I yH (bL I)) I I I (go5 ?_));refine yW (λE S=>jN I (wS (cs:=[_,_,_]) mh0 underlying29 I yH I) (tM I) E S) ?_;rw[if_pos C,C,zFZ];exact⟨_,I,vO.zero _⟩
 have aq:d.natAbs≠0:=by omega
 refine go5 ?_;refine cL (ev1 I) call61 (λw hs=>zBY hs oM oM) λak h1 ap ab=>?_;obtain⟨an,rfl,D⟩:=ab;have ae:=gQ (n:=n) oM oM;refine uK ?_;refine cL (ev1 I) call61 (λw hs=>zBY hs oM oM) λaj h2 ah aa=>?_;obtain⟨am,rfl,Z⟩:=aa;have ad:=gQ (n:=d) oM oM;refine qI ?_;refine gv (tV underlying4 I I) I (go2 ?_);replace D:=D.mono ah;refine cL (ev3 I I I) call82 (λw hs=>pG hs D Z oM oM (by first|(simp only[zD];omega)|(simp only[zD];first|exact Rat.den_nz _|exact Nat.mul_ne_zero (Rat.den_nz _) (Rat.den_nz _)|exact Nat.one_ne_zero|assumption)|assumption)) λai h3 ao H=>?_
 try simp only[zD] at H
 obtain⟨O,U,rfl,J,M⟩:=H;refine wN (A:=[]) (r':=.var b4 29 [vB ((mkRat (sg (¬((n<0)↔(d<0))) (((n).natAbs))) (((d).natAbs))).num<0),O,U]) (zN (k:=0) (cs:=[_,_,_]) (vs:=[_,_,_]) I I I (ocr I (ocu J (ocu M oc0))) yH (bL I)) I I I (go4 ?_);refine yW (λE S=>jN I (wS (cs:=[_,_,_]) mh0 underlying29 I yH I) (tM I) E S) ?_;rw[if_neg C,<-zML C];exact⟨_,I,_,_,I,J,M⟩
theorem zV6{n:Int}(hn1:-9223372036854775808<=n)(hn2:n<9223372036854775808):
 Calls Tryz.prog 27 #[vI n] w0 (Ret w0 h0 (λh r=>vO h r (n:Rat))):=by
 refine cb1 13 (vI n) func27 hs ?_;refine go2 ?_;refine zK (uG (cs:=[vB ((0:Rat).num<0),.slice none 0 0,.slice none 0 0]) wB I (by simp only[zb];rfl)) I I I ?_;intro v2 r2 J;obtain⟨Z,rfl,rfl⟩:=J;refine go5 ?_;refine cL (ev1 I) call61 (λw hs=>zBY hs oM oM) λv7 h1 U H=>?_;obtain⟨M,rfl,D⟩:=H;have O:=gQ (n:=n) oM oM;refine qI ?_;refine gv (wG (ps':=[(0,_),(1,_)]) (vs:=[vB (n<0),M,.slice none 0 0]) underlying29 wB I (qB underlying29) e4z (wY (A:=[]) (B:=[_]) (C:=[_,_]) (cs:=[_]) (off:=0) (size:=1) I I I I I (wY (A:=[_]) (B:=[_]) (C:=[_]) (cs:=[_]) (off:=1) (size:=1) I I I I D.cells jQ))) I (wN (A:=[]) (r':=.var Z 29 [vB (n<0),M,.slice none 0 0]) (zN (k:=0) (cs:=[_,_,_]) (vs:=[_,_,_]) I I I (ocr I (ocu D (ocr I oc0))) yH (bL I)) I I I (go3 ?_));refine yW (λE S=>yE I (wS (cs:=[_,_,_]) mh0 underlying29 I yH I) E S) ?_;exact vO.int D
theorem zHR{n:Int}(hn1:-9223372036854775808<=n)(hn2:n<9223372036854775808){d:Int}(hd1:-9223372036854775808<=d)(hd2:d<9223372036854775808):
 Calls Tryz.prog 21 #[vI n,vI d] w0 (Ret w0 h0 (λh r=>vO h r (uR n d))):=by
 refine cb2 14 (vI n) (vI d) func21 hs ?_;refine go2 ?_;refine zK (uG (cs:=[vB ((0:Rat).num<0),.slice none 0 0,.slice none 0 0]) wB I (by simp only[zb];rfl)) I I I ?_;intro v4 r4 U;obtain⟨b4,rfl,rfl⟩:=U;refine go6 ?_;refine cL (ev2 I I) call54 (λw hs=>zSY hs oM oM oM oM) λaa h1 ab M=>?_;obtain⟨_,rfl,H,J,rfl,C,D⟩:=M;have Z:=zD1 (n:=n) (d:=d) oM oM oM oM;refine go3 ?_;refine zK (uG (cs:=[vB ((0:Rat).num<0),.slice none 0 0,.slice none 0 0]) wB I (by simp only[zb];rfl)) I I I ?_;intro v5 r5 O;obtain⟨b5,rfl,rfl⟩:=O;refine wN (A:=[]) (r':=.var b5 29 [vB ((uR n d).num<0),H,J]) (zN (k:=0) (cs:=[_,_,_]) (vs:=[_,_,_]) I I I (ocr I (ocu C (ocu D oc0))) yH (bL I)) I I I (go6 ?_);refine wN (A:=[_]) (r':=.var b4 29 [vB ((uR n d).num<0),H,J]) (zN (k:=0) (cs:=[_,_,_]) (vs:=[_,_,_]) I I I (ocr I (ocu C (ocu D oc0))) yH (bL I)) I I I (go3 ?_);refine yW (λE S=>yE I (wS (cs:=[_,_,_]) mh1 underlying29 I yH I) E S) ?_;exact⟨_,_,I,C,D⟩
theorem zSX{qa:Rat}{vna vda:Value}(hna:Us .u32 h0 vna (zB qa.num.natAbs))(hda:Us .u32 h0 vda (zB (wO qa.den))){qb:Rat}{vnb vdb:Value}(hnb:Us .u32 h0 vnb (zB qb.num.natAbs))(hdb:Us .u32 h0 vdb (zB (wO qb.den)))(hqa:lq qa<=100000000000)(hqb:lq qb<=100000000000):
 Calls Tryz.prog 73 #[.agg #[vB (qa.num<0),vna,vda],.agg #[vB (qb.num<0),vnb,vdb]] w0 (Ret w0 h0 (λ_ r=>r=vB (qa=qb))):=by
 have ae:=vY qa;have ai:=vX qa;have ak:=vV qa;have ad:=vY qb;have ah:=vX qb;have aj:=vV qb;refine cb2 26 (.agg #[vB (qa.num<0),vna,vda]) (.agg #[vB (qb.num<0),vnb,vdb]) func73 hs ?_;refine go2 ?_;refine zK (wT (cs:=[_,_,_]) I I) I I I ?_;intro v2 r2 ac;obtain⟨b2,rfl,rfl⟩:=ac;refine zK (wT (cs:=[_,_,_]) I I) I I I ?_;intro v3 r3 ab;obtain⟨b3,rfl,rfl⟩:=ab;refine go9 ?_;refine gv (lD underlying4 I I) I ?_;refine uY (ι:=Mem) 8 (λJ=>MLe h0 J) (λ_=>[(17,vB (((qa.num<0)↔(qb.num<0))/\((rI (qa.num.natAbs) (qb.num.natAbs))=(0:Int)))),(2,vP b2 0),(3,vP b3 0)]) (λ_=>[.var b3 29 [vB (qb.num<0),vnb,vdb],.var b2 29 [vB (qa.num<0),vna,vda]]) (λJ=>J) ?_ ?_
 ·
  refine zW ((qa.num<0)↔(qb.num<0)) (λH=>?_) (λH=>?_)
  ·
   refine gT H I (go9 ?_);refine cL (ev2 I I) call49 (λw hs=>oE hs hna hnb) λan h1 M Z=>?_;subst Z;refine go4 ?_;refine zS h1 M ⟨?_,I,I,trivial⟩ I I;exact congrArg some (xH H)
  refine gF H I (go8 ?_);refine zS h0 (MLe.refl _) ⟨?_,I,I,trivial⟩ I I;exact congrArg some (xJ H)
 intro D C;refine tZ ?_;refine uY (ι:=Mem) 8 (λJ=>MLe D J) (λ_=>[(25,vB ((((qa.num<0)↔(qb.num<0))/\((rI (qa.num.natAbs) (qb.num.natAbs))=(0:Int)))/\((rI ((wO qa.den)) ((wO qb.den)))=(0:Int))))]) (λ_=>[.var b3 29 [vB (qb.num<0),vnb,vdb],.var b2 29 [vB (qa.num<0),vna,vda]]) (λJ=>J) ?_ ?_
 ·
  refine zW (((qa.num<0)↔(qb.num<0))/\((rI (qa.num.natAbs) (qb.num.natAbs))=(0:Int))) (λH=>?_) (λH=>?_)
  ·
   refine gT H I (go9 ?_);replace hda:=hda.mono C;replace hdb:=hdb.mono C;refine cL (ev2 I I) call49 (λw hs=>oE hs hda hdb) λam h1 M U=>?_;subst U;refine go4 ?_;refine zS h1 M ⟨?_,trivial⟩ I I;exact congrArg some (xH H)
  refine gF H I (go8 ?_);refine zS D (MLe.refl _) ⟨?_,trivial⟩ I I;exact congrArg some (xJ H)
 intro aa O;refine tZ ?_;refine go4 ?_;refine zC I I ?_;exact kD zZG
theorem zBZ{qa:Rat}{vna vda:Value}(hna:Us .u32 h0 vna (zB qa.num.natAbs))(hda:Us .u32 h0 vda (zB (wO qa.den)))(hqa:lq qa<=100000000000):
 Calls Tryz.prog 48 #[.agg #[vB (qa.num<0),vna,vda]] w0 (Ret w0 h0 (λ_ r=>r=vI (yV qa))):=by
 have J:=vY qa;have M:=vX qa;have O:=vV qa;refine cb1 9 (.agg #[vB (qa.num<0),vna,vda]) func48 hs ?_;refine go2 ?_;refine zK (wT (cs:=[_,_,_]) I I) I I I ?_;intro v1 r1 H;obtain⟨U,rfl,rfl⟩:=H;refine zKJ (λD=>?_) λD=>?_
 ·
  refine go7 ?_;refine zC I I ?_;rw[aM (bT D)]
 refine gc9 (λC=>?_) λC=>?_
 ·
  refine go7 ?_;refine zC I I ?_;rw[zAC C]
 refine go8 ?_;refine zC I I ?_;rw[zAB (zFL D) C]
theorem zLL{qa:Rat}{vna vda:Value}(hna:Us .u32 h0 vna (zB qa.num.natAbs))(hda:Us .u32 h0 vda (zB (wO qa.den)))(hqa:lq qa<=100000000000):
 Calls Tryz.prog 87 #[.agg #[vB (qa.num<0),vna,vda]] w0 (Ret w0 h0 (λh r=>vO h r (-qa))):=by
 have J:=vY qa;have M:=vX qa;have O:=vV qa;refine cb1 14 (.agg #[vB (qa.num<0),vna,vda]) func87 hs ?_;refine go2 ?_;refine zK (wT (cs:=[_,_,_]) I I) I I I ?_;intro v1 r1 H;obtain⟨Z,rfl,rfl⟩:=H;refine zK (uG (cs:=[vB ((0:Rat).num<0),.slice none 0 0,.slice none 0 0]) wB I (by simp only[zb];rfl)) I I I ?_;intro v2 r2 D;obtain⟨U,rfl,rfl⟩:=D;refine go7 ?_;refine gU 6 11 (vB ((¬(qa.num<0))/\((0:Int)<(↑(zB qa.num.natAbs).length:Int)))) ?_ ?_
 ·
  refine zW (¬(qa.num<0)) (λC=>?_) (λC=>?_)
  ·
   refine gT C I (uK ?_);refine gqU ?_;exact congrArg some (xH C)
  refine gF C I (go6 ?_);refine gqU ?_;exact congrArg some (xJ C)
 refine go1 ?_;refine wN (A:=[_]) (r':=.var Z 29 [vB ((¬(qa.num<0))/\((0:Int)<(↑(zB qa.num.natAbs).length:Int))),vna,vda]) (zN (k:=0) (cs:=[_,_,_]) (vs:=[_]) I I I I zVP (bL I)) I I I (go5 ?_);refine wN (A:=[]) (r':=.var U 29 [vB ((¬(qa.num<0))/\((0:Int)<(↑(zB qa.num.natAbs).length:Int))),vna,vda]) (zN (k:=0) (cs:=[_,_,_]) (vs:=[_,_,_]) I I I (ocr I (ocu hna (ocu hda oc0))) yH (bL I)) I I I (go3 ?_);refine yW (λE S=>yE I (wS (cs:=[_,_,_]) mh0 underlying29 I yH I) E S) ?_;exact vO.negB hna hda
theorem zV8{qa:Rat}{vna vda:Value}(hna:Us .u32 h0 vna (zB qa.num.natAbs))(hda:Us .u32 h0 vda (zB (wO qa.den)))(hqa:lq qa<=100000000000):
 Calls Tryz.prog 103 #[.agg #[vB (qa.num<0),vna,vda]] w0 (Ret w0 h0 (λh r=>vO h r (iV qa))):=by
 have H:=vY qa;have J:=vX qa;have M:=vV qa;refine cb1 5 (.agg #[vB (qa.num<0),vna,vda]) func103 hs ?_;refine go2 ?_;refine zK (wT (cs:=[_,_,_]) I I) I I I ?_;intro v1 r1 D;obtain⟨U,rfl,rfl⟩:=D;refine zK (uG (cs:=[vB ((0:Rat).num<0),.slice none 0 0,.slice none 0 0]) wB I (by simp only[zb];rfl)) I I I ?_;intro v2 r2 C;obtain⟨O,rfl,rfl⟩:=C;refine go5 ?_;refine wN (A:=[_]) (r':=.var U 29 [.bool false,vna,vda]) (zN (k:=0) (cs:=[_,_,_]) (vs:=[_]) I I I I zVP (bL I)) I I I (go5 ?_);refine wN (A:=[]) (r':=.var O 29 [.bool false,vna,vda]) (zN (k:=0) (cs:=[_,_,_]) (vs:=[_,_,_]) I I I (ocr I (ocu hna (ocu hda oc0))) yH (bL I)) I I I (go3 ?_);refine yW (λE S=>yE I (wS (cs:=[_,_,_]) mh0 underlying29 I yH I) E S) ?_;exact vO.abs hna hda
theorem zEU{qa:Rat}{vna vda:Value}(hna:Us .u32 h0 vna (zB qa.num.natAbs))(hda:Us .u32 h0 vda (zB (wO qa.den))){qb:Rat}{vnb vdb:Value}(hnb:Us .u32 h0 vnb (zB qb.num.natAbs))(hdb:Us .u32 h0 vdb (zB (wO qb.den)))(hqa:lq qa<=100000000000)(hqb:lq qb<=100000000000):
 Calls Tryz.prog 45 #[.agg #[vB (qa.num<0),vna,vda],.agg #[vB (qb.num<0),vnb,vdb]] w0 (Ret w0 h0 (λh r=>vO h r (qa+qb))):=by
 have bz:=vY qa;have cb:=vX qa;have cd:=vV qa;have bx:=vY qb;have ca:=vX qb;have cc:=vV qb;refine cb2 75 (.agg #[vB (qa.num<0),vna,vda]) (.agg #[vB (qb.num<0),vnb,vdb]) func45 hs ?_;refine go2 ?_;refine zK (wT (cs:=[_,_,_]) I I) I I I ?_;intro v2 r2 bp;obtain⟨b2,rfl,rfl⟩:=bp;refine zK (wT (cs:=[_,_,_]) I I) I I I ?_;intro v3 r3 bo;obtain⟨b3,rfl,rfl⟩:=bo;refine zK (uG (cs:=[vB ((0:Rat).num<0),.slice none 0 0,.slice none 0 0]) wB I (by simp only[zb];rfl)) I I I ?_;intro v4 r4 bn;obtain⟨b4,rfl,rfl⟩:=bn;refine zCK (λaz=>?_) λaz=>?_
 ·
  refine go3 ?_;refine wN (A:=[]) (r':=.var b4 29 [vB (qb.num<0),vnb,vdb]) (zN (k:=0) (cs:=[_,_,_]) (vs:=[_,_,_]) I I I (ocr I (ocu hnb (ocu hdb oc0))) yH (bL I)) I I I (go4 ?_);refine yW (λE S=>yE I (wS (cs:=[_,_,_]) mh0 underlying29 I yH I) E S) ?_;rw[bT az,Rat.zero_add];exact⟨_,_,I,hnb,hdb⟩
 refine zCK (λay=>?_) λay=>?_
 ·
  refine go3 ?_;refine wN (A:=[]) (r':=.var b4 29 [vB (qa.num<0),vna,vda]) (zN (k:=0) (cs:=[_,_,_]) (vs:=[_,_,_]) I I I (ocr I (ocu hna (ocu hda oc0))) yH (bL I)) I I I (go4 ?_);refine yW (λE S=>yE I (wS (cs:=[_,_,_]) mh0 underlying29 I yH I) E S) ?_;rw[bT ay,Rat.add_zero];exact⟨_,_,I,hna,hda⟩
 refine go3 ?_;refine zJ 12 _ [] [(0,.q),(1,.q),(2,.q),(5,.q),(6,.q),(7,.q),(3,.c),(4,.c),(8,.c),(9,.c),(10,.q),(11,.q)] yA nX zor nX (λr hr=>hr) (go6 ?_);refine w_c I (sC (ev1 I) call51 (λw hs=>sW hs I hnb hdb) λct h1 ap ax=>?_);rw[uX] at ax;refine w_c I ?_;replace hna:=hna.mono ap;refine sC (ev2 I I) call50 (λw hs=>bD hs hna ax oM oM) λcq h2 ao D=>?_
 try simp only[zD] at D
 have bv:=yP ((qa.num.natAbs)) ((qb.den));refine w_c I ?_;replace hna:=hna.mono ao;replace hda:=hda.mono (ap.trans ao);refine sC (ev1 I) call51 (λw hs=>sW hs I hna hda) λcp h3 aa aw=>?_;rw[uX] at aw;refine w_c I ?_;replace hnb:=hnb.mono ((ap.trans ao).trans aa);refine sC (ev2 I I) call50 (λw hs=>bD hs hnb aw oM oM) λco h4 Z C=>?_
 try simp only[zD] at C
 have bu:=yP ((qb.num.natAbs)) ((qa.den));refine go5 ?_;refine zJ 6 _ [] [(0,.q),(2,.q),(1,.c),(3,.c),(4,.c),(5,.q)] yA nX zor nX (λr hr=>hr) (go2 ?_);refine w_c I ?_;replace hna:=hna.mono (aa.trans Z);replace hda:=hda.mono (aa.trans Z);refine sC (ev1 I) call51 (λw hs=>sW hs I hna hda) λcn h5 U M=>?_;rw[uX] at M;refine w_c I ?_;replace hnb:=hnb.mono (Z.trans U);replace hdb:=hdb.mono ((((ap.trans ao).trans aa).trans Z).trans U);refine sC (ev1 I) call51 (λw hs=>sW hs I hnb hdb) λcm h6 ae av=>?_;rw[uX] at av;refine w_c I ?_;replace M:=M.mono ae;refine sC (ev2 I I) call50 (λw hs=>bD hs M av oM oM) λcl h7 an H=>?_
 try simp only[zD] at H
 have bt:=yP ((qa.den)) ((qb.den));refine uK ?_;refine gv (lD underlying4 I I) I (gc2 (λO=>?_) λO=>?_)
 ·
  refine go1 ?_;refine zJ 7 _ [] [(0,.q),(1,.q),(2,.q),(3,.q),(5,.q),(4,.c),(6,.c),(7,.t)] yA nX zor nX (λr hr=>hr) (go5 ?_);refine w_c I ?_;replace D:=D.mono ((((aa.trans Z).trans U).trans ae).trans an);replace C:=C.mono ((U.trans ae).trans an);refine sC (ev2 I I) call83 (λw hs=>yBG hs D C oM oM) λck h8 J bl=>?_;have bs:=kJ ((((qa.num.natAbs))*((qb.den)))) ((((qb.num.natAbs))*((qa.den))));refine w_c I ?_;replace H:=H.mono J;refine sC (ev3 I I I) call82 (λw hs=>pG hs bl H oM oM (by first|(simp only[zD];omega)|(simp only[zD];first|exact Rat.den_nz _|exact Nat.mul_ne_zero (Rat.den_nz _) (Rat.den_nz _)|exact Nat.one_ne_zero|assumption)|assumption)) λcj h9 am au=>?_
  try simp only[zD] at au
  obtain⟨bc,bf,rfl,ad,aj⟩:=au;refine bA (A:=[]) (q':=.var b4 29 [vB ((mkRat (sg (qa.num<0) (((((((qa.num.natAbs))*((qb.den))))+((((qb.num.natAbs))*((qa.den)))))))) (((((qa.den))*((qb.den)))))).num<0),bc,bf]) I (zN (k:=0) (cs:=[_,_,_]) (vs:=[_,_,_]) I I I (ocr I (ocu ad (ocu aj oc0))) yH (bL I)) I (go4 ?_);refine yW (λE S=>yE I (wS (cs:=[_,_,_]) mh0 underlying29 I yH I) E S) ?_;rw[zZ8 O] at ad aj ⊢;exact⟨_,_,I,ad,aj⟩
 refine go7 ?_;replace D:=D.mono ((((aa.trans Z).trans U).trans ae).trans an);replace C:=C.mono ((U.trans ae).trans an);refine cL (ev2 I I) call49 (λw hs=>oE hs D C) λci h8 J bk=>?_;subst bk;refine gc3 (λak=>?_) λak=>?_
 ·
  refine go4 ?_;replace D:=D.mono J;replace C:=C.mono J;refine cL (ev2 I I) call84 (λw hs=>zQR hs C D oM) λch h9 am bj=>?_;obtain⟨cv,rfl,bh⟩:=bj;have br:=yL (Nat.sub_le ((((qb.num.natAbs))*((qa.den)))) ((((qa.num.natAbs))*((qb.den)))));refine pQ ?_;replace H:=H.mono (J.trans am);refine cL (ev3 I I I) call82 (λw hs=>pG hs bh H oM oM (by first|(simp only[zD];omega)|(simp only[zD];first|exact Rat.den_nz _|exact Nat.mul_ne_zero (Rat.den_nz _) (Rat.den_nz _)|exact Nat.one_ne_zero|assumption)|assumption)) λcg bw bm ar=>?_
  try simp only[zD] at ar
  obtain⟨bb,be,rfl,ac,ai⟩:=ar;refine wN (A:=[]) (r':=.var b4 29 [vB ((mkRat (sg (qb.num<0) (((((((qb.num.natAbs))*((qa.den))))-((((qa.num.natAbs))*((qb.den)))))))) (((((qa.den))*((qb.den)))))).num<0),bb,be]) (zN (k:=0) (cs:=[_,_,_]) (vs:=[_,_,_]) I I I (ocr I (ocu ac (ocu ai oc0))) yH (bL I)) I I I (go4 ?_);refine yW (λE S=>yE I (wS (cs:=[_,_,_]) mh0 underlying29 I yH I) E S) ?_;rw[yJP O (by have:=rH.1 ak;omega)] at ac ai ⊢;exact⟨_,_,I,ac,ai⟩
 refine go6 ?_;replace D:=D.mono J;replace C:=C.mono J;refine cL (ev2 I I) call84 (λw hs=>zQR hs D C oM) λcf h9 am bi=>?_;obtain⟨cu,rfl,bg⟩:=bi;have bq:=yL (Nat.sub_le ((((qa.num.natAbs))*((qb.den)))) ((((qb.num.natAbs))*((qa.den)))));refine pQ ?_;replace H:=H.mono (J.trans am);refine cL (ev3 I I I) call82 (λw hs=>pG hs bg H oM oM (by first|(simp only[zD];omega)|(simp only[zD];first|exact Rat.den_nz _|exact Nat.mul_ne_zero (Rat.den_nz _) (Rat.den_nz _)|exact Nat.one_ne_zero|assumption)|assumption)) λce bw bm aq=>?_
 try simp only[zD] at aq
 obtain⟨ba,bd,rfl,ab,ah⟩:=aq;refine wN (A:=[]) (r':=.var b4 29 [vB ((mkRat (sg (qa.num<0) (((((((qa.num.natAbs))*((qb.den))))-((((qb.num.natAbs))*((qa.den)))))))) (((((qa.den))*((qb.den)))))).num<0),ba,bd]) (zN (k:=0) (cs:=[_,_,_]) (vs:=[_,_,_]) I I I (ocr I (ocu ab (ocu ah oc0))) yH (bL I)) I I I (go3 ?_);refine yW (λE S=>yE I (wS (cs:=[_,_,_]) mh0 underlying29 I yH I) E S) ?_;rw[yJQ O (Nat.le_of_not_lt (λh=>ak (rH.2 h)))] at ab ah ⊢;exact⟨_,_,I,ab,ah⟩
theorem zV3{qa:Rat}{vna vda:Value}(hna:Us .u32 h0 vna (zB qa.num.natAbs))(hda:Us .u32 h0 vda (zB (wO qa.den))){qb:Rat}{vnb vdb:Value}(hnb:Us .u32 h0 vnb (zB qb.num.natAbs))(hdb:Us .u32 h0 vdb (zB (wO qb.den)))(hqa:lq qa<=100000000000)(hqb:lq qb<=100000000000):
 Calls Tryz.prog 55 #[.agg #[vB (qa.num<0),vna,vda],.agg #[vB (qb.num<0),vnb,vdb]] w0 (Ret w0 h0 (λh r=>vO h r (qa-qb))):=by
 have aj:=vY qa;have am:=vX qa;have ao:=vV qa;have ai:=vY qb;have ak:=vX qb;have an:=vV qb;refine cb2 9 (.agg #[vB (qa.num<0),vna,vda]) (.agg #[vB (qb.num<0),vnb,vdb]) func55 hs ?_;refine go2 ?_;refine zK (wT (cs:=[_,_,_]) I I) I I I ?_;intro v2 r2 ab;obtain⟨b2,rfl,rfl⟩:=ab;refine zK (wT (cs:=[_,_,_]) I I) I I I ?_;intro v3 r3 aa;obtain⟨b3,rfl,rfl⟩:=aa;refine zK (uG (cs:=[vB ((0:Rat).num<0),.slice none 0 0,.slice none 0 0]) wB I (by simp only[zb];rfl)) I I I ?_;intro v4 r4 Z;obtain⟨b4,rfl,rfl⟩:=Z;refine go3 ?_;refine zJ 4 _ [] [(0,.q),(1,.q),(2,.c),(3,.c),(4,.t)] yA nX zor nX (λr hr=>hr) (go2 ?_);refine w_c I (sC (ev1 I) call87 (λw hs=>zLL hs hnb hdb oM) λv7 h1 H U=>?_);obtain⟨ap,aq,rfl,ac,ad⟩:=U;have ah:=zPK qb;refine w_c I ?_;replace hna:=hna.mono H;replace hda:=hda.mono H;refine sC (ev2 I I) call45 (λw hs=>zEU hs hna hda ac ad oM oM) λv8 h2 ar O=>?_;obtain⟨J,M,rfl,C,D⟩:=O;have ae:=lH qa (-qb);refine bA (A:=[]) (q':=.var b4 29 [vB ((qa+(-qb)).num<0),J,M]) I (zN (k:=0) (cs:=[_,_,_]) (vs:=[_,_,_]) I I I (ocr I (ocu C (ocu D oc0))) yH (bL I)) I (go3 ?_);refine yW (λE S=>yE I (wS (cs:=[_,_,_]) mh0 underlying29 I yH I) E S) ?_;rw[<-Rat.sub_eq_add_neg] at C D ⊢;exact⟨_,_,I,C,D⟩
theorem zLM{qa:Rat}{vna vda:Value}(hna:Us .u32 h0 vna (zB qa.num.natAbs))(hda:Us .u32 h0 vda (zB (wO qa.den))){qb:Rat}{vnb vdb:Value}(hnb:Us .u32 h0 vnb (zB qb.num.natAbs))(hdb:Us .u32 h0 vdb (zB (wO qb.den)))(hqa:lq qa<=100000000000)(hqb:lq qb<=100000000000):
 Calls Tryz.prog 53 #[.agg #[vB (qa.num<0),vna,vda],.agg #[vB (qb.num<0),vnb,vdb]] w0 (Ret w0 h0 (λh r=>vO h r (qa*qb))):=by
 have ao:=vY qa;have aq:=vX qa;have au:=vV qa;have an:=vY qb;have ap:=vX qb;have ar:=vV qb;refine cb2 21 (.agg #[vB (qa.num<0),vna,vda]) (.agg #[vB (qb.num<0),vnb,vdb]) func53 hs ?_;refine go2 ?_;refine zK (wT (cs:=[_,_,_]) I I) I I I ?_;intro v2 r2 ai;obtain⟨b2,rfl,rfl⟩:=ai;refine zK (wT (cs:=[_,_,_]) I I) I I I ?_;intro v3 r3 ah;obtain⟨b3,rfl,rfl⟩:=ah;refine zK (uG (cs:=[vB ((0:Rat).num<0),.slice none 0 0,.slice none 0 0]) wB I (by simp only[zb];rfl)) I I I ?_;intro v4 r4 ae;obtain⟨b4,rfl,rfl⟩:=ae;refine go3 ?_;refine zJ 16 _ [] [(0,.q),(1,.q),(2,.q),(3,.q),(4,.q),(5,.q),(6,.q),(7,.q),(8,.q),(10,.q),(12,.q),(9,.c),(11,.c),(13,.c),(14,.c),(15,.c),(16,.t)] yA nX zor nX (λr hr=>hr) (go4 ?_);refine wC I (λ_ _=>tV underlying4 I I) I (go6 ?_);refine w_c I (sC (ev2 I I) call50 (λw hs=>bD hs hna hnb oM oM) λaz h1 M D=>?_)
 try simp only[zD] at D
 have ak:=yP ((qa.num.natAbs)) ((qb.num.natAbs));refine w_c I ?_;replace hna:=hna.mono M;replace hda:=hda.mono M;refine sC (ev1 I) call51 (λw hs=>sW hs I hna hda) λay h2 aa C=>?_;rw[uX] at C;refine w_c I ?_;replace hnb:=hnb.mono (M.trans aa);replace hdb:=hdb.mono (M.trans aa);refine sC (ev1 I) call51 (λw hs=>sW hs I hnb hdb) λax h3 ad Z=>?_;rw[uX] at Z;refine w_c I ?_;replace C:=C.mono ad;refine sC (ev2 I I) call50 (λw hs=>bD hs C Z oM oM) λaw h4 am U=>?_
 try simp only[zD] at U
 have aj:=yP ((qa.den)) ((qb.den));refine w_c I ?_;replace D:=D.mono ((aa.trans ad).trans am);refine sC (ev3 I I I) call82 (λw hs=>pG hs D U oM oM (by first|(simp only[zD];omega)|(simp only[zD];first|exact Rat.den_nz _|exact Nat.mul_ne_zero (Rat.den_nz _) (Rat.den_nz _)|exact Nat.one_ne_zero|assumption)|assumption)) λav h5 ba O=>?_
 try simp only[zD] at O
 obtain⟨ab,ac,rfl,H,J⟩:=O;refine bA (A:=[]) (q':=.var b4 29 [vB ((mkRat (sg (¬((qa.num<0)↔(qb.num<0))) (((((qa.num.natAbs))*((qb.num.natAbs)))))) (((((qa.den))*((qb.den)))))).num<0),ab,ac]) I (zN (k:=0) (cs:=[_,_,_]) (vs:=[_,_,_]) I I I (ocr I (ocu H (ocu J oc0))) yH (bL I)) I (go3 ?_);refine yW (λE S=>yE I (wS (cs:=[_,_,_]) mh0 underlying29 I yH I) E S) ?_;rw[zXP] at H J ⊢;exact⟨_,_,I,H,J⟩
theorem zV4{qa:Rat}{vna vda:Value}(hna:Us .u32 h0 vna (zB qa.num.natAbs))(hda:Us .u32 h0 vda (zB (wO qa.den))){qb:Rat}{vnb vdb:Value}(hnb:Us .u32 h0 vnb (zB qb.num.natAbs))(hdb:Us .u32 h0 vdb (zB (wO qb.den)))(hqa:lq qa<=100000000000)(hqb:lq qb<=100000000000):
 Calls Tryz.prog 81 #[.agg #[vB (qa.num<0),vna,vda],.agg #[vB (qb.num<0),vnb,vdb]] w0 (Ret w0 h0 (λh r=>∃u,r=.tuple #[u,vI (if qb=0 then 3 else 0)]/\vO h u (if qb=0 then 0 else qa/qb))):=by
 have ar:=vY qa;have av:=vX qa;have ax:=vV qa;have aq:=vY qb;have au:=vX qb;have aw:=vV qb;refine cb2 27 (.agg #[vB (qa.num<0),vna,vda]) (.agg #[vB (qb.num<0),vnb,vdb]) func81 hs ?_;refine go2 ?_;refine zK (wT (cs:=[_,_,_]) I I) I I I ?_;intro v2 r2 ak;obtain⟨b2,rfl,rfl⟩:=ak;refine zK (wT (cs:=[_,_,_]) I I) I I I ?_;intro v3 r3 aj;obtain⟨b3,rfl,rfl⟩:=aj;refine zK (uG (cs:=[vB ((0:Rat).num<0),.slice none 0 0,.slice none 0 0]) wB I (by simp only[zb];rfl)) I I I ?_;intro v4 r4 ai;obtain⟨b4,rfl,rfl⟩:=ai;refine zKJ (λJ=>?_) λJ=>?_
 ·
  refine go2 ?_;refine gv (wG (ps':=[]) (vs:=[vB ((0:Rat).num<0),.slice none 0 0,.slice none 0 0]) underlying29 wB I (qB underlying29) trivial (by simp only[zb];exact jQ)) I (wN (A:=[]) (r':=.var b4 29 [vB ((0:Rat).num<0),.slice none 0 0,.slice none 0 0]) (zN (k:=0) (cs:=[_,_,_]) (vs:=[_,_,_]) I I I I yH (bL I)) I I I (go5 ?_));refine yW (λE S=>jN I (wS (cs:=[_,_,_]) mh0 underlying29 I yH I) (tM I) E S) ?_;rw[if_pos (bT J),if_pos (bT J)];exact⟨_,I,vO.zero _⟩
 have M:=zFL J;have ap:=zFM.2 M;have be:qa.den*qb.num.natAbs≠0:=Nat.mul_ne_zero qa.den_nz ap;refine go3 ?_;refine zJ 16 _ [] [(0,.q),(1,.q),(2,.q),(3,.q),(4,.q),(5,.q),(6,.q),(7,.q),(10,.q),(12,.q),(13,.q),(8,.c),(9,.c),(11,.c),(14,.c),(15,.c),(16,.t),(17,.t)] yA nX zor nX (λr hr=>hr) (go4 ?_);refine wC I (λ_ _=>tV underlying4 I I) I (go6 ?_);refine w_c I (sC (ev1 I) call51 (λw hs=>sW hs I hnb hdb) λbc h1 ac aa=>?_);rw[uX] at aa;refine w_c I ?_;replace hna:=hna.mono ac;refine sC (ev2 I I) call50 (λw hs=>bD hs hna aa oM oM) λbb h2 ab C=>?_
 try simp only[zD] at C
 have an:=yP ((qa.num.natAbs)) ((qb.den));refine w_c I ?_;replace hna:=hna.mono ab;replace hda:=hda.mono (ac.trans ab);refine sC (ev1 I) call51 (λw hs=>sW hs I hna hda) λba h3 ah Z=>?_;rw[uX] at Z;refine w_c I ?_;replace hnb:=hnb.mono ((ac.trans ab).trans ah);refine sC (ev2 I I) call50 (λw hs=>bD hs Z hnb oM oM) λaz h4 ao U=>?_
 try simp only[zD] at U
 have am:=yP ((qa.den)) ((qb.num.natAbs));refine w_c I ?_;replace C:=C.mono (ah.trans ao);refine sC (ev3 I I I) call82 (λw hs=>pG hs C U oM oM (by first|(simp only[zD];omega)|(simp only[zD];first|exact Rat.den_nz _|exact Nat.mul_ne_zero (Rat.den_nz _) (Rat.den_nz _)|exact Nat.one_ne_zero|assumption)|assumption)) λay h5 bd O=>?_
 try simp only[zD] at O
 obtain⟨ad,ae,rfl,D,H⟩:=O;refine bA (A:=[]) (q':=.var b4 29 [vB ((mkRat (sg (¬((qa.num<0)↔(qb.num<0))) (((((qa.num.natAbs))*((qb.den)))))) (((((qa.den))*((qb.num.natAbs)))))).num<0),ad,ae]) I (zN (k:=0) (cs:=[_,_,_]) (vs:=[_,_,_]) I I I (ocr I (ocu D (ocu H oc0))) yH (bL I)) I (zDQ I (pK (v:=vI (0)) I) I (go3 ?_));refine yW (λE S=>jN I (wS (cs:=[_,_,_]) mh0 underlying29 I yH I) (tM I) E S) ?_;rw[if_neg M,if_neg M];rw[zWJ _ M] at D H ⊢;exact⟨_,I,_,_,I,D,H⟩
theorem zV7{qa:Rat}{vna vda:Value}(hna:Us .u32 h0 vna (zB qa.num.natAbs))(hda:Us .u32 h0 vda (zB (wO qa.den))){qb:Rat}{vnb vdb:Value}(hnb:Us .u32 h0 vnb (zB qb.num.natAbs))(hdb:Us .u32 h0 vdb (zB (wO qb.den)))(hqa:lq qa<=100000000000)(hqb:lq qb<=100000000000):
 Calls Tryz.prog 17 #[.agg #[vB (qa.num<0),vna,vda],.agg #[vB (qb.num<0),vnb,vdb]] w0 (Ret w0 h0 (λ_ r=>r=vI (xS qa qb))):=by
 have av:=vY qa;have ax:=vX qa;have az:=vV qa;have au:=vY qb;have aw:=vX qb;have ay:=vV qb;have bh:-1<=rI (qa.num.natAbs*qb.den) (qb.num.natAbs*qa.den)/\rI (qa.num.natAbs*qb.den) (qb.num.natAbs*qa.den)<=1:=zNJ qa qb;refine cb2 34 (.agg #[vB (qa.num<0),vna,vda]) (.agg #[vB (qb.num<0),vnb,vdb]) func17 hs ?_;refine go2 ?_;refine zK (wT (cs:=[_,_,_]) I I) I I I ?_;intro v2 r2 an;obtain⟨b2,rfl,rfl⟩:=an;refine zK (wT (cs:=[_,_,_]) I I) I I I ?_;intro v3 r3 am;obtain⟨b3,rfl,rfl⟩:=am;refine go5 ?_;refine zJ 6 _ [] [(0,.q),(2,.q),(1,.c),(3,.c),(4,.q),(5,.q)] yA nX zor nX (λr hr=>hr) (go2 ?_);refine w_c I (sC (ev1 I) call48 (λw hs=>zBZ hs hna hda oM) λv9 h1 O ak=>?_);have ar:=xG qa;subst ak;refine w_c I ?_;replace hnb:=hnb.mono O;replace hdb:=hdb.mono O;refine sC (ev1 I) call48 (λw hs=>zBZ hs hnb hdb oM) λbf h2 M ah=>?_;have aj:=xG qb;subst ah;refine zCK (λD=>?_) λD=>?_
 ·
  refine gc8 (λJ=>?_) λJ=>?_
  ·
   refine go8 ?_;refine zC I I ?_;rw[zBH D,if_pos J]
  refine go9 ?_;refine zC I I ?_;rw[zBH D,if_neg J]
 have ad:=zLA D;refine go3 ?_;refine zJ 12 _ [] [(0,.q),(1,.q),(2,.q),(5,.q),(6,.q),(7,.q),(3,.c),(4,.c),(8,.c),(9,.c),(10,.c),(11,.q)] yA nX zor nX (λr hr=>hr) (go6 ?_);refine w_c I ?_;replace hnb:=hnb.mono M;replace hdb:=hdb.mono M;refine sC (ev1 I) call51 (λw hs=>sW hs I hnb hdb) λbe h3 ac aa=>?_;rw[uX] at aa;refine w_c I ?_;replace hna:=hna.mono ((O.trans M).trans ac);refine sC (ev2 I I) call50 (λw hs=>bD hs hna aa oM oM) λbd h4 ab C=>?_
 try simp only[zD] at C
 have ap:=yP ((qa.num.natAbs)) ((qb.den));refine w_c I ?_;replace hna:=hna.mono ab;replace hda:=hda.mono (((O.trans M).trans ac).trans ab);refine sC (ev1 I) call51 (λw hs=>sW hs I hna hda) λbc h5 ai Z=>?_;rw[uX] at Z;refine w_c I ?_;replace hnb:=hnb.mono ((ac.trans ab).trans ai);refine sC (ev2 I I) call50 (λw hs=>bD hs hnb Z oM oM) λbb h6 aq U=>?_
 try simp only[zD] at U
 have ao:=yP ((qb.num.natAbs)) ((qa.den));refine w_c I ?_;replace C:=C.mono (ai.trans aq);refine sC (ev2 I I) call49 (λw hs=>oE hs C U) λba h7 bg ae=>?_;subst ae;refine zDN (λH=>?_) λH=>?_
 ·
  refine go3 ?_;refine gv (mJ I oM oM) I (go5 ?_);refine zC I I ?_;rw[zRW ad H];rfl
 refine go9 ?_;refine zC I I ?_;rw[zNE ad H];rfl
theorem zV5{qa:Rat}{vna vda:Value}(hna:Us .u32 h0 vna (zB qa.num.natAbs))(hda:Us .u32 h0 vda (zB (wO qa.den))){qb:Rat}{vnb vdb:Value}(hnb:Us .u32 h0 vnb (zB qb.num.natAbs))(hdb:Us .u32 h0 vdb (zB (wO qb.den)))(hqa:lq qa<=10000000000)(hqb:lq qb<=10000000000):
 Calls Tryz.prog 203 #[.agg #[vB (qa.num<0),vna,vda],.agg #[vB (qb.num<0),vnb,vdb]] w0 (Ret w0 h0 (λh r=>vO h r (zCB qa qb))):=by
 have ao:=vY qa;have aq:=vX qa;have au:=vV qa;have an:=vY qb;have ap:=vX qb;have ar:=vV qb;refine cb2 10 (.agg #[vB (qa.num<0),vna,vda]) (.agg #[vB (qb.num<0),vnb,vdb]) func203 hs ?_;refine go2 ?_;refine zK (wT (cs:=[_,_,_]) I I) I I I ?_;intro v2 r2 ae;obtain⟨b2,rfl,rfl⟩:=ae;refine zK (wT (cs:=[_,_,_]) I I) I I I ?_;intro v3 r3 ad;obtain⟨b3,rfl,rfl⟩:=ad;refine zK (uG (cs:=[vB ((0:Rat).num<0),.slice none 0 0,.slice none 0 0]) wB I (by simp only[zb];rfl)) I I I ?_;intro v4 r4 ac;obtain⟨b4,rfl,rfl⟩:=ac;refine go6 ?_;refine cL (ev2 I I) call45 (λw hs=>zEU hs hna hda hnb hdb oM oM) λv7 h1 ba ab=>?_;obtain⟨aw,ay,rfl,D,J⟩:=ab;have am:=lH qa qb;refine cL (vs:=[vI (1),vI (2)]) e2z call21 (λw hs=>zHR hs oM oM oM oM) λv8 h2 M aa=>?_;have ak:=zD1 (n:=(1:Int)) (d:=(2:Int)) oM oM oM oM;obtain⟨av,ax,rfl,ah,ai⟩:=aa;replace D:=D.mono M;replace J:=J.mono M;refine cL (ev2 I I) call53 (λw hs=>zLM hs D J ah ai oM oM) λv9 h3 az Z=>?_;obtain⟨O,U,rfl,C,H⟩:=Z;have aj:=iL (qa+qb) (uR (1:Int) (2:Int));refine wN (A:=[]) (r':=.var b4 29 [vB (((qa+qb)*(uR (1:Int) (2:Int))).num<0),O,U]) (zN (k:=0) (cs:=[_,_,_]) (vs:=[_,_,_]) I I I (ocr I (ocu C (ocu H oc0))) yH (bL I)) I I I (go3 ?_);refine yW (λE S=>yE I (wS (cs:=[_,_,_]) mh0 underlying29 I yH I) E S) ?_;rw[zID] at C H ⊢;exact⟨_,_,I,C,H⟩
theorem zSW{qa:Rat}{vna vda:Value}(hna:Us .u32 h0 vna (zB qa.num.natAbs))(hda:Us .u32 h0 vda (zB (wO qa.den)))(hqa:lq qa<=100000000000):
 Calls Tryz.prog 134 #[.agg #[vB (qa.num<0),vna,vda]] w0 (Ret w0 h0 (λ_ r=>r=.string (qJ (qK qa)))):=by
 have ac:=vY qa;have ad:=vX qa;have ae:=vV qa;refine cb1 22 (.agg #[vB (qa.num<0),vna,vda]) func134 hs ?_;refine go2 ?_;refine zK (wT (cs:=[_,_,_]) I I) I I I ?_;intro v1 r1 Z;obtain⟨b1,rfl,rfl⟩:=Z;refine go7 ?_;refine cL (ev1 I) call177 (λw hs=>zEY hs hna oM) λv6 h1 M U=>?_;subst U;have ab:=s4 ((qa.num.natAbs));refine zDN (λH=>?_) λH=>?_
 ·
  refine go2 ?_;refine gv (wW (pa:=([45]:List Nat)) (pb:=(txt ((qa.num.natAbs)))) I I zos) I ?_;replace hda:=hda.mono M;refine zKJ (λC=>?_) λC=>?_
  ·
   refine go4 ?_;refine cL (ev1 I) call177 (λw hs=>zEY hs hda oM) λO h2 aa D=>?_;subst D;have J:=s4 (((wO qa.den)));refine gv (wW (pa:=([47]:List Nat)) (pb:=(txt (((wO qa.den))))) I I zos) I (gv (wW (pa:=(([45]:List Nat)++(txt ((qa.num.natAbs))))) (pb:=(([47]:List Nat)++(txt (((wO qa.den)))))) I I zos) I (uK ?_));refine zC I I ?_;rw[<-yE7 H C]
  refine go9 ?_;refine zC I I ?_;rw[<-yAK H C]
 replace hda:=hda.mono M;refine zCK (λC=>?_) λC=>?_
 ·
  refine go4 ?_;refine cL (ev1 I) call177 (λw hs=>zEY hs hda oM) λO h2 aa D=>?_;subst D;have J:=s4 (((wO qa.den)));refine gv (wW (pa:=([47]:List Nat)) (pb:=(txt (((wO qa.den))))) I I zos) I (gv (wW (pa:=(txt ((qa.num.natAbs)))) (pb:=(([47]:List Nat)++(txt (((wO qa.den)))))) I I zos) I (uK ?_));refine zC I I ?_;rw[<-yAL H C]
 refine go9 ?_;refine zC I I ?_;rw[<-yAM H C]
theorem zXT{n m:Int}(hm:0<m)(hm2:m<4611686018427387904):
 Calls Tryz.prog 44 #[vI n,vI m] w0 (Ret w0 h0 (λ_ r=>r=vI (zG7 n m))):=by
 have D:=zEI n hm;refine cb2 14 (vI n) (vI m) func44 hs ?_;refine go9 ?_;refine gv (zS9 I I oM) I (zDN (λC=>?_) λC=>?_)
 ·
  refine sG ?_;refine zC I I ?_;rw[zG7,if_pos C]
 refine go9 ?_;refine zC I I ?_;rw[zG7,if_neg C]
theorem zPI{vl:Value}{xs:List Int}(hl:Is h0 vl xs):
 Calls Tryz.prog 9 #[vl] w0 (Ret w0 h0 (λ_ r=>r=vB ((↑xs.length:Int)<=500))):=by
 refine cb1 6 vl func9 hs ?_;refine go8 ?_;refine gv (zHX underlying22 I hl) I (go5 ?_);refine zC I I ?_
 rfl
theorem zT0{vl:Value}{xs:List Int}(hl:Is h0 vl xs):
 Calls Tryz.prog 11 #[vl] w0 (tP w0 h0 (λ_ r L=>∃b,r=vP b 0/\L=[.var b 72 [vl,vI ↑0]])):=by
 refine cb1 6 vl func11 hs ?_;refine go8 ?_;refine gv (wG (ps':=[(0,_)]) (vs:=[vl,vI 0]) underlying72 zYK I (zWP underlying72) e2z (wY (A:=[]) (B:=[_]) (C:=[_]) (cs:=[_]) (off:=0) (size:=1) I I I I hl.cells jQ)) I (zK (wT (cs:=[_,_]) I I) I I I ?_);intro H J D;obtain⟨M,rfl,rfl⟩:=D;refine go4 ?_;refine gL I I ?_;exact⟨_,I,I⟩
end
theorem kP{w0 w:World}{h0 h:Mem}{b k:Nat}{vl:Value}{xs:List Int}(hl:Is h vl xs)(hk:k<=xs.length){n:Int}(hn:0<n)(hn2:n<4611686018427387904){L:List Res}(hs:St w0 h0 (.var b 72 [vl,vI ↑k]::L) h w):
 Calls Tryz.prog 13 #[vP b 0,vI n] w (zKW w0 h0 h L (λg r q'=>∃k':Nat,∃z,q'=.var b 72 [vl,vI ↑k']/\k'<=xs.length/\(r=vI z/\0<=z/\z<n))):=by
 have O:=hl.lt63;refine cK (n:=35) (e:=[(0,vP b 0),(1,vI n)]) (vs:=[vP b 0,vI n]) func13 rfl rfl (bL rfl) hs e2z (go7 ?_);refine zJ 10 _ [] [(0,.q),(1,.q),(2,.q),(3,.q),(4,.q),(5,.q),(6,.q),(7,.q),(8,.q),(9,.q)] yA nX zor nX (λr J=>J) (go1 ?_);refine wC I (λ_ _=>gH I) I (go3 ?_);refine wC I (λ_ _=>gH I) I (go2 ?_);refine w_q I (λh' L' hh hR=>zHX underlying22 I (hl.mono hh)) I (gc3 (λH=>?_) λH=>?_)
 ·
  refine go7 ?_;refine gL I I ?_;exact⟨_,(List.Sublist.refl _),(MLe.refl _),k,0,I,hk,I,by omega,hn⟩
 refine go5 ?_;refine gv (gH I) I (go3 ?_);refine gv (gH I) I (go1 ?_);refine wN (A:=[]) (r':=.var b 72 [vl,vI ((↑k:Int)+(1:Int))]) (zN (k:=1) (cs:=[_,_]) (vs:=[_]) I I I I yDN (bL I)) I I I (go3 ?_);refine zJ 14 _ [] [(0,.q),(1,.q),(2,.q),(3,.q),(4,.q),(5,.q),(6,.q),(7,.q),(8,.q),(9,.q),(10,.q),(11,.q),(12,.c),(13,.q)] yA nX zor nX (λr J=>J) (go1 ?_);refine wC I (λ_ _=>gH I) I (go3 ?_);refine wC I (λ_ _=>gH I) I (go3 ?_);refine w_q I (λh' L' hh hR=>zLV (k) underlying22 sizeOf3 I I (hl.mono hh) oM oM) I (w_q I (λh' L' hh hR=>zON isAgg3 I (hl.mono hh) oM) I (go1 ?_));refine w_c I (sC (ev2 I I) call44 (λw hs=>zXT hs oM oM) λU h1 M D=>?_);have C:=zPC ((xs).getD (k) 0) (q:=n) oM;subst D;refine go4 ?_;refine gL I I ?_;exact⟨_,(List.Sublist.refl _),M,k+1,_,I,by omega,I,C.1,C.2⟩
section
variable{w0:World}{h0:Mem}(hs:MLe h0 (mem w0))
include hs
theorem aP{k l:Nat}{va:Value}{a:Rat}(ra:(rpQ k).Is h0 va a){vb:Value}{b:Rat}(rb:(rpQ l).Is h0 vb b)(hcd0:k+l<=10000000000):
 Calls Tryz.prog 160 #[va,vb] w0 (Ret w0 h0 (λh r=>(rpQ (k+l+1)).Is h r (a+b))):=by
 obtain⟨O,Z,rfl,D,J,ab⟩:=qM ra;obtain⟨M,U,rfl,C,H,aa⟩:=qM rb;exact(yBM hs D J C H oM oM).mono (gG λh r x=>zA3 x (by have:=lH a b;omega))
theorem fJ{k l:Nat}{va:Value}{a:Rat}(ra:(rpQ k).Is h0 va a){vb:Value}{b:Rat}(rb:(rpQ l).Is h0 vb b)(hcd0:k+l<=10000000000):
 Calls Tryz.prog 121 #[va,vb] w0 (Ret w0 h0 (λh r=>(rpQ (k+l+1)).Is h r (a-b))):=by
 obtain⟨O,Z,rfl,D,J,ab⟩:=qM ra;obtain⟨M,U,rfl,C,H,aa⟩:=qM rb;exact(yBH hs D J C H oM oM).mono (gG λh r x=>zA3 x (by have:=zF0 a b;omega))
theorem kC{k l:Nat}{va:Value}{a:Rat}(ra:(rpQ k).Is h0 va a){vb:Value}{b:Rat}(rb:(rpQ l).Is h0 vb b)(hcd0:k+l<=10000000000):
 Calls Tryz.prog 153 #[va,vb] w0 (Ret w0 h0 (λh r=>(rpQ (k+l)).Is h r (a*b))):=by
 obtain⟨O,Z,rfl,D,J,ab⟩:=qM ra;obtain⟨M,U,rfl,C,H,aa⟩:=qM rb;exact(yBJ hs D J C H oM oM).mono (gG λh r x=>zA3 x (by have:=iL a b;omega))
theorem aO{k l:Nat}{va:Value}{a:Rat}(ra:(rpQ k).Is h0 va a){vb:Value}{b:Rat}(rb:(rpQ l).Is h0 vb b)(hcd0:k+l<=10000000000):
 Calls Tryz.prog 182 #[va,vb] w0 (Ret w0 h0 (λ_ r=>r=vI (xS a b))):=by
 obtain⟨O,Z,rfl,D,J,ab⟩:=qM ra;obtain⟨M,U,rfl,C,H,aa⟩:=qM rb;exact yBL hs D J C H oM oM
theorem rW{k:Nat}{va:Value}{a:Rat}(ra:(rpQ k).Is h0 va a)(hcd0:k<=10000000000):
 Calls Tryz.prog 122 #[va] w0 (Ret w0 h0 (λ_ r=>r=vI (yV a))):=by
 obtain⟨H,J,rfl,C,D,M⟩:=qM ra;exact zAI hs C D oM
theorem q7{k l:Nat}{va:Value}{a:Rat}(ra:(rpQ k).Is h0 va a){vb:Value}{b:Rat}(rb:(rpQ l).Is h0 vb b)(hcd0:k+l<=10000000000):
 Calls Tryz.prog 159 #[va,vb] w0 (Ret w0 h0 (λ_ r=>r=vB (a=b))):=by
 obtain⟨O,Z,rfl,D,J,ab⟩:=qM ra;obtain⟨M,U,rfl,C,H,aa⟩:=qM rb;exact zWI hs D J C H oM oM
theorem zTG{k l:Nat}{va:Value}{a:Rat}(ra:(rpQ k).Is h0 va a){vb:Value}{b:Rat}(rb:(rpQ l).Is h0 vb b)(hcd0:k+l<=10000000000):
 Calls Tryz.prog 123 #[va,vb] w0 (Ret w0 h0 (λh r=>∃u0,r=.tuple #[u0,vI (if b=0 then 3 else 0)]/\(rpQ (k+l)).Is h u0 (if b=0 then 0 else a/b))):=by
 obtain⟨O,Z,rfl,D,J,ab⟩:=qM ra;obtain⟨M,U,rfl,C,H,aa⟩:=qM rb;exact(yBI hs D J C H oM oM).mono (gG λh r x=>by obtain⟨u,e,y⟩:=x;exact⟨u,e,zA3 y (by have:=zQ7 a b;omega)⟩)
theorem rV{k l:Nat}{va:Value}{a:Rat}(ra:(rpQ k).Is h0 va a){vb:Value}{b:Rat}(rb:(rpQ l).Is h0 vb b)(hcd0:k+l<=10000000000):
 Calls Tryz.prog 45 #[va,vb] w0 (Ret w0 h0 (λh r=>(rpQ (k+l+1)).Is h r (a+b))):=by
 obtain⟨O,Z,rfl,D,J,ab⟩:=qM ra;obtain⟨M,U,rfl,C,H,aa⟩:=qM rb;exact(zEU hs D J C H oM oM).mono (gG λh r x=>zA3 x (by have:=lH a b;omega))
theorem fY{k l:Nat}{va:Value}{a:Rat}(ra:(rpQ k).Is h0 va a){vb:Value}{b:Rat}(rb:(rpQ l).Is h0 vb b)(hcd0:k+l<=10000000000):
 Calls Tryz.prog 55 #[va,vb] w0 (Ret w0 h0 (λh r=>(rpQ (k+l+1)).Is h r (a-b))):=by
 obtain⟨O,Z,rfl,D,J,ab⟩:=qM ra;obtain⟨M,U,rfl,C,H,aa⟩:=qM rb;exact(zV3 hs D J C H oM oM).mono (gG λh r x=>zA3 x (by have:=zF0 a b;omega))
theorem qT{k l:Nat}{va:Value}{a:Rat}(ra:(rpQ k).Is h0 va a){vb:Value}{b:Rat}(rb:(rpQ l).Is h0 vb b)(hcd0:k+l<=10000000000):
 Calls Tryz.prog 53 #[va,vb] w0 (Ret w0 h0 (λh r=>(rpQ (k+l)).Is h r (a*b))):=by
 obtain⟨O,Z,rfl,D,J,ab⟩:=qM ra;obtain⟨M,U,rfl,C,H,aa⟩:=qM rb;exact(zLM hs D J C H oM oM).mono (gG λh r x=>zA3 x (by have:=iL a b;omega))
theorem zFE{k l:Nat}{va:Value}{a:Rat}(ra:(rpQ k).Is h0 va a){vb:Value}{b:Rat}(rb:(rpQ l).Is h0 vb b)(hcd0:k+l<=10000000000):
 Calls Tryz.prog 203 #[va,vb] w0 (Ret w0 h0 (λh r=>(rpQ (k+l+2)).Is h r (zCB a b))):=by
 obtain⟨O,Z,rfl,D,J,ab⟩:=qM ra;obtain⟨M,U,rfl,C,H,aa⟩:=qM rb;exact(zV5 hs D J C H oM oM).mono (gG λh r x=>zA3 x (by have:=yHO a b;omega))
theorem fZ{k l:Nat}{va:Value}{a:Rat}(ra:(rpQ k).Is h0 va a){vb:Value}{b:Rat}(rb:(rpQ l).Is h0 vb b)(hcd0:k+l<=10000000000):
 Calls Tryz.prog 17 #[va,vb] w0 (Ret w0 h0 (λ_ r=>r=vI (xS a b))):=by
 obtain⟨O,Z,rfl,D,J,ab⟩:=qM ra;obtain⟨M,U,rfl,C,H,aa⟩:=qM rb;exact zV7 hs D J C H oM oM
theorem qC{k:Nat}{va:Value}{a:Rat}(ra:(rpQ k).Is h0 va a)(hcd0:k<=10000000000):
 Calls Tryz.prog 48 #[va] w0 (Ret w0 h0 (λ_ r=>r=vI (yV a))):=by
 obtain⟨H,J,rfl,C,D,M⟩:=qM ra;exact zBZ hs C D oM
theorem tX{k l:Nat}{va:Value}{a:Rat}(ra:(rpQ k).Is h0 va a){vb:Value}{b:Rat}(rb:(rpQ l).Is h0 vb b)(hcd0:k+l<=10000000000):
 Calls Tryz.prog 73 #[va,vb] w0 (Ret w0 h0 (λ_ r=>r=vB (a=b))):=by
 obtain⟨O,Z,rfl,D,J,ab⟩:=qM ra;obtain⟨M,U,rfl,C,H,aa⟩:=qM rb;exact zSX hs D J C H oM oM
theorem zOX{k l:Nat}{va:Value}{a:Rat}(ra:(rpQ k).Is h0 va a){vb:Value}{b:Rat}(rb:(rpQ l).Is h0 vb b)(hcd0:k+l<=10000000000):
 Calls Tryz.prog 81 #[va,vb] w0 (Ret w0 h0 (λh r=>∃u0,r=.tuple #[u0,vI (if b=0 then 3 else 0)]/\(rpQ (k+l)).Is h u0 (if b=0 then 0 else a/b))):=by
 obtain⟨O,Z,rfl,D,J,ab⟩:=qM ra;obtain⟨M,U,rfl,C,H,aa⟩:=qM rb;exact(zV4 hs D J C H oM oM).mono (gG λh r x=>by obtain⟨u,e,y⟩:=x;exact⟨u,e,zA3 y (by have:=zQ7 a b;omega)⟩)
theorem oJ{k:Nat}{va:Value}{a:Rat}(ra:(rpQ k).Is h0 va a)(hcd0:k<=10000000000):
 Calls Tryz.prog 87 #[va] w0 (Ret w0 h0 (λh r=>(rpQ k).Is h r (-a))):=by
 obtain⟨H,J,rfl,C,D,M⟩:=qM ra;exact(zLL hs C D oM).mono (gG λh r x=>zA3 x (by have:=zPK a;omega))
theorem zOY{k:Nat}{va:Value}{a:Rat}(ra:(rpQ k).Is h0 va a)(hcd0:k<=10000000000):
 Calls Tryz.prog 103 #[va] w0 (Ret w0 h0 (λh r=>(rpQ k).Is h r (iV a))):=by
 obtain⟨H,J,rfl,C,D,M⟩:=qM ra;exact(zV8 hs C D oM).mono (gG λh r x=>zA3 x (by have:=yHP a;omega))
theorem rU{n:Int}(hn1:-9223372036854775808<=n)(hn2:n<9223372036854775808):
 Calls Tryz.prog 27 #[vI n] w0 (Ret w0 h0 (λh r=>(rpQ 2).Is h r ((n:Int):Rat))):=by
 exact(zV6 hs hn1 hn2).mono (gG λh r x=>zA3 x (by exact sT n hn1 hn2))
theorem zB6{n:Int}(hn1:-9223372036854775808<=n)(hn2:n<9223372036854775808):
 Calls Tryz.prog 116 #[vI n] w0 (Ret w0 h0 (λh r=>(rpQ 2).Is h r ((n:Int):Rat))):=by
 exact(yBK hs hn1 hn2).mono (gG λh r x=>zA3 x (by exact sT n hn1 hn2))
theorem iJ{n:Int}(hn1:-9223372036854775808<=n)(hn2:n<9223372036854775808){d:Int}(hd1:-9223372036854775808<=d)(hd2:d<9223372036854775808):
 Calls Tryz.prog 21 #[vI n,vI d] w0 (Ret w0 h0 (λh r=>(rpQ 2).Is h r (uR n d))):=by
 exact(zHR hs hn1 hn2 hd1 hd2).mono (gG λh r x=>zA3 x (by exact zD1 hn1 hn2 hd1 hd2))
theorem zWQ{qa:Rat}{vna vda:Value}(hna:Us .u32 h0 vna (zB qa.num.natAbs))(hda:Us .u32 h0 vda (zB (wO qa.den))):
 Calls Tryz.prog 146 #[.agg #[vB (qa.num<0),vna,vda]] w0 (Ret w0 h0 (λ_ r=>r=.tuple #[vI (smZ qa),vB (smB qa)])):=by
 refine cb1 33 (.agg #[vB (qa.num<0),vna,vda]) func146 hs ?_;refine go2 ?_;refine zK (wT (cs:=[_,_,_]) I I) I I I ?_;intro v1 r1 Z;obtain⟨b1,rfl,rfl⟩:=Z;refine qI ?_;refine gU 6 14 (vB (((0:Int)<(↑(zB (wO qa.den)).length:Int))\/((1:Int)<(↑(zB qa.num.natAbs).length:Int)))) ?_ ?_
 ·
  refine zW ((0:Int)<(↑(zB (wO qa.den)).length:Int)) (λO=>?_) (λO=>?_)
  ·
   refine gT O I (go6 ?_);refine gqU ?_;exact congrArg some (vS O)
  refine gF O I (uK ?_);refine gqU ?_;exact congrArg some (vT O)
 refine gc2 (λC=>?_) λC=>?_
 ·
  refine go8 ?_;refine wL I I I ?_;obtain⟨e1,e2⟩:=yKC C;rw[e1,yM e2]
 refine zCK (λH=>?_) λH=>?_
 ·
  refine go8 ?_;refine wL I I I ?_;obtain⟨e1,e2⟩:=yKB C H;rw[e1,xT e2]
 obtain⟨U,ab,J⟩:=yAX C H;have aa:=zVM C;refine go6 ?_;refine gv (zU (q:=0) (0) underlying27 sizeOf124 I I hna I oM) I (go1 ?_);rw[U];refine gv (zFB (k:=.u32) underlying124 underlying2 I oM) I (zDN (λD=>?_) λD=>?_)
 ·
  have M:=D;refine go3 ?_;refine gv (mJ I oM oM) I (go8 ?_);refine wL I I I ?_;exact zHK oM (Iff.trans oM J.symm)
 have M:=D;refine qE ?_;refine wL I I I ?_;exact zHK oM (Iff.trans oM J.symm)
theorem tA{k:Nat}{va:Value}{a:Rat}(ra:(rpQ k).Is h0 va a):Calls Tryz.prog 146 #[va] w0 (Ret w0 h0 (λ_ r=>r=.tuple #[vI (smZ a),vB (smB a)])):=by
 obtain⟨H,J,rfl,C,D,M⟩:=qM ra;exact zWQ hs C D
theorem zH5{n:Int}(hn1:-9223372036854775808<=n)(hn2:n<9223372036854775808):
 Calls Tryz.prog 148 #[vI n] w0 (Ret w0 h0 (λ_ r=>r=vI (zGY n))):=by
 refine cb1 9 (vI n) func148 hs ?_;refine sG ?_;refine cnd (λC=>?_) λC=>?_
 ·
  refine go8 ?_;refine zC I I ?_;unfold zGY;rw[if_pos C]
 refine gc7 (λD=>?_) λD=>?_
 ·
  refine go8 ?_;refine zC I I ?_;unfold zGY;rw[if_neg C,if_pos D]
 refine go9 ?_;refine zC I I ?_;unfold zGY;rw[if_neg C,if_neg D]
theorem zB8{k:Nat}{vp:Value}{p:Tq}(rp:(tPt k).Is h0 vp p){i:Nat}{j:Nat}(hcd0:i<3)(hcd1:j<3):
 Calls Tryz.prog 213 #[vp,vI ↑i,vI ↑j] w0 (Ret w0 h0 (λh r=>r=.tuple #[vI (smZ (p.at i)),vI (smZ (p.at j)),vB (smB (p.at i)/\smB (p.at j))])):=by
 refine cb3 33 vp (vI ↑i) (vI ↑j) func213 hs ?_;refine go2 ?_;refine nB rp λH ah C=>(go8 ?_);refine gv ((yG (sz:=3) i underlying31 sizeOf29 I I I oM).cv (show _=vP H ((i*3+0)) from congrArg (vP H) oM)) I (lX (xB yD (Pc.ta pH i oM) C) λac U=>(cL (ev1 I) call146 (λw hs=>tA hs U) λab h1 ae O=>?_));obtain rfl:=O;refine uK ?_;refine gv ((yG (sz:=3) j underlying31 sizeOf29 I I I oM).cv (show _=vP H ((j*3+0)) from congrArg (vP H) oM)) I (lX (xB yD (Pc.ta pH j oM) C) λaa M=>(cL (ev1 I) call146 (λw hs=>tA hs M) λZ h2 ad J=>?_));obtain rfl:=J;refine qE ?_;refine gU 3 32 (vB ((smB (p.at i))/\(smB (p.at j)))) ?_ ?_
 ·
  refine zW (smB (p.at i)) (λD=>?_) (λD=>?_)
  ·
   refine gT D I (go4 ?_);refine gqU ?_;exact congrArg some (xH D)
  refine gF D I (go3 ?_);refine gqU ?_;exact congrArg some (xJ D)
 refine go6 ?_;refine qN I I I I ?_
 rfl
theorem zC9{k:Nat}{va:Value}{a:Tq}(ra:(tPt k).Is h0 va a){vb:Value}{b:Tq}(rb:(tPt k).Is h0 vb b){vc:Value}{c:Tq}(rc:(tPt k).Is h0 vc c){i:Nat}{j:Nat}(hcd0:i<3)(hcd1:j<3)(hcd2:k<=1000000000):
 Calls Tryz.prog 206 #[va,vb,vc,vI ↑i,vI ↑j] w0 (Ret w0 h0 (λ_ r=>r=vI (orZ (pr a i j) (pr b i j) (pr c i j)))):=by
 refine jK (n:=100) (e:=[(0,va),(1,vb),(2,vc),(3,vI ↑i),(4,vI ↑j)]) (vs:=[va,vb,vc,vI ↑i,vI ↑j]) func206 rfl rfl (bL rfl) hs e5z (go2 ?_);refine nB ra λO dh C=>(nB rb λb6 df Z=>(nB rc λb7 de U=>(go5 ?_)));refine lX (xB zL pH C) λck bk=>(go2 ?_);refine cL (ev3 I I I) call213 (λw hs=>zB8 (i:=i) (j:=j) hs bk oM oM) λcj h1 dc bj=>?_;obtain rfl:=bj;refine qI ?_;refine lX (xB zL pH Z) λci bi=>(go2 ?_);refine cL (ev3 I I I) call213 (λw hs=>zB8 (i:=i) (j:=j) hs bi oM oM) λch h2 db bh=>?_;obtain rfl:=bh;refine qI ?_;refine lX (xB zL pH U) λcg bg=>(go2 ?_);refine cL (ev3 I I I) call213 (λw hs=>zB8 (i:=i) (j:=j) hs bg oM oM) λcf h3 da bf=>?_;obtain rfl:=bf;refine pQ ?_;refine gU 3 48 (vB ((smB (a.at i)/\smB (a.at j))/\(smB (b.at i)/\smB (b.at j)))) ?_ ?_
 ·
  refine zW (smB (a.at i)/\smB (a.at j)) (λD=>?_) (λD=>?_)
  ·
   refine gT D I (go4 ?_);refine gqU ?_;exact congrArg some (xH D)
  refine gF D I (go3 ?_);refine gqU ?_;exact congrArg some (xJ D)
 refine gU 3 51 (vB (((smB (a.at i)/\smB (a.at j))/\(smB (b.at i)/\smB (b.at j)))/\(smB (c.at i)/\smB (c.at j)))) ?_ ?_
 ·
  refine zW ((smB (a.at i)/\smB (a.at j))/\(smB (b.at i)/\smB (b.at j))) (λD=>?_) (λD=>?_)
  ·
   refine gT D I (go4 ?_);refine gqU ?_;exact congrArg some (xH D)
  refine gF D I (go3 ?_);refine gqU ?_;exact congrArg some (xJ D)
 refine gc2 (λH=>?_) λH=>?_
 ·
  obtain⟨⟨⟨ap,ao⟩,an,am⟩,M,J⟩:=H;have cq:=(sQ ap).2;have cp:=(sQ ao).2;have co:=(sQ an).2;have cn:=(sQ am).2;have cm:=(sQ M).2;have cl:=(sQ J).2;have kp:=zWK (u:=smZ (b.at i)-smZ (a.at i)) (v:=smZ (c.at j)-smZ (a.at j)) oM oM oM oM;have kq:=zWK (u:=smZ (b.at j)-smZ (a.at j)) (v:=smZ (c.at i)-smZ (a.at i)) oM oM oM oM;refine go8 ?_;refine gv (gJ I I oM oM) I (go6 ?_);refine gv (gJ I I oM oM) I (go1 ?_);refine cL (ev1 I) call148 (λw hs=>zH5 hs oM oM) λar h4 bl be=>?_;obtain rfl:ar=vI (zGY ((((smZ (b.at i))-(smZ (a.at i)))*((smZ (c.at j))-(smZ (a.at j))))-(((smZ (b.at j))-(smZ (a.at j)))*((smZ (c.at i))-(smZ (a.at i)))))):=be;refine go5 ?_;refine zC I I ?_;exact congrArg vI (zW0 (a:=pr a i j) (b:=pr b i j) (c:=pr c i j) ⟨ap,ao⟩ ⟨an,am⟩ ⟨M,J⟩)
 refine go3 ?_;refine zJ 16 _ [(15,(20,29,[.bool false,.slice none 0 0,.slice none 0 0]))] [(0,.q),(1,.q),(2,.q),(3,.q),(4,.q),(5,.q),(7,.q),(8,.q),(9,.q),(10,.q),(11,.q),(12,.q),(6,.c),(13,.c),(14,.c),(15,.a),(16,.t)] yA (jS.cons I I (qA wB I I) jS.nil) (wP zor) (qD I I kW) (λr hr=>hr) (go1 ?_);refine wC I (λ_ _=>(yG (sz:=3) i underlying31 sizeOf29 I I I oM).cv (show _=vP b6 ((i*3+0)) from congrArg (vP b6) oM)) I (wX I (xB yD (Pc.ta pH i oM) Z) λce bd=>(go1 ?_));refine wC I (λ_ _=>(yG (sz:=3) i underlying31 sizeOf29 I I I oM).cv (show _=vP O ((i*3+0)) from congrArg (vP O) oM)) I (wX I (xB yD (Pc.ta pH i oM) C) λcd bc=>(go1 ?_));refine wC I (λ_ _=>(yG (sz:=3) j underlying31 sizeOf29 I I I oM).cv (show _=vP b7 ((j*3+0)) from congrArg (vP b7) oM)) I (wX I (xB yD (Pc.ta pH j oM) U) λcb bb=>(go1 ?_));refine wC I (λ_ _=>(yG (sz:=3) j underlying31 sizeOf29 I I I oM).cv (show _=vP O ((j*3+0)) from congrArg (vP O) oM)) I (wX I (xB yD (Pc.ta pH j oM) C) λca ba=>?_);refine w_c I (sC (ev2 I I) call121 (λw hs=>fJ hs bd bc oM) λcc h4 bl ah=>?_);replace ah:=Rp.Is.le ah (Le.q (l:=2*k+1) oM);refine w_c I (sC (ev2 I I) call121 (λw hs=>fJ hs bb.up ba.up oM) λbz h5 cz ae=>?_);replace ae:=Rp.Is.le ae (Le.q (l:=2*k+1) oM);refine w_c I (sC (ev2 I I) call153 (λw hs=>kC hs ah.up ae oM) λbx h6 cy ad=>?_);replace ad:=Rp.Is.le ad (Le.q (l:=4*k+2) oM);refine w_a I I (λdi=>?_);have ak:(rpQ 1).R h6 [.bool false,.slice none 0 0,.slice none 0 0] (0:Rat):=(yN dC);have ai:=(Le.q (l:=4*k+2) oM).R ak;refine yK (A:=[]) I (uB sizeOf29 pH ai ad) λbo aj=>(go3 ?_);refine zJ 18 _ [] [(0,.q),(1,.q),(2,.q),(3,.q),(4,.q),(5,.q),(6,.q),(8,.q),(9,.q),(10,.q),(11,.q),(12,.q),(13,.q),(7,.c),(14,.c),(15,.c),(16,.c),(17,.q)] yA nX (wP zor) nX (λr hr=>hr) (wX I (xB yD pH aj) λbw az=>(go1 ?_));refine wC I (λ_ _=>(yG (sz:=3) j underlying31 sizeOf29 I I I oM).cv (show _=vP b6 ((j*3+0)) from congrArg (vP b6) oM)) I (wX I (xB yD (Pc.ta pH j oM) Z) λbv ay=>(go1 ?_));refine wC I (λ_ _=>(yG (sz:=3) j underlying31 sizeOf29 I I I oM).cv (show _=vP O ((j*3+0)) from congrArg (vP O) oM)) I (wX I (xB yD (Pc.ta pH j oM) C) λbu ax=>(go1 ?_));refine wC I (λ_ _=>(yG (sz:=3) i underlying31 sizeOf29 I I I oM).cv (show _=vP b7 ((i*3+0)) from congrArg (vP b7) oM)) I (wX I (xB yD (Pc.ta pH i oM) U) λbs aw=>(go1 ?_));refine wC I (λ_ _=>(yG (sz:=3) i underlying31 sizeOf29 I I I oM).cv (show _=vP O ((i*3+0)) from congrArg (vP O) oM)) I (wX I (xB yD (Pc.ta pH i oM) C) λbr av=>?_);refine w_c I (sC (ev2 I I) call121 (λw hs=>fJ hs ay ax oM) λbt h7 cw ac=>?_);replace ac:=Rp.Is.le ac (Le.q (l:=2*k+1) oM);refine w_c I (sC (ev2 I I) call121 (λw hs=>fJ hs aw.up av.up oM) λbq h8 cu ab=>?_);replace ab:=Rp.Is.le ab (Le.q (l:=2*k+1) oM);refine w_c I (sC (ev2 I I) call153 (λw hs=>kC hs ac.up ab oM) λbp h9 ct aa=>?_);replace aa:=Rp.Is.le aa (Le.q (l:=4*k+2) oM);refine w_c I (sC (ev2 I I) call182 (λw hs=>aO hs az.up aa oM) λaq dd bn au=>?_);obtain rfl:aq=vI (xS (((b.at i)-(a.at i))*((c.at j)-(a.at j))) (((b.at j)-(a.at j))*((c.at i)-(a.at i)))):=au;have bm:=qV (((b.at i)-(a.at i))*((c.at j)-(a.at j))) (((b.at j)-(a.at j))*((c.at i)-(a.at i)));refine go4 ?_;refine zC I I ?_;exact congrArg vI (yG4 (pr a i j) (pr b i j) (pr c i j))
theorem zAS{k:Nat}{va:Value}{a:Rat}(ra:(rpQ k).Is h0 va a){vb:Value}{b:Rat}(rb:(rpQ k).Is h0 vb b){vx:Value}{x:Rat}(rx:(rpQ k).Is h0 vx x)(hcd0:k<=1000000000):
 Calls Tryz.prog 212 #[va,vb,vx] w0 (Ret w0 h0 (λ_ r=>r=vB (qP a b x))):=by
 refine cb3 29 va vb vx func212 hs ?_;refine go2 ?_;refine nB ra λb3 ap O=>(nB rb λb4 ao M=>(nB rx λb5 an D=>(go4 ?_)));refine zJ 8 _ [] [(0,.q),(1,.q),(3,.q),(4,.q),(2,.c),(5,.c),(6,.q),(7,.q)] yA nX zor nX (λr hr=>hr) (wX I (xB yD pH O) λv9 r9=>(wX I (xB yD pH D) λaj ac=>(wX I (xB yD pH D) λai aa=>(wX I (xB yD pH M) λah Z=>?_))));refine w_c I (sC (ev2 I I) call182 (λw hs=>aO hs r9 ac oM) λJ h1 am ab=>?_);obtain rfl:J=vI (xS a x):=ab;have ae:=qV a x;refine w_c I (sC (ev2 I I) call182 (λw hs=>aO hs aa.up Z.up oM) λH h2 ak U=>?_);obtain rfl:H=vI (xS x b):=U;have ad:=qV x b;refine go8 ?_;refine gU 4 20 (vB (((xS a x)<=(0:Int))/\((xS x b)<=(0:Int)))) ?_ ?_
 ·
  refine zW ((xS a x)<=(0:Int)) (λC=>?_) (λC=>?_)
  ·
   refine gT C I (go6 ?_);refine gqU ?_;exact congrArg some (xH C)
  refine gF C I (go4 ?_);refine gqU ?_;exact congrArg some (xJ C)
 refine gU 8 28 (vB ((((xS a x)<=(0:Int))/\((xS x b)<=(0:Int)))\/(((0:Int)<=(xS a x))/\((0:Int)<=(xS x b))))) ?_ ?_
 ·
  refine zW (((xS a x)<=(0:Int))/\((xS x b)<=(0:Int))) (λC=>?_) (λC=>?_)
  ·
   refine gT C I (go8 ?_);refine gqU ?_;exact congrArg some (vS C)
  refine gF C I (go4 ?_);refine gU 4 27 (vB (((0:Int)<=(xS a x))/\((0:Int)<=(xS x b)))) ?_ ?_
  ·
   refine zW ((0:Int)<=(xS a x)) (λC=>?_) (λC=>?_)
   ·
    refine go1 ?_;refine gT C I (go7 ?_);refine gqU ?_;exact congrArg some (xH C)
   refine go1 ?_;refine gF C I (go5 ?_);refine gqU ?_;exact congrArg some (xJ C)
  refine go2 ?_;refine gqU ?_;exact congrArg some (vT C)
 refine go4 ?_;refine zC I I ?_;exact kD zZU
theorem yBV{k:Nat}{va:Value}{a:Tq}(ra:(tPt k).Is h0 va a){vb:Value}{b:Tq}(rb:(tPt k).Is h0 vb b){vp:Value}{p:Tq}(rp:(tPt k).Is h0 vp p){i:Nat}{j:Nat}(hcd0:i<3)(hcd1:j<3)(hcd2:k<=1000000000):
 Calls Tryz.prog 205 #[va,vb,vp,vI ↑i,vI ↑j] w0 (Ret w0 h0 (λ_ r=>r=vB (onS (pr a i j) (pr b i j) (pr p i j)))):=by
 refine jK (n:=42) (e:=[(0,va),(1,vb),(2,vp),(3,vI ↑i),(4,vI ↑j)]) (vs:=[va,vb,vp,vI ↑i,vI ↑j]) func205 rfl rfl (bL rfl) hs e5z (go2 ?_);refine nB ra λZ bj M=>(nB rb λU bi J=>(nB rp λO bh H=>(go4 ?_)));refine zJ 32 _ [] [(0,.q),(1,.q),(2,.q),(3,.q),(4,.q),(5,.q),(6,.q),(7,.q),(8,.q),(9,.c),(10,.q),(11,.q),(12,.q),(13,.q),(14,.q),(15,.q),(16,.q),(17,.q),(18,.q),(19,.q),(20,.c),(21,.q),(22,.q),(23,.q),(24,.q),(25,.q),(26,.q),(27,.q),(28,.c),(29,.q),(30,.q),(31,.q)] yA nX (wP zor) nX (λr hr=>hr) (go1 ?_);refine wC I (λ_ _=>(yG (sz:=3) i underlying31 sizeOf29 I I I oM).cv (show _=vP Z ((i*3+0)) from congrArg (vP Z) oM)) I (wX I (xB yD (Pc.ta pH i oM) M) λbd ar=>(go1 ?_));refine wC I (λ_ _=>(yG (sz:=3) i underlying31 sizeOf29 I I I oM).cv (show _=vP U ((i*3+0)) from congrArg (vP U) oM)) I (wX I (xB yD (Pc.ta pH i oM) J) λbc aq=>(go1 ?_));refine wC I (λ_ _=>(yG (sz:=3) i underlying31 sizeOf29 I I I oM).cv (show _=vP O ((i*3+0)) from congrArg (vP O) oM)) I (wX I (xB yD (Pc.ta pH i oM) H) λbb ap=>?_);refine w_c I (sC (ev3 I I I) call212 (λw hs=>zAS hs ar aq ap oM) λac h1 bg ao=>?_);obtain rfl:ac=vB (qP (a.at i) (b.at i) (p.at i)):=ao;refine go1 ?_;refine jT (qP (a.at i) (b.at i) (p.at i)) (λD=>?_) (λD=>?_)
 ·
  rw[xT D];refine yS I I I (λh' L' hh hR=>yY I) I (yS I I I (λh' L' hh hR=>(yG (sz:=3) j underlying31 sizeOf29 I I I oM).cv (show _=vP Z ((j*3+0)) from congrArg (vP Z) oM)) I (oX I (xB yD (Pc.ta pH j oM) M) λba an=>(yS I I I (λh' L' hh hR=>yY I) I (yS I I I (λh' L' hh hR=>(yG (sz:=3) j underlying31 sizeOf29 I I I oM).cv (show _=vP U ((j*3+0)) from congrArg (vP U) oM)) I (oX I (xB yD (Pc.ta pH j oM) J) λaz am=>(yS I I I (λh' L' hh hR=>yY I) I (yS I I I (λh' L' hh hR=>(yG (sz:=3) j underlying31 sizeOf29 I I I oM).cv (show _=vP O ((j*3+0)) from congrArg (vP O) oM)) I (oX I (xB yD (Pc.ta pH j oM) H) λay ak=>?_))))))));refine w_c I (zBX I I (sC (ev3 I I I) call212 (λw hs=>zAS hs an am ak oM) λab h2 bf aj=>?_));obtain rfl:ab=vB (qP (a.at j) (b.at j) (p.at j)):=aj;refine go2 ?_;refine jT (qP (a.at j) (b.at j) (p.at j)) (λC=>?_) (λC=>?_)
  ·
   rw[xT C];refine oX I (xB zL pH M) λax ai=>(oX I (xB zL pH J) λaw ah=>(oX I (xB zL pH H) λav ae=>(yS I I I (λh' L' hh hR=>yY I) I (yS I I I (λh' L' hh hR=>yY I) I ?_))));refine w_c I (zBX I I (sC (vs:=[_,_,_,_,_]) e5z call206 (λw hs=>zC9 (i:=i) (j:=j) hs ai ah ae oM oM oM) λaa h3 be ad=>?_));obtain rfl:aa=vI (orZ (pr a i j) (pr b i j) (pr p i j)):=ad;have au:=tJ (pr a i j) (pr b i j) (pr p i j);refine go6 ?_;refine zC I I ?_
   first|exact kD (by unfold onS;simp only[pr,<-fH] at *;grind)|exact(xT (by unfold onS;simp only[pr,<-fH] at *;grind)).symm|exact(yM (by unfold onS;simp only[pr,<-fH] at *;grind)).symm
  rw[yM C];refine go5 ?_;refine w_c I (mD I I I I (go6 ?_));refine zC I I ?_
  first|exact kD (by unfold onS;simp only[pr,<-fH] at *;grind)|exact(xT (by unfold onS;simp only[pr,<-fH] at *;grind)).symm|exact(yM (by unfold onS;simp only[pr,<-fH] at *;grind)).symm
 rw[yM D];refine go9 ?_;refine w_c I (mD I I I I (go7 ?_));refine w_c I (mD I I I I (go6 ?_));refine zC I I ?_
 first|exact kD (by unfold onS;simp only[pr,<-fH] at *;grind)|exact(xT (by unfold onS;simp only[pr,<-fH] at *;grind)).symm|exact(yM (by unfold onS;simp only[pr,<-fH] at *;grind)).symm
theorem zMB{k:Nat}{vl:Value}{l:(List Tq)}(rl:(tLs k).Is h0 vl l){vp:Value}{p:Tq}(rp:(tPt k).Is h0 vp p){i:Nat}{j:Nat}(hcd0:i<3)(hcd1:j<3)(hcd2:k<=100000)(hcd3:l.length<=1000):
 Calls Tryz.prog 183 #[vl,vp,vI ↑i,vI ↑j] w0 (Ret w0 h0 (λ_ r=>r=vI (gA l (pr p i j) i j))):=by
 refine jK (n:=78) (e:=[(0,vl),(1,vp),(2,vI ↑i),(3,vI ↑j)]) (vs:=[vl,vp,vI ↑i,vI ↑j]) func183 rfl rfl (bL rfl) hs e4z (go2 ?_);refine nB rp λb5 bp aa=>(oW ?_);refine gcL (ι:=Nat×Mem) (λ(m,ma)=>(MLe h0 ma/\(m<=l.length/\∀q,q<m->¬onS (wV l i j q) (wU l i j q) (pr p i j)),[(0,vl),(2,vI ↑i),(3,vI ↑j),(5,vP b5 0),(9,vB (jD l (pr p i j) i j m)),(16,vl),(17,vI (↑(l).length:Int)),(18,vI ↑m)],[.var b5 31 bp],ma,l.length-m)) (0,h0) ?_ ?_ (he:=⟨I,I,I,I,congrArg some (yM id).symm,I,I,I,trivial⟩)
 · exact⟨mle,by omega,λq hq=>by omega⟩
 rintro⟨m,ma⟩ ⟨bq,ai,O⟩
 refine xC ?_;refine gc6 (λaj=>?_) λaj=>?_
 ·
  refine go7 ?_;refine lX (xI zT m underlying35 zL rl) λci bk=>(lX (xA zL bk) λch bj=>(nA (ρ:=(tPt 1)) (X:=zT) yU (xW (yN dC)) λam bt ah=>(go1 ?_)));have ad:=(Le.t (Le.q (l:=k+1) oM)).R ah;refine yI (A:=[]) (uB sizeOf31 pH ad (bj.le (Le.t (Le.q (l:=k+1) oM)))) λbr M=>(go9 ?_);refine gv (wF I I oM oM) I (lX (xI zT ((m+1)%l.length) underlying35 zL rl (hi:=by exact Nat.mod_lt _ oM)) λcg bi=>(lX (xA zL bi) λcf bh=>(nA (ρ:=(tPt 1)) (X:=zT) yU (xW (yN dC)) λak bs ae=>?_)));have ac:=(Le.t (Le.q (l:=k+1) oM)).R ae;refine yI (A:=[]) (uB sizeOf31 pH ac (bh.le (Le.t (Le.q (l:=k+1) oM)))) λbo J=>(go5 ?_);refine lX (xB zL pH M) λce bg=>(lX (xB zL pH J) λcd bf=>(lX (xB zL pH aa) λcc be=>(go2 ?_)));refine cL (vs:=[_,_,_,_,_]) e5z call205 (λw hs=>yBV (i:=i) (j:=j) hs bg bf (be.le (Le.t (Le.q (l:=k+1) oM))) oM oM oM) λaq h1 cm bd=>?_;obtain rfl:aq=vB (onS (pr (l.getD m zT) i j) (pr (l.getD ((m+1)%l.length) zT) i j) (pr p i j)):=bd;refine gc2 (λH=>?_) λH=>?_
  ·
   refine qE ?_;refine zC I I ?_;exact congrArg vI (zYG oM H)
  refine go3 ?_;refine zJ 18 _ [] [(0,.q),(1,.q),(2,.q),(3,.q),(4,.q),(5,.q),(8,.q),(9,.q),(10,.q),(11,.q),(12,.q),(13,.q),(6,.c),(7,.q),(14,.c),(15,.q),(16,.q),(17,.q)] yA nX (wP zor) nX (λr hr=>hr) (go1 ?_);refine wC I (λ_ _=>(yG (sz:=3) j underlying31 sizeOf29 I I I oM).cv (show _=vP am ((j*3+0)) from congrArg (vP am) oM)) I (wX I (xB yD (Pc.ta pH j oM) M) λcb bc=>(go1 ?_));refine wC I (λ_ _=>(yG (sz:=3) j underlying31 sizeOf29 I I I oM).cv (show _=vP b5 ((j*3+0)) from congrArg (vP b5) oM)) I (wX I (xB yD (Pc.ta pH j oM) aa) λca bb=>(go1 ?_));refine wC I (λ_ _=>(yG (sz:=3) j underlying31 sizeOf29 I I I oM).cv (show _=vP ak ((j*3+0)) from congrArg (vP ak) oM)) I (wX I (xB yD (Pc.ta pH j oM) J) λbz az=>(go1 ?_));refine wC I (λ_ _=>(yG (sz:=3) j underlying31 sizeOf29 I I I oM).cv (show _=vP b5 ((j*3+0)) from congrArg (vP b5) oM)) I (wX I (xB yD (Pc.ta pH j oM) aa) λbx ay=>?_);refine w_c I (sC (ev2 I I) call182 (λw hs=>aO hs bc bb oM) λap h2 cl ba=>?_);obtain rfl:ap=vI (xS ((l.getD m zT).at j) (p.at j)):=ba;have bn:=qV ((l.getD m zT).at j) (p.at j);refine go1 ?_;refine w_c I (sC (ev2 I I) call182 (λw hs=>aO hs az.up ay.up oM) λao h3 ck ax=>?_);obtain rfl:ao=vI (xS ((l.getD ((m+1)%l.length) zT).at j) (p.at j)):=ax;have bm:=qV ((l.getD ((m+1)%l.length) zT).at j) (p.at j);refine uK ?_;refine gv (lD underlying4 I I) I (gc2 (λZ=>?_) λZ=>?_)
  ·
   have ab:(wV l i j m).2<=(pr p i j).2↔(wU l i j m).2<=(pr p i j).2:=by have h:=Z;rw[jV,jV] at h;exact h
   refine go8 ?_;refine xO (A:=[]) (xO (A:=[]) ?_);refine gqL ((m+1),h3) ?_ ?_ (he:=⟨I,I,I,I,congrArg (λz=>some (vB z)) (zW8 ab),I,I,I,trivial⟩)
   · exact⟨mle,by omega,zAN O H⟩
   omega
  have ab:¬((wV l i j m).2<=(pr p i j).2↔(wU l i j m).2<=(pr p i j).2):=by have h:=Z;rw[jV,jV] at h;exact h
  refine go4 ?_;refine lX (xB zL pH M) λbw aw=>(lX (xB zL pH J) λbv av=>(lX (xB zL pH aa) λbu au=>(go2 ?_)));refine cL (vs:=[_,_,_,_,_]) e5z call206 (λw hs=>zC9 (i:=i) (j:=j) hs aw av (au.le (Le.t (Le.q (l:=k+1) oM))) oM oM oM) λan h4 cj ar=>?_;obtain rfl:an=vI (orZ (pr (l.getD m zT) i j) (pr (l.getD ((m+1)%l.length) zT) i j) (pr p i j)):=ar;have bl:=tJ (pr (l.getD m zT) i j) (pr (l.getD ((m+1)%l.length) zT) i j) (pr p i j);refine go6 ?_;refine gU 4 66 (vB (((xS ((l.getD m zT).at j) (p.at j))<=(0:Int))/\((0:Int)<(orZ (pr (l.getD m zT) i j) (pr (l.getD ((m+1)%l.length) zT) i j) (pr p i j))))) ?_ ?_
  ·
   refine zW ((xS ((l.getD m zT).at j) (p.at j))<=(0:Int)) (λC=>?_) (λC=>?_)
   ·
    refine gT C I (go6 ?_);refine gqU ?_;exact congrArg some (xH C)
   refine gF C I (go4 ?_);refine gqU ?_;exact congrArg some (xJ C)
  refine gU 7 73 (vB ((((xS ((l.getD m zT).at j) (p.at j))<=(0:Int))/\((0:Int)<(orZ (pr (l.getD m zT) i j) (pr (l.getD ((m+1)%l.length) zT) i j) (pr p i j))))\/(((xS ((l.getD ((m+1)%l.length) zT).at j) (p.at j))<=(0:Int))/\((orZ (pr (l.getD m zT) i j) (pr (l.getD ((m+1)%l.length) zT) i j) (pr p i j))<(0:Int))))) ?_ ?_
  ·
   refine zW (((xS ((l.getD m zT).at j) (p.at j))<=(0:Int))/\((0:Int)<(orZ (pr (l.getD m zT) i j) (pr (l.getD ((m+1)%l.length) zT) i j) (pr p i j)))) (λC=>?_) (λC=>?_)
   ·
    refine gT C I (go7 ?_);refine gqU ?_;exact congrArg some (vS C)
   refine gF C I (go2 ?_);refine gU 4 72 (vB (((xS ((l.getD ((m+1)%l.length) zT).at j) (p.at j))<=(0:Int))/\((orZ (pr (l.getD m zT) i j) (pr (l.getD ((m+1)%l.length) zT) i j) (pr p i j))<(0:Int)))) ?_ ?_
   ·
    refine zW ((xS ((l.getD ((m+1)%l.length) zT).at j) (p.at j))<=(0:Int)) (λC=>?_) (λC=>?_)
    ·
     refine go1 ?_;refine gT C I (go7 ?_);refine gqU ?_;exact congrArg some (xH C)
    refine go1 ?_;refine gF C I (go5 ?_);refine gqU ?_;exact congrArg some (xJ C)
   refine go2 ?_;refine gqU ?_;exact congrArg some (vT C)
  refine gc2 (λD=>?_) λD=>?_
  ·
   rw[jV,jV] at D;refine qI ?_;refine xO (A:=[]) (xO (A:=[]) ?_);refine gqL ((m+1),h4) ?_ ?_ (he:=⟨I,I,I,I,congrArg (λz=>some (vB z)) (zW9 ab D),I,I,I,trivial⟩)
   · exact⟨mle,by omega,zAN O H⟩
   omega
  rw[jV,jV] at D;refine go7 ?_;refine xO (A:=[]) (xO (A:=[]) ?_);refine gqL ((m+1),h4) ?_ ?_ (he:=⟨I,I,I,I,congrArg (λz=>some (vB z)) (zW7 D),I,I,I,trivial⟩)
  · exact⟨mle,by omega,zAN O H⟩
  omega
 refine zCK (λU=>?_) λU=>?_
 ·
  refine go7 ?_;refine zC I I ?_;exact congrArg vI (zYH oM ai O U)
 refine go8 ?_;refine zC I I ?_;exact congrArg vI (zRC oM ai O U)
end
end Go.Proofs.YtpkaegemlpaenaaGreat
namespace Bk
open Go Go.RowKit
theorem Is.up{h h':Mem}{v:Value}{xs:List Int}(r:Is h v xs)(hm:MLe h h':=by exact mle):Is h' v xs:=r.mono hm
end Bk
namespace Go.Proofs.YtpkaegemlpaenaaGreat
open Bk Go Tryz
set_option maxRecDepth 10000
set_option maxHeartbeats 1000000
attribute [local irreducible] GL GC GQ W OpV
section
variable{w0:World}{h0:Mem}(hs:MLe h0 (mem w0))
include hs
theorem zXB{k l:Nat}{va:Value}{a:Tq}(ra:(tPt k).Is h0 va a){vb:Value}{b:Tq}(rb:(tPt l).Is h0 vb b)(hcd0:k+l<=1000000000):
 Calls Tryz.prog 14 #[va,vb] w0 (Ret w0 h0 (λh r=>(tPt (k+3*l+3)).Is h r (T3.mk (a.x+b.x) (a.y+b.y) (a.z+b.z)))):=by
 refine cb2 20 va vb func14 hs ?_;refine go2 ?_;refine nB ra λb2 bn au=>(nB rb λb3 bm ad=>(nA (ρ:=(tPt (k+3*l+3))) (X:=zT) yU (xW (yN oM)) λb4 bl bc=>(go9 ?_)));refine fL (go4 ?_);refine gv (OpV.tr dC (yJ (q:=3) I I)) I (go7 ?_);refine zJ 9 _ [] [(0,.q),(1,.q),(2,.q),(3,.q),(4,.q),(5,.q),(6,.q),(7,.c),(8,.q),(9,.t)] yA nX zor nX (λr hr=>hr) (go3 ?_);refine wX I (xB yD (Pc.tx pH) au) λbb an=>(go2 ?_);refine wX I (xB yD (Pc.tx pH) ad) λay aj=>?_;refine w_c I (sC (ev2 I I) call45 (λw hs=>rV hs an aj oM) λaa h1 bk H=>?_)
 change (rpQ (k+l+1)).Is h1 aa (a.x+b.x) at H
 refine go1 ?_;have aq:=(Le.t (Le.q (l:=k+l+1) oM)).R au;refine yK (A:=[_,_]) I (uB sizeOf29 (Pc.tx pH) aq H) λbh O=>(go5 ?_);refine gv ((zQ (q:=1) I I oM oM).cv (show _=vI (1) from I)) I (go2 ?_);refine wI (go4 ?_);refine gv (OpV.tr dC (yJ (q:=3) I I)) I (go7 ?_);refine zJ 9 _ [] [(0,.q),(1,.q),(2,.q),(3,.q),(4,.q),(5,.q),(6,.q),(7,.c),(8,.q),(9,.t)] yA nX zor nX (λr hr=>hr) (go3 ?_);refine wX I (xB yD (Pc.ty pH) O) λba am=>(go2 ?_);refine wX I (xB yD (Pc.ty pH) ad) λax ai=>?_;refine w_c I (sC (ev2 I I) call45 (λw hs=>rV hs am ai oM) λZ h2 bj D=>?_)
 change (rpQ ((k+l+1)+l+1)).Is h2 Z (a.y+b.y) at D
 replace D:=Rp.Is.le D (Le.q (l:=k+2*l+2) oM);refine go1 ?_;have ap:=(Le.t (Le.q (l:=k+2*l+2) oM)).R O;refine yK (A:=[_,_]) I (uB sizeOf29 (Pc.ty pH) ap D) λbg M=>(go5 ?_);refine gv ((zQ (q:=1) I I oM oM).cv (show _=vI (2) from I)) I (go2 ?_);refine wI (go4 ?_);refine gv (OpV.tr dC (yJ (q:=3) I I)) I (go7 ?_);refine zJ 9 _ [] [(0,.q),(1,.q),(2,.q),(3,.q),(4,.q),(5,.q),(6,.q),(7,.c),(8,.q),(9,.t)] yA nX zor nX (λr hr=>hr) (go3 ?_);refine wX I (xB yD (Pc.tz pH) M) λaz ak=>(go2 ?_);refine wX I (xB yD (Pc.tz pH) ad) λaw ah=>?_;refine w_c I (sC (ev2 I I) call45 (λw hs=>rV hs ak ah oM) λU h3 bi C=>?_)
 change (rpQ ((k+2*l+2)+l+1)).Is h3 U (a.z+b.z) at C
 replace C:=Rp.Is.le C (Le.q (l:=k+3*l+3) oM);refine go1 ?_;have ao:=(Le.t (Le.q (l:=k+3*l+3) oM)).R M;refine yK (A:=[_,_]) I (uB sizeOf29 (Pc.tz pH) ao C) λbf ar=>(go5 ?_);refine gv ((zQ (q:=1) I I oM oM).cv (show _=vI (3) from I)) I (go2 ?_);refine wI (go4 ?_);refine gv (OpV.fa dC (yJ (q:=3) I I)) I (uK ?_);refine lX (xB zL pH ar) λav ae=>(yI (A:=[]) (uB sizeOf31 pH bc ae) λbd ac=>(go3 ?_));refine uJ (fV (t:=4) zL mh0 I ac) ?_;intro be J ab;refine yW (λE S=>yE I J E S) ?_;exact ab
theorem zL7{k l:Nat}{va:Value}{a:Tq}(ra:(tPt k).Is h0 va a){vb:Value}{b:Tq}(rb:(tPt l).Is h0 vb b)(hcd0:k+l<=1000000000):
 Calls Tryz.prog 22 #[va,vb] w0 (Ret w0 h0 (λh r=>(tPt (k+3*l+3)).Is h r (T3.mk (a.x-b.x) (a.y-b.y) (a.z-b.z)))):=by
 refine cb2 20 va vb func22 hs ?_;refine go2 ?_;refine nB ra λb2 bn au=>(nB rb λb3 bm aj=>(nA (ρ:=(tPt (k+3*l+3))) (X:=zT) yU (xW (yN oM)) λb4 bl bc=>(go9 ?_)));refine fL (go4 ?_);refine gv (OpV.tr dC (yJ (q:=3) I I)) I (go7 ?_);refine zJ 9 _ [] [(0,.q),(1,.q),(2,.q),(3,.q),(4,.q),(5,.q),(6,.q),(7,.c),(8,.q),(9,.t)] yA nX zor nX (λr hr=>hr) (go3 ?_);refine wX I (xB yD (Pc.tx pH) au) λbb ar=>(go2 ?_);refine wX I (xB yD (Pc.tx pH) aj) λay ao=>?_;refine w_c I (sC (ev2 I I) call55 (λw hs=>fY hs ar ao oM) λaa h1 bk M=>?_)
 change (rpQ (k+l+1)).Is h1 aa (a.x-b.x) at M
 refine go1 ?_;have ad:=(Le.t (Le.q (l:=k+l+1) oM)).R au;refine yK (A:=[_,_]) I (uB sizeOf29 (Pc.tx pH) ad M) λbg J=>(go5 ?_);refine gv ((zQ (q:=1) I I oM oM).cv (show _=vI (1) from I)) I (go2 ?_);refine wI (go4 ?_);refine gv (OpV.tr dC (yJ (q:=3) I I)) I (go7 ?_);refine zJ 9 _ [] [(0,.q),(1,.q),(2,.q),(3,.q),(4,.q),(5,.q),(6,.q),(7,.c),(8,.q),(9,.t)] yA nX zor nX (λr hr=>hr) (go3 ?_);refine wX I (xB yD (Pc.ty pH) J) λba aq=>(go2 ?_);refine wX I (xB yD (Pc.ty pH) aj) λax an=>?_;refine w_c I (sC (ev2 I I) call55 (λw hs=>fY hs aq an oM) λZ h2 bj D=>?_)
 change (rpQ ((k+l+1)+l+1)).Is h2 Z (a.y-b.y) at D
 replace D:=Rp.Is.le D (Le.q (l:=k+2*l+2) oM);refine go1 ?_;have ac:=(Le.t (Le.q (l:=k+2*l+2) oM)).R J;refine yK (A:=[_,_]) I (uB sizeOf29 (Pc.ty pH) ac D) λbf H=>(go5 ?_);refine gv ((zQ (q:=1) I I oM oM).cv (show _=vI (2) from I)) I (go2 ?_);refine wI (go4 ?_);refine gv (OpV.tr dC (yJ (q:=3) I I)) I (go7 ?_);refine zJ 9 _ [] [(0,.q),(1,.q),(2,.q),(3,.q),(4,.q),(5,.q),(6,.q),(7,.c),(8,.q),(9,.t)] yA nX zor nX (λr hr=>hr) (go3 ?_);refine wX I (xB yD (Pc.tz pH) H) λaz ap=>(go2 ?_);refine wX I (xB yD (Pc.tz pH) aj) λaw am=>?_;refine w_c I (sC (ev2 I I) call55 (λw hs=>fY hs ap am oM) λU h3 bi C=>?_)
 change (rpQ ((k+2*l+2)+l+1)).Is h3 U (a.z-b.z) at C
 replace C:=Rp.Is.le C (Le.q (l:=k+3*l+3) oM);refine go1 ?_;have ab:=(Le.t (Le.q (l:=k+3*l+3) oM)).R H;refine yK (A:=[_,_]) I (uB sizeOf29 (Pc.tz pH) ab C) λbe ai=>(go5 ?_);refine gv ((zQ (q:=1) I I oM oM).cv (show _=vI (3) from I)) I (go2 ?_);refine wI (go4 ?_);refine gv (OpV.fa dC (yJ (q:=3) I I)) I (uK ?_);refine lX (xB zL pH ai) λav ak=>(yI (A:=[]) (uB sizeOf31 pH bc ak) λbd ah=>(go3 ?_));refine uJ (fV (t:=4) zL mh0 I ah) ?_;intro bh O ae;refine yW (λE S=>yE I O E S) ?_;exact ae
theorem zFI{l k:Nat}{vq:Value}{q:Rat}(rq:(rpQ l).Is h0 vq q){va:Value}{a:Tq}(ra:(tPt k).Is h0 va a)(hcd0:k+l<=1000000000):
 Calls Tryz.prog 20 #[vq,va] w0 (Ret w0 h0 (λh r=>(tPt (k+3*l+1)).Is h r (T3.mk (q*a.x) (q*a.y) (q*a.z)))):=by
 refine cb2 18 vq va func20 hs ?_;refine go2 ?_;refine nB rq λb2 bn ap=>(nB ra λb3 bm au=>(nA (ρ:=(tPt (k+3*l+1))) (X:=zT) yU (xW (yN oM)) λb4 bl bc=>(go9 ?_)));refine fL (go4 ?_);refine gv (OpV.tr dC (yJ (q:=3) I I)) I (go7 ?_);refine zJ 7 _ [] [(0,.q),(1,.q),(2,.q),(3,.q),(4,.q),(5,.c),(6,.q),(7,.t)] yA nX zor nX (λr hr=>hr) (go1 ?_);refine wX I (xB yD pH ap) λbb ar=>(go2 ?_);refine wX I (xB yD (Pc.tx pH) au) λba aq=>?_;refine w_c I (sC (ev2 I I) call53 (λw hs=>qT hs ar aq oM) λah h1 bk H=>?_)
 change (rpQ (l+k)).Is h1 ah (q*a.x) at H
 replace H:=Rp.Is.le H (Le.q (l:=k+l) oM);refine go1 ?_;have ak:=(Le.t (Le.q (l:=k+l) oM)).R au;refine yK (A:=[_]) I (uB sizeOf29 (Pc.tx pH) ak H) λbg M=>(go5 ?_);refine gv ((zQ (q:=1) I I oM oM).cv (show _=vI (1) from I)) I (go2 ?_);refine wI (go4 ?_);refine gv (OpV.tr dC (yJ (q:=3) I I)) I (go7 ?_);refine zJ 7 _ [] [(0,.q),(1,.q),(2,.q),(3,.q),(4,.q),(5,.c),(6,.q),(7,.t)] yA nX zor nX (λr hr=>hr) (go1 ?_);refine wX I (xB yD pH ap) λaz ad=>(go2 ?_);refine wX I (xB yD (Pc.ty pH) M) λax ab=>?_;refine w_c I (sC (ev2 I I) call53 (λw hs=>qT hs ad ab oM) λU h2 bj D=>?_)
 change (rpQ (l+(k+l))).Is h2 U (q*a.y) at D
 replace D:=Rp.Is.le D (Le.q (l:=k+2*l) oM);refine go1 ?_;have aj:=(Le.t (Le.q (l:=k+2*l) oM)).R M;refine yK (A:=[_]) I (uB sizeOf29 (Pc.ty pH) aj D) λbf J=>(go5 ?_);refine gv ((zQ (q:=1) I I oM oM).cv (show _=vI (2) from I)) I (go2 ?_);refine wI (go4 ?_);refine gv (OpV.tr dC (yJ (q:=3) I I)) I (go7 ?_);refine zJ 7 _ [] [(0,.q),(1,.q),(2,.q),(3,.q),(4,.q),(5,.c),(6,.q),(7,.t)] yA nX zor nX (λr hr=>hr) (go1 ?_);refine wX I (xB yD pH ap) λay ac=>(go2 ?_);refine wX I (xB yD (Pc.tz pH) J) λaw aa=>?_;refine w_c I (sC (ev2 I I) call53 (λw hs=>qT hs ac aa oM) λO h3 bi C=>?_)
 change (rpQ (l+(k+2*l))).Is h3 O (q*a.z) at C
 replace C:=Rp.Is.le C (Le.q (l:=k+3*l) oM);refine go1 ?_;have ai:=(Le.t (Le.q (l:=k+3*l) oM)).R J;refine yK (A:=[_]) I (uB sizeOf29 (Pc.tz pH) ai C) λbe ao=>(go5 ?_);refine gv ((zQ (q:=1) I I oM oM).cv (show _=vI (3) from I)) I (go2 ?_);refine wI (go4 ?_);refine gv (OpV.fa dC (yJ (q:=3) I I)) I (uK ?_);refine lX (xB zL pH ao) λav Z=>(yI (A:=[]) (uB sizeOf31 pH bc (Z.le (Le.t (Le.q (l:=k+3*l+1) oM)))) λbd an=>(go3 ?_));refine uJ (fV (t:=4) zL mh0 I an) ?_;intro bh ae am;refine yW (λE S=>yE I ae E S) ?_;exact am
theorem tY{x:Int}(hx1:-9223372036854775808<=x)(hx2:x<9223372036854775808){y:Int}(hy1:-9223372036854775808<=y)(hy2:y<9223372036854775808){z:Int}(hz1:-9223372036854775808<=z)(hz2:z<9223372036854775808):
 Calls Tryz.prog 12 #[vI x,vI y,vI z] w0 (Ret w0 h0 (λh r=>(tPt 2).Is h r (T3.mk ((x:Int):Rat) ((y:Int):Rat) ((z:Int):Rat)))):=by
 refine cb3 14 (vI x) (vI y) (vI z) func12 hs ?_;refine go2 ?_;refine nA (ρ:=(tPt 1)) (X:=zT) yU (xW (yN dC)) λb6 ak M=>(go5 ?_);refine cL (ev1 I) call27 (λw hs=>rU hs oM oM) λv8 h1 aj r8=>(go1 ?_);refine cL (ev1 I) call27 (λw hs=>rU hs oM oM) λae h2 ai Z=>(go1 ?_);refine cL (ev1 I) call27 (λw hs=>rU hs oM oM) λad h3 ah U=>(lX (xV (ρ:=(tPt 2)) (wJ (ps':=[(0,_),(1,_),(2,_)]) underlying31 yU I I sizeOf29 e6z I (xW (yN dC)) (zG I (Pc.tx (Pc.here _)) r8.up (zG I (Pc.ty (Pc.here _)) Z.up (zG I (Pc.tz (Pc.here _)) U zR))))) λac O=>?_);have D:=(Le.t (Le.q (l:=2) dC)).R M;refine yI (A:=[]) (uB sizeOf31 pH D O) λaa J=>(go3 ?_);refine uJ (fV (t:=6) zL mh0 I J) ?_;intro ab C H;refine yW (λE S=>yE I C E S) ?_;exact H
end
end Go.Proofs.YtpkaegemlpaenaaGreat
namespace Bk
open Go Go.RowKit
open Classical
abbrev Pl:=Pt×Rat
theorem fU{x:Rat}:yV x=1↔0<x:=by
 have h2:=xG x;rw[<-aF];omega
theorem gE{x:Rat}:yV x= -1↔x<0:=by
 have h2:=xG x;rw[<-qZ];omega
theorem qS{a b:Pt}:a=b↔a.x=b.x/\a.y=b.y/\a.z=b.z:=by cases a;cases b;exact T3.mk.injEq ..▸Iff.rfl
noncomputable def axI(n:Pt):Nat:=if 0<n.z then 0 else if n.z<0 then 1 else if 0<n.y then 2 else if n.y<0 then 0 else if 0<n.x then 1 else if n.x<0 then 2 else 1
noncomputable def axJ(n:Pt):Nat:=if 0<n.z then 1 else if n.z<0 then 0 else if 0<n.y then 0 else if n.y<0 then 2 else if 0<n.x then 2 else if n.x<0 then 1 else 2
noncomputable def axK(n:Pt):Nat:=if n.z≠0 then 2 else if n.y≠0 then 1 else 0
theorem zBN(n:Pt):(0<n.z/\axI n=0/\axJ n=1/\axK n=2)\/(n.z<0/\axI n=1/\axJ n=0/\axK n=2)\/(n.z=0/\0<n.y/\axI n=2/\axJ n=0/\axK n=1)\/(n.z=0/\n.y<0/\axI n=0/\axJ n=2/\axK n=1)\/
 (n.z=0/\n.y=0/\0<n.x/\axI n=1/\axJ n=2/\axK n=0)\/(n.z=0/\n.y=0/\n.x<0/\axI n=2/\axJ n=1/\axK n=0)\/(n.z=0/\n.y=0/\n.x=0/\axI n=1/\axJ n=2/\axK n=0):=by
 have C:∀a:Rat,0<a\/(a<0/\¬0<a)\/(a=0/\¬0<a/\¬a<0):=λa=>by grind
 unfold axI axJ axK
 rcases C n.z with h|⟨h,h'⟩|⟨h,h',h''⟩
 · left;simp only[if_pos h,if_pos (show n.z≠0 by grind)];exact⟨h,trivial,trivial,trivial⟩
 · right;left;simp only[if_neg h',if_pos h,if_pos (show n.z≠0 by grind)];exact⟨h,trivial,trivial,trivial⟩
 · simp only[if_neg h',if_neg h'',if_neg (show ¬n.z≠0 by grind)]
   rcases C n.y with k|⟨k,k'⟩|⟨k,k',k''⟩
   · right;right;left;simp only[if_pos k,if_pos (show n.y≠0 by grind)];exact⟨h,k,trivial,trivial,trivial⟩
   · right;right;right;left;simp only[if_neg k',if_pos k,if_pos (show n.y≠0 by grind)];exact⟨h,k,trivial,trivial,trivial⟩
   · simp only[if_neg k',if_neg k'',if_neg (show ¬n.y≠0 by grind)]
     rcases C n.x with l|⟨l,l'⟩|⟨l,l',l''⟩
     · right;right;right;right;left;simp only[if_pos l];exact⟨h,k,l,trivial,trivial,trivial⟩
     · right;right;right;right;right;left;simp only[if_neg l',if_pos l];exact⟨h,k,l,trivial,trivial,trivial⟩
     · right;right;right;right;right;right;simp only[if_neg l',if_neg l''];exact⟨h,k,l,trivial,trivial,trivial⟩
theorem zCW(n:Pt):axI n+axJ n<=3/\axI n<3/\axJ n<3/\axK n=3-axI n-axJ n:=by
 rcases zBN n with h|h|h|h|h|h|h<;>omega
theorem zZZ(n:Pt):axI n<3:=(zCW n).2.1
theorem zZY(n:Pt):axJ n<3:=(zCW n).2.2.1
theorem zR7(n:Pt):n.at (axK n)=0↔n=T3.mk (0:Rat) 0 0:=by
 obtain⟨x,y,z⟩:=n;rw[T3.mk.injEq]
 rcases zBN ⟨x,y,z⟩ with h|h|h|h|h|h|h<;>simp only at h<;>obtain⟨h,h1⟩:=h
 all_goals first|rw[h1.2.2]|rw[h1.2.2.2]|rw[h1.2.2.2.2]
 all_goals simp only[T3.at]
 all_goals grind
noncomputable def uW(pl:Pl)(p:Pt):Pt:=T3.mk (p.at (axI pl.1)) (p.at (axJ pl.1)) (0:Rat)
noncomputable def zX0(pl:Pl)(q:Pt):Rat:=if pl.1.at (axK pl.1)=0 then 0 else(pl.2-(pl.1.at (axI pl.1)*q.x+pl.1.at (axJ pl.1)*q.y))/pl.1.at (axK pl.1)
noncomputable def y4(pl:Pl)(q:Pt):Pt:=if pl.1.at (axK pl.1)=0 then T3.mk (0:Rat) 0 0 else(((T3.mk (0:Rat) 0 0).set (axI pl.1) q.x).set (axJ pl.1) q.y).set (axK pl.1) (zX0 pl q)
def zE(a b:Pt):Rat:=a.x*b.x+a.y*b.y+a.z*b.z
def zY(a b:Pt):Pt:=T3.mk (a.y*b.z-a.z*b.y) (a.z*b.x-a.x*b.z) (a.x*b.y-a.y*b.x)
def yO(a b:Pt):Pt:=T3.mk (a.x-b.x) (a.y-b.y) (a.z-b.z)
theorem yEH(a b c:Pt):uP [a,b,c] 0 1 3=(b.x-a.x)*(c.y-a.y)-(b.y-a.y)*(c.x-a.x):=by
 simp[uP,gp,T3.at];grind
theorem zHJ{ni nj nk d ai aj ak bi bj bk ci cj ck:Rat}(ha:nk*ak=d-(ni*ai+nj*aj))(hb:nk*bk=d-(ni*bi+nj*bj))(hc:nk*ck=d-(ni*ci+nj*cj)):
 nk*(((bj-aj)*(ck-ak)-(bk-ak)*(cj-aj))*ni+((bk-ak)*(ci-ai)-(bi-ai)*(ck-ak))*nj+((bi-ai)*(cj-aj)-(bj-aj)*(ci-ai))*nk)=(ni*ni+nj*nj+nk*nk)*((bi-ai)*(cj-aj)-(bj-aj)*(ci-ai)):=by
 grind
theorem zLC(a:Rat):xS a 0=yV a:=by rw[zGN,show a-0=a by grind]
theorem iA{c:Rat}(hc:0<c)(x:Rat):yV (c*x)=yV x:=by
 have h:=zZH x 0 c;rw[Rat.zero_mul,zLC,zLC,fU.2 hc,Int.mul_one,Rat.mul_comm] at h;exact h
theorem zHQ{c e x y:Rat}(hc:0<c)(he:0<e)(h:c*x=e*y):yV x=yV y:=by
 rw[<-iA hc x,<-iA he y,h]
theorem zVJ{i j k:Rat}(hk:k≠0):0<i*i+j*j+k*k:=by
 have h1:0<=i*i:=by rcases @Rat.le_total 0 i with h|h;exact zod h h;have:=zod (a:=-i) (b:=-i) zow zow;grind
 have h2:0<=j*j:=by rcases @Rat.le_total 0 j with h|h;exact zod h h;have:=zod (a:=-j) (b:=-j) zow zow;grind
 have h3:0<k*k:=by
  rcases @Rat.le_total 0 k with h|h
  · exact Rat.mul_pos zow zow
  · have:=Rat.mul_pos (a:=-k) (b:=-k) zow zow;grind
 grind
theorem zD3{n d m q:Rat}(h:¬n=0):n*((d-m)/n)=d-m:=by
 rw[Rat.mul_comm,Rat.div_mul_cancel h]
theorem zEE{ni nj nk d ai aj ak bi bj bk ci cj ck:Rat}(hk:0<nk)(ha:nk*ak=d-(ni*ai+nj*aj))(hb:nk*bk=d-(ni*bi+nj*bj))(hc:nk*ck=d-(ni*ci+nj*cj)){X:Rat}
    (hX:X=((bj-aj)*(ck-ak)-(bk-ak)*(cj-aj))*ni+((bk-ak)*(ci-ai)-(bi-ai)*(ck-ak))*nj+((bi-ai)*(cj-aj)-(bj-aj)*(ci-ai))*nk):
    yV ((bi-ai)*(cj-aj)-(bj-aj)*(ci-ai))=yV X:=by
 rw[hX];exact(zHQ hk (zVJ zow) (zHJ ha hb hc)).symm
theorem zEF{ni nj nk d ai aj ak bi bj bk ci cj ck:Rat}(hk:nk<0)(ha:nk*ak=d-(ni*ai+nj*aj))(hb:nk*bk=d-(ni*bi+nj*bj))(hc:nk*ck=d-(ni*ci+nj*cj)){X:Rat}
    (hX:X= -(((bj-aj)*(ck-ak)-(bk-ak)*(cj-aj))*ni+((bk-ak)*(ci-ai)-(bi-ai)*(ck-ak))*nj+((bi-ai)*(cj-aj)-(bj-aj)*(ci-ai))*nk)):
    yV ((bi-ai)*(cj-aj)-(bj-aj)*(ci-ai))=yV X:=by
 refine(zHQ (c:=-nk) zow (zVJ (i:=ni) (j:=nj) (k:=nk) zow) ?_).symm;rw[hX,<-zHJ ha hb hc];grind
theorem zU6(pl:Pl)(p q r:Pt)(h:¬pl.1.at (axK pl.1)=0):
 yV (uP [uW pl (y4 pl p),uW pl (y4 pl q),uW pl (y4 pl r)] 0 1 3)=yV (zE (zY (yO (y4 pl q) (y4 pl p)) (yO (y4 pl r) (y4 pl p))) pl.1):=by
 rw[yEH];have O:=zD3 (d:=pl.2) (m:=pl.1.at (axI pl.1)*p.x+pl.1.at (axJ pl.1)*p.y) (q:=0) h;have M:=zD3 (d:=pl.2) (m:=pl.1.at (axI pl.1)*q.x+pl.1.at (axJ pl.1)*q.y) (q:=0) h;have J:=zD3 (d:=pl.2) (m:=pl.1.at (axI pl.1)*r.x+pl.1.at (axJ pl.1)*r.y) (q:=0) h;unfold y4 zX0 uW;rw[if_neg h,if_neg h,if_neg h,if_neg h,if_neg h,if_neg h];generalize (pl.2-(pl.1.at (axI pl.1)*p.x+pl.1.at (axJ pl.1)*p.y))/pl.1.at (axK pl.1)=u at *;generalize (pl.2-(pl.1.at (axI pl.1)*q.x+pl.1.at (axJ pl.1)*q.y))/pl.1.at (axK pl.1)=v at *;generalize (pl.2-(pl.1.at (axI pl.1)*r.x+pl.1.at (axJ pl.1)*r.y))/pl.1.at (axK pl.1)=w at *;obtain⟨⟨x,y,z⟩,d⟩:=pl;obtain⟨p1,p2,p3⟩:=p;obtain⟨q1,Z,U⟩:=q;obtain⟨r1,r2,r3⟩:=r
 rcases zBN ⟨x,y,z⟩ with e|e|e|e|e|e|e
 · obtain⟨hs,H,D,C⟩:=e
   simp only[H,D,C,T3.at,T3.set,zE,zY,yO] at *;exact zEE hs O M J zow
 · obtain⟨hs,H,D,C⟩:=e
   simp only[H,D,C,T3.at,T3.set,zE,zY,yO] at *;exact zEF hs O M J zow
 · obtain⟨h1,hs,H,D,C⟩:=e
   simp only[H,D,C,T3.at,T3.set,zE,zY,yO] at *;exact zEE hs O M J zow
 · obtain⟨h1,hs,H,D,C⟩:=e
   simp only[H,D,C,T3.at,T3.set,zE,zY,yO] at *;exact zEF hs O M J zow
 · obtain⟨h1,h2,hs,H,D,C⟩:=e
   simp only[H,D,C,T3.at,T3.set,zE,zY,yO] at *;exact zEE hs O M J zow
 · obtain⟨h1,h2,hs,H,D,C⟩:=e
   simp only[H,D,C,T3.at,T3.set,zE,zY,yO] at *;exact zEF hs O M J zow
 · obtain⟨h1,h2,h3,H,D,C⟩:=e
   rw[C] at h;exact absurd h3 h
theorem zR8(n:Pt):(axI n=0/\axJ n=1/\axK n=2)\/(axI n=1/\axJ n=0/\axK n=2)\/(axI n=2/\axJ n=0/\axK n=1)\/(axI n=0/\axJ n=2/\axK n=1)\/(axI n=1/\axJ n=2/\axK n=0)\/(axI n=2/\axJ n=1/\axK n=0):=by
 rcases zBN n with h|h|h|h|h|h|h<;>omega
theorem zCE{s:Pl}{p:Pt}(h:¬s.1.at (axK s.1)=0)(hs:yV (zE s.1 p-s.2)=0):y4 s (uW s p)=p:=by
 rw[uF] at hs;have C:=zD3 (d:=s.2) (m:=s.1.at (axI s.1)*p.at (axI s.1)+s.1.at (axJ s.1)*p.at (axJ s.1)) (q:=0) h;unfold y4 zX0 uW;rw[if_neg h,if_neg h];simp only;generalize (s.2-(s.1.at (axI s.1)*p.at (axI s.1)+s.1.at (axJ s.1)*p.at (axJ s.1)))/s.1.at (axK s.1)=u at *;obtain⟨⟨x,y,z⟩,d⟩:=s;obtain⟨a,b,c⟩:=p;have hz:∀{n u v:Rat},¬n=0->n*u=n*v->u=v:=λ{n u v} h e=>by
  have h1:n*(u-v)=0:=by grind
  rcases zoe.1 h1 with h2|h2
  · exact absurd h2 h
  · grind
 rcases zR8 ⟨x,y,z⟩ with⟨e1,e2,e3⟩|⟨e1,e2,e3⟩|⟨e1,e2,e3⟩|⟨e1,e2,e3⟩|⟨e1,e2,e3⟩|⟨e1,e2,e3⟩<;>simp only[e1,e2,e3,T3.at,T3.set,zE] at *<;>rw[T3.mk.injEq]<;>simp only[true_and,and_true]<;>exact hz h zow
end Bk
namespace Bk
open Classical
def i3(x y z:Int):Pt:=T3.mk ((x:Int):Rat) ((y:Int):Rat) ((z:Int):Rat)
abbrev bdI(z:Int)(n:Nat):Prop:=z.natAbs<=n
def smN(e:Pl):Prop:=∃a b c d:Int,(bdI a 2/\bdI b 2/\bdI c 2/\bdI d 30)/\e=(i3 a b c,(d:Rat)/2)
def zYS(q:Rat)(n:Nat):Prop:=∃z:Int,bdI z n/\q=(z:Rat)/2
def spP(p:Pt):Prop:=zYS p.x 9/\zYS p.y 9/\zYS p.z 9
abbrev rows7:List (T3 Int):=[T3.mk 1 0 0,T3.mk 0 1 0,T3.mk 0 0 1,T3.mk 1 1 0,T3.mk (-1) 0 0,T3.mk 1 (-1) 2,T3.mk 0 2 1]
end Bk
namespace Go.Proofs.YtpkaegemlpaenaaGreat
open Bk Go Tryz
set_option maxRecDepth 10000
set_option maxHeartbeats 1000000
attribute [local irreducible] GL GC GQ W OpV
section
variable{w0:World}{h0:Mem}(hs:MLe h0 (mem w0))
include hs
theorem zTU{k:Nat}{vn:Value}{n:Tq}(rn:(tPt k).Is h0 vn n)(hcd0:k<=1000000000):
 Calls Tryz.prog 106 #[vn] w0 (Ret w0 h0 (λh r=>r=.tuple #[vI (↑(axI n):Int),vI (↑(axJ n):Int)])):=by
 refine cb1 29 vn func106 hs ?_;refine go2 ?_;refine nB rn λb1 au Z=>(qI ?_);refine fL (go4 ?_);refine gv (OpV.tr dC (sZ (q:=0) I I)) I (uK ?_);refine gv ((zQ (q:=1) I I oM oM).cv (show _=vI (3) from I)) I (gv ((wF (q:=3) I I oM oM).cv (show _=vI (0) from I)) I (go1 ?_));refine gv ((zQ (q:=2) I I oM oM).cv (show _=vI (4) from I)) I (gv ((wF (q:=3) I I oM oM).cv (show _=vI (1) from I)) I (go8 ?_));refine lX (xB yD (Pc.tz pH) Z) λao ah=>(cL (ev1 I) call122 (λw hs=>rW hs ah oM) λU h1 ar ac=>?_);obtain rfl:U=vI (yV n.z):=ac;have ak:=xG n.z;refine gc9 (λD=>?_) λD=>?_
 ·
  refine pP ?_;refine wL I I I ?_;have J:axI n=0:=by unfold axI;simp only[fU,gE] at *;grind
  have H:axJ n=1:=by unfold axJ;simp only[fU,gE] at *;grind
  rw[J,H];rfl
 refine gc6 (λC=>?_) λC=>?_
 ·
  refine pP ?_;refine wL I I I ?_;have J:axI n=1:=by unfold axI;simp only[fU,gE] at *;grind
  have H:axJ n=0:=by unfold axJ;simp only[fU,gE] at *;grind
  rw[J,H];rfl
 refine go6 ?_;refine gv ((qX (q:=1) I I oM oM).cv (show _=vI (1) from I)) I (go2 ?_);refine wI (go4 ?_);refine gv (OpV.tr dC (sZ (q:=0) I I)) I (uK ?_);refine gv ((zQ (q:=1) I I oM oM).cv (show _=vI (2) from I)) I (gv ((wF (q:=3) I I oM oM).cv (show _=vI (2) from I)) I (go1 ?_));refine gv ((zQ (q:=2) I I oM oM).cv (show _=vI (3) from I)) I (gv ((wF (q:=3) I I oM oM).cv (show _=vI (0) from I)) I (go8 ?_));refine lX (xB yD (Pc.ty pH) Z) λan ae=>(cL (ev1 I) call122 (λw hs=>rW hs ae oM) λO h2 aq ab=>?_);obtain rfl:O=vI (yV n.y):=ab;have aj:=xG n.y;refine gc9 (λD=>?_) λD=>?_
 ·
  refine pP ?_;refine wL I I I ?_;have J:axI n=2:=by unfold axI;simp only[fU,gE] at *;grind
  have H:axJ n=0:=by unfold axJ;simp only[fU,gE] at *;grind
  rw[J,H];rfl
 refine gc6 (λC=>?_) λC=>?_
 ·
  refine pP ?_;refine wL I I I ?_;have J:axI n=0:=by unfold axI;simp only[fU,gE] at *;grind
  have H:axJ n=2:=by unfold axJ;simp only[fU,gE] at *;grind
  rw[J,H];rfl
 refine go6 ?_;refine gv ((qX (q:=1) I I oM oM).cv (show _=vI (0) from I)) I (go2 ?_);refine wI (go4 ?_);refine gv (OpV.tr dC (sZ (q:=0) I I)) I (uK ?_);refine gv ((zQ (q:=1) I I oM oM).cv (show _=vI (1) from I)) I (gv ((wF (q:=3) I I oM oM).cv (show _=vI (1) from I)) I (go1 ?_));refine gv ((zQ (q:=2) I I oM oM).cv (show _=vI (2) from I)) I (gv ((wF (q:=3) I I oM oM).cv (show _=vI (2) from I)) I (go8 ?_));refine lX (xB yD (Pc.tx pH) Z) λam ad=>(cL (ev1 I) call122 (λw hs=>rW hs ad oM) λM h3 ap aa=>?_);obtain rfl:M=vI (yV n.x):=aa;have ai:=xG n.x;refine gc9 (λD=>?_) λD=>?_
 ·
  refine pP ?_;refine wL I I I ?_;have J:axI n=1:=by unfold axI;simp only[fU,gE] at *;grind
  have H:axJ n=2:=by unfold axJ;simp only[fU,gE] at *;grind
  rw[J,H];rfl
 refine gc6 (λC=>?_) λC=>?_
 ·
  refine pP ?_;refine wL I I I ?_;have J:axI n=2:=by unfold axI;simp only[fU,gE] at *;grind
  have H:axJ n=1:=by unfold axJ;simp only[fU,gE] at *;grind
  rw[J,H];rfl
 refine go6 ?_;refine gv ((qX (q:=1) I I oM oM).cv (show _=vI (-1) from I)) I (go2 ?_);refine wI (go4 ?_);refine gv (OpV.fa dC (sZ (q:=0) I I)) I (pP ?_);refine wL I I I ?_;have J:axI n=1:=by unfold axI;simp only[fU,gE] at *;grind
 have H:axJ n=2:=by unfold axJ;simp only[fU,gE] at *;grind
 rw[J,H];rfl
theorem zH1{k l:Nat}{va:Value}{a:Tq}(ra:(tPt k).Is h0 va a){vb:Value}{b:Tq}(rb:(tPt l).Is h0 vb b)(hcd0:k+l<=1000000000):
 Calls Tryz.prog 35 #[va,vb] w0 (Ret w0 h0 (λ_ r=>r=vB (a=b))):=by
 refine cb2 24 va vb func35 hs ?_;refine go2 ?_;refine nB ra λb2 ab J=>(nB rb λb3 aa H=>(go6 ?_));refine lX (xB yD (Pc.tx pH) J) λv6 r6=>(go1 ?_);refine lX (xB yD (Pc.tx pH) H) λv8 r8=>(cL (ev2 I I) call73 (λw hs=>tX hs r6 r8 oM) λv9 h1 au r9=>?_);obtain rfl:v9=vB (a.x=b.x):=r9;refine uY (ι:=Mem) 7 (λM=>MLe h1 M) (λ_=>[(16,vB ((a.x=b.x)/\(a.y=b.y))),(2,vP b2 0),(3,vP b3 0)]) (λ_=>[.var b3 31 aa,.var b2 31 ab]) (λM=>M) ?_ ?_
 ·
  refine zW (a.x=b.x) (λD=>?_) (λD=>?_)
  ·
   refine gT D I (go3 ?_);refine lX (xB yD (Pc.ty pH) J) λar an=>(go3 ?_);refine lX (xB yD (Pc.ty pH) H) λaq am=>(go1 ?_);refine cL (ev2 I I) call73 (λw hs=>tX hs an am oM) λae h2 O ak=>?_;obtain rfl:ae=vB (a.y=b.y):=ak;refine go2 ?_;refine zS h2 O ⟨?_,I,I,trivial⟩ I I;exact congrArg some (xH D)
  refine gF D I (go7 ?_);refine zS h1 (MLe.refl _) ⟨?_,I,I,trivial⟩ I I;exact congrArg some (xJ D)
 intro C Z;refine tZ ?_;refine uY (ι:=Mem) 7 (λM=>MLe C M) (λ_=>[(23,vB (((a.x=b.x)/\(a.y=b.y))/\(a.z=b.z)))]) (λ_=>[.var b3 31 aa,.var b2 31 ab]) (λM=>M) ?_ ?_
 ·
  refine zW ((a.x=b.x)/\(a.y=b.y)) (λD=>?_) (λD=>?_)
  ·
   refine gT D I (go3 ?_);refine lX (xB yD (Pc.tz pH) J) λap aj=>(go3 ?_);refine lX (xB yD (Pc.tz pH) H) λao ai=>(go1 ?_);refine cL (ev2 I I) call73 (λw hs=>tX hs aj ai oM) λad h2 O ah=>?_;obtain rfl:ad=vB (a.z=b.z):=ah;refine go2 ?_;refine zS h2 O ⟨?_,trivial⟩ I I;exact congrArg some (xH D)
  refine gF D I (go7 ?_);refine zS C (MLe.refl _) ⟨?_,trivial⟩ I I;exact congrArg some (xJ D)
 intro ac U;refine tZ ?_;refine go4 ?_;refine zC I I ?_
 first|exact kD (by rw[qS];grind)|exact(xT (by rw[qS];grind)).symm|exact(yM (by rw[qS];grind)).symm
theorem zB7{k:Nat}{va:Value}{a:Tq}(ra:(tPt k).Is h0 va a)(hcd0:k<=1000000):
 Calls Tryz.prog 80 #[va] w0 (Ret w0 h0 (λ_ r=>r=vB (a=zT))):=by
 refine cb1 6 va func80 hs ?_;refine go2 ?_;refine nB ra λO M C=>(go5 ?_);refine lX (xB zL pH C) λv3 r3=>(lX (xV (ρ:=(tPt 1)) (wJ (ps':=[]) underlying31 yU I I sizeOf29 trivial I (xW (yN dC)) zR)) λv4 r4=>(cL (ev2 I I) call35 (λw hs=>zH1 hs r3 r4 oM) λD h1 J H=>?_));obtain rfl:D=vB (a=zT):=H;refine go4 ?_;refine zC I I ?_
 rfl
theorem lF{k l:Nat}{va:Value}{a:Tq}(ra:(tPt k).Is h0 va a){vb:Value}{b:Tq}(rb:(tPt l).Is h0 vb b)(hcd0:k+l<=1000000000):
 Calls Tryz.prog 56 #[va,vb] w0 (Ret w0 h0 (λh r=>(rpQ (3*k+3*l+9)).Is h r (zE a b))):=by
 refine cb2 21 va vb func56 hs ?_;refine go2 ?_;refine nB ra λb2 cf an=>(nB rb λb3 ce am=>(nA (ρ:=(rpQ (3*k+3*l+9))) (X:=(0:Rat)) wB (yN oM) λb4 cd bp=>(go4 ?_)));refine nA (ρ:=(rpQ 1)) (X:=(0:Rat)) wB (yN dC) λb5 cc be=>(go9 ?_);refine fL (go4 ?_);refine gv (OpV.tr dC (yJ (q:=3) I I)) I (go7 ?_);refine zJ 9 _ [] [(0,.q),(1,.q),(2,.q),(3,.q),(4,.q),(5,.q),(6,.q),(7,.c),(8,.c),(9,.t)] yA nX zor nX (λr hr=>hr) (wX I (xB yD pH be) λbo az=>(go2 ?_));refine wX I (xB yD (Pc.tx pH) an) λbl aw=>(go2 ?_);refine wX I (xB yD (Pc.tx pH) am) λbi ar=>?_;refine w_c I (sC (ev2 I I) call53 (λw hs=>qT hs aw ar oM) λai h1 cb O=>?_)
 change (rpQ (k+l)).Is h1 ai (a.x*b.x) at O
 refine w_c I (sC (ev2 I I) call45 (λw hs=>rV hs az.up O oM) λad h2 ca H=>?_)
 change (rpQ (1+(k+l)+1)).Is h2 ad ((0:Rat)+(a.x*b.x)) at H
 replace H:=Rp.Is.le H (Le.q (l:=k+l+2) oM);have bc:=(Le.q (l:=k+l+2) oM).R be;refine yK (A:=[]) I (uB sizeOf29 pH bc H) λbu aa=>(go5 ?_);refine gv ((zQ (q:=1) I I oM oM).cv (show _=vI (1) from I)) I (go2 ?_);refine wI (go4 ?_);refine gv (OpV.tr dC (yJ (q:=3) I I)) I (go7 ?_);refine zJ 9 _ [] [(0,.q),(1,.q),(2,.q),(3,.q),(4,.q),(5,.q),(6,.q),(7,.c),(8,.c),(9,.t)] yA nX zor nX (λr hr=>hr) (wX I (xB yD pH aa) λbn ay=>(go2 ?_));refine wX I (xB yD (Pc.ty pH) an) λbk av=>(go2 ?_);refine wX I (xB yD (Pc.ty pH) am) λbh aq=>?_;refine w_c I (sC (ev2 I I) call53 (λw hs=>qT hs av aq oM) λah h3 bz M=>?_)
 change (rpQ (k+l)).Is h3 ah (a.y*b.y) at M
 refine w_c I (sC (ev2 I I) call45 (λw hs=>rV hs ay.up M oM) λac h4 bx D=>?_)
 change (rpQ ((k+l+2)+(k+l)+1)).Is h4 ac (((0:Rat)+(a.x*b.x))+(a.y*b.y)) at D
 replace D:=Rp.Is.le D (Le.q (l:=2*k+2*l+3) oM);have bb:=(Le.q (l:=2*k+2*l+3) oM).R aa;refine yK (A:=[]) I (uB sizeOf29 pH bb D) λbt Z=>(go5 ?_);refine gv ((zQ (q:=1) I I oM oM).cv (show _=vI (2) from I)) I (go2 ?_);refine wI (go4 ?_);refine gv (OpV.tr dC (yJ (q:=3) I I)) I (go7 ?_);refine zJ 9 _ [] [(0,.q),(1,.q),(2,.q),(3,.q),(4,.q),(5,.q),(6,.q),(7,.c),(8,.c),(9,.t)] yA nX zor nX (λr hr=>hr) (wX I (xB yD pH Z) λbm ax=>(go2 ?_));refine wX I (xB yD (Pc.tz pH) an) λbj au=>(go2 ?_);refine wX I (xB yD (Pc.tz pH) am) λbg ap=>?_;refine w_c I (sC (ev2 I I) call53 (λw hs=>qT hs au ap oM) λae h5 bw J=>?_)
 change (rpQ (k+l)).Is h5 ae (a.z*b.z) at J
 refine w_c I (sC (ev2 I I) call45 (λw hs=>rV hs ax.up J oM) λab h6 bv C=>?_)
 change (rpQ ((2*k+2*l+3)+(k+l)+1)).Is h6 ab ((((0:Rat)+(a.x*b.x))+(a.y*b.y))+(a.z*b.z)) at C
 replace C:=Rp.Is.le C (Le.q (l:=3*k+3*l+4) oM);have ba:=(Le.q (l:=3*k+3*l+4) oM).R Z;refine yK (A:=[]) I (uB sizeOf29 pH ba C) λbs bd=>(go5 ?_);refine gv ((zQ (q:=1) I I oM oM).cv (show _=vI (3) from I)) I (go2 ?_);refine wI (go4 ?_);refine gv (OpV.fa dC (yJ (q:=3) I I)) I (uK ?_);refine lX (xB yD pH bd) λbf ao=>(yI (A:=[_]) (uB sizeOf29 pH bp (ao.le (Le.q (l:=3*k+3*l+9) oM))) λbq ak=>(go3 ?_));refine uJ (fV (t:=4) yD mh1 I ak) ?_;intro br U aj;refine yW (λE S=>yE I U E S) ?_;exact(Rp.Is.cast aj (by unfold zE;grind))
theorem zFJ{k l:Nat}{va:Value}{a:Tq}(ra:(tPt k).Is h0 va a){vb:Value}{b:Tq}(rb:(tPt l).Is h0 vb b)(hcd0:k+l<=1000000000):
 Calls Tryz.prog 102 #[va,vb] w0 (Ret w0 h0 (λh r=>(tPt (2*k+2*l+3)).Is h r (zY a b))):=by
 refine cb2 37 va vb func102 hs ?_;refine go2 ?_;refine nB ra λb2 ct aa=>(nB rb λb3 cq Z=>(nA (ρ:=(tPt (2*k+2*l+3))) (X:=zT) yU (xW (yN oM)) λb4 cp bz=>(go4 ?_)));refine nA (ρ:=(tPt (2*k+2*l+3))) (X:=zT) yU (xW (yN oM)) λb5 co bx=>(go9 ?_);refine fL (go4 ?_);refine gv (OpV.tr dC (yJ (q:=3) I I)) I (uK ?_);refine gv ((zQ (q:=1) I I oM oM).cv (show _=vI (1) from I)) I (gv ((wF (q:=3) I I oM oM).cv (show _=vI (1) from I)) I (go1 ?_));refine gv ((zQ (q:=2) I I oM oM).cv (show _=vI (2) from I)) I (gv ((wF (q:=3) I I oM oM).cv (show _=vI (2) from I)) I (go4 ?_));refine zJ 17 _ [] [(0,.q),(1,.q),(2,.q),(3,.q),(4,.q),(5,.q),(6,.q),(8,.q),(9,.q),(10,.q),(11,.q),(12,.q),(13,.q),(7,.c),(14,.c),(15,.c),(16,.q),(17,.t)] yA nX (wP zor) nX (λr hr=>hr) (go3 ?_);refine wX I (xB yD (Pc.ty pH) aa) λbw bj=>(go2 ?_);refine wX I (xB yD (Pc.tz pH) Z) λbv bi=>(go2 ?_);refine wX I (xB yD (Pc.tz pH) aa) λbu bh=>(go2 ?_);refine wX I (xB yD (Pc.ty pH) Z) λbt bg=>?_;refine w_c I (sC (ev2 I I) call53 (λw hs=>qT hs bj bi oM) λba h1 cn ac=>?_)
 change (rpQ (k+l)).Is h1 ba (a.y*b.z) at ac
 refine w_c I (sC (ev2 I I) call53 (λw hs=>qT hs bh.up bg.up oM) λaz h2 cm ab=>?_)
 change (rpQ (k+l)).Is h2 az (a.z*b.y) at ab
 refine w_c I (sC (ev2 I I) call55 (λw hs=>fY hs ac.up ab oM) λay h3 cl H=>?_)
 change (rpQ ((k+l)+(k+l)+1)).Is h3 ay ((a.y*b.z)-(a.z*b.y)) at H
 replace H:=Rp.Is.le H (Le.q (l:=2*k+2*l+1) oM);refine go1 ?_;refine yK (A:=[]) I (uB sizeOf29 (Pc.tx pH) bx (H.le (Le.q (l:=2*k+2*l+3) oM))) λcd bf=>(go5 ?_);refine gv ((zQ (q:=1) I I oM oM).cv (show _=vI (1) from I)) I (go2 ?_);refine wI (go4 ?_);refine gv (OpV.tr dC (yJ (q:=3) I I)) I (uK ?_);refine gv ((zQ (q:=1) I I oM oM).cv (show _=vI (2) from I)) I (gv ((wF (q:=3) I I oM oM).cv (show _=vI (2) from I)) I (go1 ?_));refine gv ((zQ (q:=2) I I oM oM).cv (show _=vI (3) from I)) I (gv ((wF (q:=3) I I oM oM).cv (show _=vI (0) from I)) I (go4 ?_));refine zJ 17 _ [] [(0,.q),(1,.q),(2,.q),(3,.q),(4,.q),(5,.q),(6,.q),(8,.q),(9,.q),(10,.q),(11,.q),(12,.q),(13,.q),(7,.c),(14,.c),(15,.c),(16,.q),(17,.t)] yA nX (wP zor) nX (λr hr=>hr) (go3 ?_);refine wX I (xB yD (Pc.tz pH) aa) λbs aw=>(go2 ?_);refine wX I (xB yD (Pc.tx pH) Z) λbq au=>(go2 ?_);refine wX I (xB yD (Pc.tx pH) aa) λbo aq=>(go2 ?_);refine wX I (xB yD (Pc.tz pH) Z) λbm ao=>?_;refine w_c I (sC (ev2 I I) call53 (λw hs=>qT hs aw au oM) λak h4 ck U=>?_)
 change (rpQ (k+l)).Is h4 ak (a.z*b.x) at U
 refine w_c I (sC (ev2 I I) call53 (λw hs=>qT hs aq.up ao.up oM) λai h5 cj M=>?_)
 change (rpQ (k+l)).Is h5 ai (a.x*b.z) at M
 refine w_c I (sC (ev2 I I) call55 (λw hs=>fY hs U.up M oM) λae h6 ci D=>?_)
 change (rpQ ((k+l)+(k+l)+1)).Is h6 ae ((a.z*b.x)-(a.x*b.z)) at D
 replace D:=Rp.Is.le D (Le.q (l:=2*k+2*l+1) oM);refine go1 ?_;refine yK (A:=[]) I (uB sizeOf29 (Pc.ty pH) bf (D.le (Le.q (l:=2*k+2*l+3) oM))) λcc be=>(go5 ?_);refine gv ((zQ (q:=1) I I oM oM).cv (show _=vI (2) from I)) I (go2 ?_);refine wI (go4 ?_);refine gv (OpV.tr dC (yJ (q:=3) I I)) I (uK ?_);refine gv ((zQ (q:=1) I I oM oM).cv (show _=vI (3) from I)) I (gv ((wF (q:=3) I I oM oM).cv (show _=vI (0) from I)) I (go1 ?_));refine gv ((zQ (q:=2) I I oM oM).cv (show _=vI (4) from I)) I (gv ((wF (q:=3) I I oM oM).cv (show _=vI (1) from I)) I (go4 ?_));refine zJ 17 _ [] [(0,.q),(1,.q),(2,.q),(3,.q),(4,.q),(5,.q),(6,.q),(8,.q),(9,.q),(10,.q),(11,.q),(12,.q),(13,.q),(7,.c),(14,.c),(15,.c),(16,.q),(17,.t)] yA nX (wP zor) nX (λr hr=>hr) (go3 ?_);refine wX I (xB yD (Pc.tx pH) aa) λbr av=>(go2 ?_);refine wX I (xB yD (Pc.ty pH) Z) λbp ar=>(go2 ?_);refine wX I (xB yD (Pc.ty pH) aa) λbn ap=>(go2 ?_);refine wX I (xB yD (Pc.tx pH) Z) λbl an=>?_;refine w_c I (sC (ev2 I I) call53 (λw hs=>qT hs av ar oM) λaj h7 ch O=>?_)
 change (rpQ (k+l)).Is h7 aj (a.x*b.y) at O
 refine w_c I (sC (ev2 I I) call53 (λw hs=>qT hs ap.up an.up oM) λah h8 cg J=>?_)
 change (rpQ (k+l)).Is h8 ah (a.y*b.x) at J
 refine w_c I (sC (ev2 I I) call55 (λw hs=>fY hs O.up J oM) λad h9 cf C=>?_)
 change (rpQ ((k+l)+(k+l)+1)).Is h9 ad ((a.x*b.y)-(a.y*b.x)) at C
 replace C:=Rp.Is.le C (Le.q (l:=2*k+2*l+1) oM);refine go1 ?_;refine yK (A:=[]) I (uB sizeOf29 (Pc.tz pH) be (C.le (Le.q (l:=2*k+2*l+3) oM))) λcb bd=>(go5 ?_);refine gv ((zQ (q:=1) I I oM oM).cv (show _=vI (3) from I)) I (go2 ?_);refine wI (go4 ?_);refine gv (OpV.fa dC (yJ (q:=3) I I)) I (uK ?_);refine lX (xB zL pH bd) λbk am=>(yI (A:=[_]) (uB sizeOf31 pH bz am) λca bc=>(go3 ?_));refine uJ (fV (t:=4) zL mh1 I bc) ?_;intro ce ax bb;refine yW (λE S=>yE I ax E S) ?_;exact bb
theorem zTI{m l:Nat}{vs:Value}{s:Pq}(rs:(tPl m l).Is h0 vs s)(hcd0:m<=1000000000):
 Calls Tryz.prog 152 #[vs] w0 (Ret w0 h0 (λh r=>r=.tuple #[vI (↑(axI s.1):Int),vI (↑(axJ s.1):Int),vI (↑(axK s.1):Int)])):=by
 refine cb1 29 vs func152 hs ?_;refine go2 ?_;refine nB rs λb1 av H=>(oW ?_);refine lX (xB yD (Pc.fst (Pc.tz pH)) H) λar ak=>(cL (ev1 I) call48 (λw hs=>qC hs ak oM) λae h1 au aj=>?_);obtain rfl:ae=vI (yV s.1.z):=aj;have an:=xG s.1.z;refine gc3 (λac=>?_) λac=>?_
 ·
  refine qI ?_;refine lX (xB yD (Pc.fst (Pc.ty pH)) H) λaq ai=>(cL (ev1 I) call48 (λw hs=>qC hs ai oM) λad h2 ap ah=>?_);obtain rfl:ad=vI (yV s.1.y):=ah;have am:=xG s.1.y;refine gc3 (λab=>?_) λab=>?_
  ·
   refine qE ?_;refine lX (xB yD (Pc.fst (Pc.tx pH)) H) λaa M=>(cL (ev1 I) call48 (λw hs=>qC hs M oM) λD h3 ao J=>?_);obtain rfl:D=vI (yV s.1.x):=J;have O:=xG s.1.x;refine gc3 (λC=>?_) λC=>?_
   ·
    refine yCK ?_;refine qN I I I I ?_;have eI:axI s.1=2:=by unfold axI;simp only[uF,qZ] at *;grind
    have Z:axJ s.1=1:=by unfold axJ;simp only[uF,qZ] at *;grind
    have U:axK s.1=0:=by unfold axK;simp only[uF,qZ] at *;grind
    rw[eI,Z,U];rfl
   refine pQ ?_;refine qN I I I I ?_;have eI:axI s.1=1:=by unfold axI;simp only[uF,qZ] at *;grind
   have Z:axJ s.1=2:=by unfold axJ;simp only[uF,qZ] at *;grind
   have U:axK s.1=0:=by unfold axK;simp only[uF,qZ] at *;grind
   rw[eI,Z,U];rfl
  refine go8 ?_;refine lX (xB yD (Pc.fst (Pc.ty pH)) H) λaa M=>(cL (ev1 I) call48 (λw hs=>qC hs M oM) λD h3 ao J=>?_);obtain rfl:D=vI (yV s.1.y):=J;have O:=xG s.1.y;refine gc3 (λC=>?_) λC=>?_
  ·
   refine yCK ?_;refine qN I I I I ?_;have eI:axI s.1=0:=by unfold axI;simp only[uF,qZ] at *;grind
   have Z:axJ s.1=2:=by unfold axJ;simp only[uF,qZ] at *;grind
   have U:axK s.1=1:=by unfold axK;simp only[uF,qZ] at *;grind
   rw[eI,Z,U];rfl
  refine pQ ?_;refine qN I I I I ?_;have eI:axI s.1=2:=by unfold axI;simp only[uF,qZ] at *;grind
  have Z:axJ s.1=0:=by unfold axJ;simp only[uF,qZ] at *;grind
  have U:axK s.1=1:=by unfold axK;simp only[uF,qZ] at *;grind
  rw[eI,Z,U];rfl
 refine go8 ?_;refine lX (xB yD (Pc.fst (Pc.tz pH)) H) λaa M=>(cL (ev1 I) call48 (λw hs=>qC hs M oM) λD h2 ap J=>?_);obtain rfl:D=vI (yV s.1.z):=J;have O:=xG s.1.z;refine gc3 (λC=>?_) λC=>?_
 ·
  refine yCK ?_;refine qN I I I I ?_;have eI:axI s.1=1:=by unfold axI;simp only[uF,qZ] at *;grind
  have Z:axJ s.1=0:=by unfold axJ;simp only[uF,qZ] at *;grind
  have U:axK s.1=2:=by unfold axK;simp only[uF,qZ] at *;grind
  rw[eI,Z,U];rfl
 refine pQ ?_;refine qN I I I I ?_;have eI:axI s.1=0:=by unfold axI;simp only[uF,qZ] at *;grind
 have Z:axJ s.1=1:=by unfold axJ;simp only[uF,qZ] at *;grind
 have U:axK s.1=2:=by unfold axK;simp only[uF,qZ] at *;grind
 rw[eI,Z,U];rfl
theorem zJN{m l k:Nat}{vs:Value}{s:Pq}(rs:(tPl m l).Is h0 vs s){vp:Value}{p:Tq}(rp:(tPt k).Is h0 vp p)(hcd0:k<=1000000000)(hcd1:m<=1000000000):
 Calls Tryz.prog 112 #[vs,vp] w0 (Ret w0 h0 (λh r=>(tPt (k+1)).Is h r (uW s p))):=by
 refine cb2 21 vs vp func112 hs ?_;refine go2 ?_;refine nB rs λb2 ap U=>(nB rp λM ao J=>(nA (ρ:=(tPt (k+1))) (X:=zT) yU (xW (yN oM)) λb4 an O=>(go4 ?_)));refine lX (xB aV pH U) λv9 r9=>(cL (ev1 I) call152 (λw hs=>zTI hs r9 oM) λak h1 am ac=>?_);obtain rfl:=ac;refine uK ?_;refine zJ 7 _ [] [(0,.q),(1,.q),(2,.q),(3,.q),(4,.q),(5,.q),(6,.q),(7,.t)] yA nX zor nX (λr hr=>hr) (go1 ?_);refine wC I (λ_ _=>(yG (sz:=3) (axI s.1) underlying31 sizeOf29 I I zo0 (by exact zZZ _)).cv (show _=vP M (((axI s.1)*3+0)) from congrArg (vP M) oM)) I (wX I (xB yD (Pc.ta pH (axI s.1) (by exact zZZ _)) J) λaj ab=>(go1 ?_));refine wC I (λ_ _=>(yG (sz:=3) (axJ s.1) underlying31 sizeOf29 I I zo0 (by exact zZY _)).cv (show _=vP M (((axJ s.1)*3+0)) from congrArg (vP M) oM)) I (wX I (xB yD (Pc.ta pH (axJ s.1) (by exact zZY _)) J) λai aa=>(wX I (xV (ρ:=(tPt (k+1))) (wJ (ps':=[(0,_),(1,_)]) underlying31 yU I I sizeOf29 e4z I (xW (yN oM)) (zG I (Pc.tx (Pc.here _)) (ab.le (Le.q (l:=k+1) oM)) (zG I (Pc.ty (Pc.here _)) (aa.le (Le.q (l:=k+1) oM)) zR)))) λah Z=>(yK (A:=[]) I (uB sizeOf31 pH O Z) λad H=>(go3 ?_))));refine uJ (fV (t:=4) zL mh0 I H) ?_;intro ae C D;refine yW (λE S=>yE I C E S) ?_;exact D
theorem zTJ{m l k:Nat}{vs:Value}{s:Pq}(rs:(tPl m l).Is h0 vs s){vp:Value}{p:Tq}(rp:(tPt k).Is h0 vp p)(hcd0:k<=1000000)(hcd1:l<=1000000)(hcd2:m<=1000000):
 Calls Tryz.prog 23 #[vs,vp] w0 (Ret w0 h0 (λ_ r=>r=vI (yV (zE s.1 p-s.2)))):=by
 refine cb2 13 vs vp func23 hs ?_;refine go2 ?_;refine nB rs λb2 ai D=>(nB rp λb3 ah J=>(go4 ?_));refine zJ 9 _ [] [(0,.q),(1,.q),(2,.q),(4,.q),(5,.q),(3,.c),(6,.c),(7,.c),(8,.q)] yA nX zor nX (λr hr=>hr) (go1 ?_);refine wX I (xB zL (Pc.fst pH) D) λv6 r6=>(wX I (xB zL pH J) λv7 r7=>(go1 ?_));refine wX I (xB yD (Pc.snd pH) D) λab U=>?_;refine w_c I (sC (ev2 I I) call56 (λw hs=>lF hs r6 r7 oM) λv8 h1 ae M=>?_);replace M:=Rp.Is.le M (Le.q (l:=3*k+3*m+9) oM);refine w_c I (sC (ev2 I I) call55 (λw hs=>fY hs M U.up oM) λaa h2 ad C=>?_);replace C:=Rp.Is.le C (Le.q (l:=3*k+l+3*m+10) oM);refine w_c I (sC (ev1 I) call48 (λw hs=>qC hs C oM) λH h3 ac O=>?_);obtain rfl:H=vI (yV ((zE s.1 p)-s.2)):=O;have Z:=xG ((zE s.1 p)-s.2);refine go4 ?_;refine zC I I ?_
 rfl
end
end Go.Proofs.YtpkaegemlpaenaaGreat
namespace Bk
open Classical
def lpP(x:List Int):Prop:=(3<=x.length/\x.length<=64)/\∀i,i<x.length->(0<=(x.getD i 0)/\(x.getD i 0)<512)/\∀k,k<i->¬(x.getD i 0)=(x.getD k 0)
def vfP(L:List (List Int)):Prop:=(1<=L.length/\L.length<=16)/\∀l,l<L.length->lpP ((L.getD l []))
def vaP(F:List (List (List Int))):Prop:=F.length<=256/\∀f,f<F.length->vfP ((F.getD f []))
abbrev E5:=Int×Int×Int×Int×Int
def edX(x:List Int)(f l:Nat):Nat->List E5:=qG λi=>((x.getD i 0),(x.getD ((i+1)%x.length) 0),(f:Int),(l:Int),(i:Int))
def edL(L:List (List Int))(f:Nat):Nat->List E5:=tN λl=>edX ((L.getD l [])) f l ((L.getD l [])).length
def edF(F:List (List (List Int))):Nat->List E5:=tN λf=>edL ((F.getD f [])) f ((F.getD f [])).length
def edZ(F:List (List (List Int))):List E5:=edF F F.length
abbrev e0:E5:=((0:Int),(0:Int),(0:Int),(0:Int),(0:Int))
def zM9(e:E5)(a b:Int):Prop:=e.1=a/\e.2.1=b
noncomputable def eX(E:List E5)(a b:Int):Nat->Int
  |0=>0
  |m+1=>if zM9 ((E.getD m ((0:Int),(0:Int),(0:Int),(0:Int),(0:Int)))) a b then eX E a b m+1 else eX E a b m
theorem s7(E:List E5)(a b:Int):∀m,0<=eX E a b m/\eX E a b m<=m
  |0=>by unfold eX;omega
  |m+1=>by
   have h:=s7 E a b m;unfold eX
   split<;>omega
theorem tm_t{E:List E5}{a b:Int}{m:Nat}(h:zM9 ((E.getD m ((0:Int),(0:Int),(0:Int),(0:Int),(0:Int)))) a b):eX E a b m+1=eX E a b (m+1):=(if_pos h).symm
theorem tm_f{E:List E5}{a b:Int}{m:Nat}(h:¬zM9 ((E.getD m ((0:Int),(0:Int),(0:Int),(0:Int),(0:Int)))) a b):eX E a b m=eX E a b (m+1):=(if_neg h).symm
noncomputable def tmZ(E:List E5)(a b:Int):Int:=eX E a b E.length
def yCU(E:List E5)(i:Nat):Prop:=tmZ E ((E.getD i ((0:Int),(0:Int),(0:Int),(0:Int),(0:Int)))).2.1 ((E.getD i ((0:Int),(0:Int),(0:Int),(0:Int),(0:Int)))).1<tmZ E ((E.getD i ((0:Int),(0:Int),(0:Int),(0:Int),(0:Int)))).1 ((E.getD i ((0:Int),(0:Int),(0:Int),(0:Int),(0:Int)))).2.1
noncomputable def yI1(E:List E5):Nat->List E5:=cO (yCU E) λi=>((30:Int),(-1:Int),((E.getD i ((0:Int),(0:Int),(0:Int),(0:Int),(0:Int)))).2.2.1,((E.getD i ((0:Int),(0:Int),(0:Int),(0:Int),(0:Int)))).2.2.2.1,((E.getD i ((0:Int),(0:Int),(0:Int),(0:Int),(0:Int)))).2.2.2.2)
noncomputable def clZ(F:List (List (List Int))):List E5:=if vaP F then yI1 (edZ F) (edZ F).length else[((1:Int),(-1:Int),(-1:Int),(-1:Int),(-1:Int))]
theorem zM5(x:List Int)(f l m:Nat):(edX x f l m).length=m:=xK _ _
theorem zGG{L:List (List Int)}(h:∀l,l<L.length->((L.getD l [])).length<=64)(f:Nat):∀m,m<=L.length->(edL L f m).length<=64*m
  |0,_=>Nat.le_refl _
  |m+1,hm=>by
   have h1:=zGG h f m zoq;have h2:=h m zoq
   show List.length (edL L f m++edX (L.getD m []) f m (L.getD m []).length)<=_
   rw[lAz,zM5];omega
theorem zBF{F:List (List (List Int))}(h:∀f,f<F.length->((F.getD f [])).length<=16/\∀l,l<((F.getD f [])).length->((((F.getD f [])).getD l [])).length<=64):∀m,m<=F.length->(edF F m).length<=1024*m
  |0,_=>Nat.le_refl _
  |m+1,hm=>by
   have h1:=zBF h m zoq;have h2:=h m zoq;have h3:=zGG h2.2 m _ (Nat.le_refl _)
   show List.length (edF F m++edL (F.getD m []) m (F.getD m []).length)<=_
   rw[lAz];omega
end Bk
namespace Bk
open Go Go.RowKit
def yL5(w0:World)(h0:Mem)(h:Mem)(L:List Res)(G:Mem->Value->Res->Res->Prop):Ending->World->Prop:=
 tP w0 h0 (λg v K=>∃q' o,(o::q'::L).Sublist K/\MLe h g/\G g v q' o)
section
variable {P:Program}{n:Nat}{w0:World}{h0:Mem}{e:List (Nat×Value)}{L:List Res}{h:Mem}{Q:Exit->Act->World->Prop}
variable {ty:TypeId}{ps:String}{af:Array Edge}
end
end Bk
namespace Go.Proofs.YtpkaegemlpaenaaGreat
open Bk Go Tryz
set_option maxRecDepth 10000
set_option maxHeartbeats 1000000
attribute [local irreducible] GL GC GQ W OpV
section
variable{w0:World}{h0:Mem}(hs:MLe h0 (mem w0))
include hs
theorem iK{vL:Value}{L:(List (List Int))}(rL:tII.Is h0 vL L):
 Calls Tryz.prog 178 #[vL] w0 (Ret w0 h0 (λ_ r=>r=vB (vfP L))):=by
 refine cb1 65 vL func178 hs ?_;refine qI ?_;refine gU 5 14 (vB (((↑(L).length:Int)<(1:Int))\/((16:Int)<(↑(L).length:Int)))) ?_ ?_
 ·
  refine zW ((↑(L).length:Int)<(1:Int)) (λC=>?_) (λC=>?_)
  ·
   refine gT C I (go5 ?_);refine gqU ?_;exact congrArg some (vS C)
  refine gF C I (go8 ?_);refine gqU ?_;exact congrArg some (vT C)
 refine gc2 (λai=>?_) λai=>?_
 ·
  refine go7 ?_;refine zC I I ?_;exact(yM (λe=>by have:=e.1;omega)).symm
 refine go9 ?_;refine gcL (ι:=Nat×Mem) (λ(l,U)=>(MLe h0 U/\(l<=L.length/\∀u,u<l->lpP (L.getD u [])),[(0,vL),(3,vI ↑l)],[],U,L.length-l)) (0,h0) ?_ ?_
 · exact⟨mle,by omega,λu h=>by omega⟩
 rintro⟨l,U⟩ ⟨bb,bp,Z⟩
 refine xC ?_;refine gc9 (λah=>?_) λah=>?_
 ·
  refine go8 ?_;refine lX (xI [] l underlying51 fN rL) λbo au=>(lX (xA fN au) λM H=>(go9 ?_));refine gU 5 32 (vB (((↑((L.getD l [])).length:Int)<(3:Int))\/((64:Int)<(↑((L.getD l [])).length:Int)))) ?_ ?_
  ·
   refine zW ((↑((L.getD l [])).length:Int)<(3:Int)) (λC=>?_) (λC=>?_)
   ·
    refine gT C I (go5 ?_);refine gqU ?_;exact congrArg some (vS C)
   refine gF C I (go8 ?_);refine gqU ?_;exact congrArg some (vT C)
  refine gc2 (λae=>?_) λae=>?_
  ·
   refine qE ?_;refine zC I I ?_;exact(yM (λe=>by have:=(e.2 l oM).1;omega)).symm
  refine go8 ?_;refine gcL (ι:=Nat×Mem) (λ(i,J)=>(MLe U J/\(i<=(L.getD l []).length/\∀u,u<i->(0<=(L.getD l []).getD u 0/\(L.getD l []).getD u 0<512)/\∀k,k<u->¬(L.getD l []).getD u 0=(L.getD l []).getD k 0),[(0,vL),(3,vI ↑l),(4,M),(5,vI ↑i)],[],J,(L.getD l []).length-i)) (0,U) ?_ ?_
  · exact⟨mle,by omega,λu h=>by omega⟩
  rintro⟨i,J⟩ ⟨ba,br,hi2⟩
  refine xC ?_;refine gc9 (λad=>?_) λad=>?_
  ·
   refine go9 ?_;refine lX (xI (0:Int) i underlying22 ty3 H) λbn ar=>(lX (xA ty3 ar) λbm aq=>?_);obtain⟨rfl,bf,ay⟩:=kM aq;refine go1 ?_;refine gU 7 50 (vB ((((L.getD l []).getD i (0:Int))<(0:Int))\/((512:Int)<=((L.getD l []).getD i (0:Int))))) ?_ ?_
   ·
    refine zW (((L.getD l []).getD i (0:Int))<(0:Int)) (λC=>?_) (λC=>?_)
    ·
     refine gT C I (go7 ?_);refine gqU ?_;exact congrArg some (vS C)
    refine gF C I (go5 ?_);refine lX (xI (0:Int) i underlying22 ty3 H) λbl ap=>(go1 ?_);refine lX (xA ty3 ap) λbk ao=>?_;obtain⟨rfl,be,ax⟩:=kM ao;refine go4 ?_;refine gqU ?_;exact congrArg some (vT C)
   refine gc2 (λac=>?_) λac=>?_
   ·
    refine k7 ?_;refine zC I I ?_;exact(yM (λe=>by have:=((e.2 l oM).2 i oM).1;omega)).symm
   refine go8 ?_;refine gcL (ι:=Nat×Mem) (λ(k,O)=>(MLe J O/\(k<=i/\∀v,v<k->¬(L.getD l []).getD i 0=(L.getD l []).getD v 0),[(0,vL),(3,vI ↑l),(4,M),(5,vI ↑i),(6,vI ↑k)],[],O,i-k)) (0,J) ?_ ?_
   · exact⟨mle,by omega,λu h=>by omega⟩
   rintro⟨k,O⟩ ⟨az,bq,aa⟩
   refine xC ?_;refine gc8 (λab=>?_) λab=>?_
   ·
    refine go5 ?_;refine zJ 9 _ [] [(0,.q),(1,.q),(2,.q),(3,.q),(4,.q),(5,.q),(6,.q),(7,.q),(8,.q)] yA nX zor nX (λr hr=>hr) (go2 ?_);refine wX I (xI (0:Int) i underlying22 ty3 H) λbj an=>(wX I (xA ty3 an) λbi am=>?_);obtain⟨rfl,bd,aw⟩:=kM am;refine go2 ?_;refine wX I (xI (0:Int) k underlying22 ty3 H) λbh ak=>(wX I (xA ty3 ak) λbg aj=>?_);obtain⟨rfl,bc,av⟩:=kM aj;refine gc3 (λD=>?_) λD=>?_
    ·
     refine zYU ?_;refine zC I I ?_;exact(yM (λe=>((e.2 l oM).2 i oM).2 k oM D)).symm
    refine go8 ?_;refine gqL ((k+1),O) ?_ ?_
    · exact⟨mle,by omega,vH (Q:=λv=>¬(L.getD l []).getD i 0=(L.getD l []).getD v 0) aa D⟩
    omega
   refine qI ?_;refine gqL ((i+1),O) ?_ ?_
   · exact⟨mle,by omega,vH (Q:=λu=>(0<=(L.getD l []).getD u 0/\(L.getD l []).getD u 0<512)/\∀k,k<u->¬(L.getD l []).getD u 0=(L.getD l []).getD k 0) hi2 ⟨by omega,λk hk=>aa k oM⟩⟩
   omega
  refine qI ?_;refine gqL ((l+1),J) ?_ ?_
  · exact⟨mle,by omega,vH (Q:=λu=>lpP (L.getD u [])) Z ⟨by omega,λu hu=>hi2 u oM⟩⟩
  omega
 refine qI ?_;refine zC I I ?_;exact(xT ⟨by omega,λu hu=>Z u oM⟩).symm
theorem zOZ{vF:Value}{F:(List (List (List Int)))}(rF:(rpS tII).Is h0 vF F):
 Calls Tryz.prog 180 #[vF] w0 (Ret w0 h0 (λ_ r=>r=vB (vaP F))):=by
 refine cb1 19 vF func180 hs ?_;refine pQ ?_;refine cnd (λaa=>?_) λaa=>?_
 ·
  refine go7 ?_;refine zC I I ?_;exact(yM (λe=>by have:=e.1;omega)).symm
 refine go9 ?_;refine gcL (ι:=Nat×Mem) (λ(f,Z)=>(MLe h0 Z/\(f<=F.length/\∀u,u<f->vfP (F.getD u [])),[(0,vF),(3,vI ↑f)],[],Z,F.length-f)) (0,h0) ?_ ?_
 · exact⟨mle,by omega,λu h=>by omega⟩
 rintro⟨f,Z⟩ ⟨ab,ah,D⟩
 refine xC ?_;refine gc9 (λH=>?_) λH=>?_
 ·
  refine go8 ?_;refine lX (xI [] f underlying165 bK rF) λad U=>(lX (xA bK U) λac O=>(cL (ev1 I) call178 (λw hs=>iK hs O) λJ h1 ae M=>?_));obtain rfl:J=vB (vfP (F.getD f [])):=M;refine gc3 (λC=>?_) λC=>?_
  ·
   refine qI ?_;refine zC I I ?_;exact(yM (λe=>C (e.2 f oM))).symm
  refine go8 ?_;refine gqL ((f+1),h1) ?_ ?_
  · exact⟨mle,by omega,vH (Q:=λu=>vfP (F.getD u [])) D (Classical.not_not.1 C)⟩
  omega
 refine qI ?_;refine zC I I ?_;exact(xT ⟨by omega,λu hu=>D u oM⟩).symm
theorem zFG{vF:Value}{F:(List (List (List Int)))}(rF:(rpS tII).Is h0 vF F)(hcd0:F.length<=1000)(hcd1:∀f,f<F.length->(F.getD f []).length<=16/\∀l,l<(F.getD f []).length->((F.getD f []).getD l []).length<=64):
 Calls Tryz.prog 135 #[vF] w0 (Ret w0 h0 (λh r=>(rpS tE5).Is h r (edZ F))):=by
 refine cb1 56 vF func135 hs ?_;refine oW ?_;refine xM 168 5 ?_;have ah:=RL.nil (ρ:=rpP rpI (rpP rpI (rpP rpI (rpP rpI rpI)))) (h:=h0);refine gcL (ι:=Nat×List (Int×Int×Int×Int×Int)×Value×List Value×Mem) (λ(f,D0,J,O,ma)=>(MLe h0 ma/\(RL tE5 ma O D0/\f<=F.length/\D0=edF F f),[(0,vF),(3,J),(4,vI ↑f)],[.gs 168 5 J D0.length O],ma,F.length-f)) (0,[],(.slice none 0 0),[],h0) ?_ ?_
 · exact⟨mle,ah,by omega,I⟩
 rintro⟨f,D0,J,O,ma⟩ ⟨bj,aa,ck,ap⟩
 refine xC ?_;refine gc9 (λan=>?_) λan=>?_
 ·
  refine uK ?_;refine gcL (ι:=Nat×List (Int×Int×Int×Int×Int)×Value×List Value×Mem) (λ(l,D1,C,D,mb)=>(MLe ma mb/\(RL tE5 mb D D1/\l<=(F.getD f []).length/\D1=edF F f++edL (F.getD f []) f l),[(0,vF),(3,C),(4,vI ↑f),(5,vI ↑l)],[.gs 168 5 C D1.length D],mb,(F.getD f []).length-l)) (0,D0,J,O,ma) ?_ ?_
  · exact⟨mle,aa,by omega,by rw[ap];exact(List.append_nil _).symm⟩
  rintro⟨l,D1,C,D,mb⟩ ⟨bi,Z,ci,ao⟩
  refine xC ?_;refine go6 ?_;refine lX (xI [] f underlying165 bK rF) λbx bd=>(lX (xA bK bd) λbw bz=>(gc4 (λam=>?_) λam=>?_))
  ·
   refine go8 ?_;refine lX (xI [] f underlying165 bK rF) λbv bc=>(lX (xA bK bc) λbu bb=>(go1 ?_));refine lX (xI [] l underlying51 fN bb) λbt ba=>(lX (xA fN ba) λau ad=>(go9 ?_));refine gcL (ι:=Nat×List (Int×Int×Int×Int×Int)×Value×List Value×Mem) (λ(i,D2,H,M,mc)=>(MLe mb mc/\(RL tE5 mc M D2/\i<=((F.getD f []).getD l []).length/\D2=edF F f++edL (F.getD f []) f l++edX ((F.getD f []).getD l []) f l i),[(0,vF),(3,H),(4,vI ↑f),(5,vI ↑l),(6,au),(7,vI ↑i)],[.gs 168 5 H D2.length M],mc,((F.getD f []).getD l []).length-i)) (0,D1,C,D,mb) ?_ ?_
   · exact⟨mle,Z,by omega,by rw[ao];exact(List.append_nil _).symm⟩
   rintro⟨i,D2,H,M,mc⟩ ⟨bh,U,cj,ae⟩
   refine xC ?_;have ch:=zBF hcd1 f oM;have cg:=(hcd1 f oM).1;have cf:=zGG (hcd1 f oM).2 f l oM;have ce:=(hcd1 f oM).2 l oM;have cd:=zM5 ((F.getD f []).getD l []) f l i;have cc:D2.length<=1100000:=by rw[ae,lAz,lAz];omega
   refine gc9 (λak=>?_) λak=>?_
   ·
    refine go4 ?_;refine qO (A:=[]) 20 [] [(0,.q),(1,.q),(2,.q),(3,.q),(4,.q),(5,.q),(6,.q),(7,.q),(8,.q),(9,.q),(10,.q),(11,.q),(12,.q),(13,.q),(14,.q),(15,.q),(16,.q),(17,.c),(18,.c),(19,.q)] yA nX (wP zor) nX (go3 ?_);refine wX I (xI (0:Int) i underlying22 ty3 ad) λbs az=>(wX I (xA ty3 az) λbr ay=>?_);obtain⟨rfl,bl,bg⟩:=kM ay;refine go4 ?_;refine w_q I (λh' L' hh hR=>qH underlying22 I (ad.up.mono hh)) I (wC I (λ_ _=>wF I I oM oM) I (wX I (xI (0:Int) ((i+1)%((F.getD f []).getD l []).length) underlying22 ty3 ad (hi:=by exact Nat.mod_lt _ oM)) λbq ax=>(wX I (xA ty3 ax) λbp aw=>?_)));obtain⟨rfl,bk,bf⟩:=kM aw;refine go3 ?_;refine wX I (xV (ρ:=tE5) (wE (ps':=[(0,_),(1,_),(2,_),(3,_),(4,_)]) underlying168 zD5 I I (zS4 underlying168) e10 I (yF wM (yF wM (yF wM (yF wM wM)))) (zG I (Pc.fst (Pc.here _)) (jA oM oM) (zG I (Pc.snd (Pc.fst (Pc.here _))) (jA oM oM) (zG I (Pc.snd (Pc.snd (Pc.fst (Pc.here _)))) (jA oM oM) (zG I (Pc.snd (Pc.snd (Pc.snd (Pc.fst (Pc.here _))))) (jA oM oM) (zG I (Pc.snd (Pc.snd (Pc.snd (Pc.snd (Pc.here _))))) (jA oM oM) zR))))))) λbo av=>?_;refine w_c I (jM (λX=>zO (ρ:=tE5) (m:=1) (xs:=[((((F.getD f []).getD l []).getD i (0:Int)),((((F.getD f []).getD l []).getD ((i+1)%((F.getD f []).getD l []).length) (0:Int)),((↑f:Int),((↑l:Int),(↑i:Int)))))]) (ps':=[(0,_)]) underlying163 zD5 I I I (yF wM (yF wM (yF wM (yF wM wM)))) e2z (zG I (Pc.arr (Pc.here _) e50 0 dC) av zR) zoi nP) I ?_)
    rintro bn cb ⟨bm,rfl,aj⟩
    refine w_c I (wA (A:=[]) (ρ:=tE5) aj dK ?_);intro h1 be ac;refine tG (A:=[]) (λX=>zV (ρ:=tE5) (bytes:=40) underlying163 zD5 I I I I nP I I U.up ac bO bO) I (wH zov) ?_
    rintro ar ca ⟨aq,rfl,ai⟩
    refine go9 ?_;refine gqL ((i+1),(D2++[((((F.getD f []).getD l []).getD i (0:Int)),((((F.getD f []).getD l []).getD ((i+1)%((F.getD f []).getD l []).length) (0:Int)),((↑f:Int),((↑l:Int),(↑i:Int)))))]),ar,aq,h1) ?_ ?_
    · exact⟨mle,ai,by omega,by rw[ae,List.append_assoc];rfl⟩
    omega
   have ei:i=((F.getD f []).getD l []).length:=by omega
   refine qI ?_;refine gqL ((l+1),D2,H,M,mc) ?_ ?_
   · exact⟨mle,U.up,by omega,by rw[ae,ei,List.append_assoc];rfl⟩
   omega
  have el:l=(F.getD f []).length:=by omega
  refine qI ?_;refine gqL ((f+1),D1,C,D,mb) ?_ ?_
  · exact⟨mle,Z,by omega,by rw[ao,el];rfl⟩
  omega
 have ef:f=F.length:=by omega
 refine qE ?_;refine vZ (A:=[]) (ρ:=tE5) aa ?_;intro h1 be ab;refine zC I I ?_;exact(Rp.Is.cast ab (by rw[ap,ef];rfl))
theorem zFF{vE:Value}{E:(List (Int×(Int×(Int×(Int×Int)))))}(rE:(rpS tE5).Is h0 vE E){a:Int}(ha1:-9223372036854775808<=a)(ha2:a<9223372036854775808){b:Int}(hb1:-9223372036854775808<=b)(hb2:b<9223372036854775808)(hcd0:E.length<=1000000):
 Calls Tryz.prog 181 #[vE,vI a,vI b] w0 (Ret w0 h0 (λ_ r=>r=vI (tmZ E a b))):=by
 refine cb3 34 vE (vI a) (vI b) func181 hs ?_;refine oW ?_;refine gcL (ι:=Nat×Mem) (λ(m,D)=>(MLe h0 D/\(m<=E.length),[(0,vE),(1,vI a),(2,vI b),(7,vI (eX E a b m)),(8,vI ↑m)],[],D,E.length-m)) (0,h0) ?_ ?_
 · exact⟨mle,oM⟩
 rintro⟨m,D⟩ ⟨ah,H⟩
 refine xC ?_;have au:=H;have ar:=s7 E a b m;refine gc9 (λM=>?_) λM=>?_
 ·
  refine go8 ?_;refine lX (xI e50 m underlying163 z6 rE) λaq ac=>(lX (xF underlying168 sizeOf3 (Pc.fst pH) ac) λap ab=>(lX (xA ty3 ab) λao aa=>?_));obtain⟨rfl,aj,ae⟩:=kM aa;refine go2 ?_;refine gU 9 30 (vB ((((E.getD m e50).1)=a)/\((((E.getD m e50).2).1)=b))) ?_ ?_
  ·
   refine zW (((E.getD m e50).1)=a) (λJ=>?_) (λJ=>?_)
   ·
    refine gT J I (go5 ?_);refine lX (xI e50 m underlying163 z6 rE) λan Z=>(go1 ?_);refine lX (xF underlying168 sizeOf3 (Pc.snd (Pc.fst pH)) Z) λam U=>(go1 ?_);refine lX (xA ty3 U) λak O=>?_;obtain⟨rfl,ai,ad⟩:=kM O;refine go6 ?_;refine gqU ?_;exact congrArg some (xH J)
   refine gF J I (go9 ?_);refine gqU ?_;exact congrArg some (xJ J)
  refine gc2 (λC=>?_) λC=>?_
  ·
   refine qE ?_;refine gqL ((m+1),D) ?_ ?_ (he:=⟨I,I,I,congrArg (λz=>some (vI z)) (tm_t C),I,trivial⟩)
   · exact⟨mle,oM⟩
   omega
  refine go8 ?_;refine gqL ((m+1),D) ?_ ?_ (he:=⟨I,I,I,congrArg (λz=>some (vI z)) (tm_f C),I,trivial⟩)
  · exact⟨mle,oM⟩
  omega
 refine qE ?_;refine zC I I ?_;have em:m=E.length:=by omega
 subst em
 rfl
theorem zL1{vF:Value}{F:(List (List (List Int)))}(rF:(rpS tII).Is h0 vF F):
 Calls Tryz.prog 145 #[vF] w0 (Ret w0 h0 (λh r=>(rpS tE5).Is h r (clZ F))):=by
 refine cb1 64 vF func145 hs ?_;refine go9 ?_;refine cL (ev1 I) call180 (λw hs=>zOZ hs rF) λv7 h1 dx r7=>?_;obtain rfl:v7=vB (vaP F):=r7;refine gc3 (λad=>?_) λad=>?_
 ·
  refine go2 ?_;refine lX (xV (ρ:=tE5) (wE (ps':=[(0,_),(1,_),(2,_),(3,_),(4,_)]) underlying200 jL I I (zB1 underlying200) e10 I (yF wM (yF wM (yF wM (yF wM wM)))) (zG I (Pc.fst (Pc.here _)) (jA dC dC) (zG I (Pc.snd (Pc.fst (Pc.here _))) (jA dC dC) (zG I (Pc.snd (Pc.snd (Pc.fst (Pc.here _)))) (jA dC dC) (zG I (Pc.snd (Pc.snd (Pc.snd (Pc.fst (Pc.here _))))) (jA dC dC) (zG I (Pc.snd (Pc.snd (Pc.snd (Pc.snd (Pc.here _))))) (jA dC dC) zR))))))) λv9 r9=>(zK (zO (ρ:=tE5) (m:=1) (xs:=[((1:Int),((-1:Int),((-1:Int),((-1:Int),(-1:Int)))))]) (ps':=[(0,_)]) underlying133 jL I I I (yF wM (yF wM (yF wM (yF wM wM)))) e2z (zG I (Pc.arr (Pc.here _) e50 0 dC) r9 zR) zoi nP) I I I ?_)
  rintro dp dt ⟨cm,rfl,aj⟩
  refine go5 ?_;refine vZ (A:=[]) (ρ:=tE5) aj ?_;intro h2 bu ab;refine zC I I ?_;exact(Rp.Is.cast ab (by exact(if_neg ad).symm))
 refine uK ?_;have U:vaP F:=Classical.not_not.1 ad;have ae:∀f,f<F.length->(F.getD f []).length<=16/\∀l,l<(F.getD f []).length->((F.getD f []).getD l []).length<=64:=λf hf=>⟨(U.2 f hf).1.2,λl hl=>((U.2 f hf).2 l hl).1.2⟩;have ea:F.length<=256:=U.1;have dz:=zBF ae F.length (Nat.le_refl _);have dy:(edZ F).length<=262144:=by show(edF F F.length).length<=_;omega
 refine cL (ev1 I) call135 (λw hs=>zFG hs rF.up (by first|omega|exact ae) (by first|omega|exact ae)) λaq h2 bu H=>(uK ?_);refine xM 200 5 ?_;have ac:=RL.nil (ρ:=rpP rpI (rpP rpI (rpP rpI (rpP rpI rpI)))) (h:=h2);refine gcL (ι:=Nat×List (Int×Int×Int×Int×Int)×Value×List Value×Mem) (λ(i,D,C,J,ma)=>(MLe h2 ma/\(RL tE5 ma J D/\i<=(edZ F).length/\D=yI1 (edZ F) i),[(3,C),(4,aq),(5,vI ↑i)],[.gs 200 5 C D.length J],ma,(edZ F).length-i)) (0,[],(.slice none 0 0),[],h2) ?_ ?_
 · exact⟨mle,ac,by omega,I⟩
 rintro⟨i,D,C,J,ma⟩ ⟨cd,M,du,hD⟩
 refine xC ?_;have eb:D.length<=i:=by rw[hD];exact pT _ _ i
 refine gc9 (λak=>?_) λak=>?_
 ·
  refine go5 ?_;refine zJ 25 _ [] [(0,.q),(1,.q),(2,.q),(3,.q),(4,.q),(5,.q),(6,.q),(7,.q),(8,.q),(9,.q),(10,.q),(12,.q),(13,.q),(14,.q),(15,.q),(16,.q),(17,.q),(18,.q),(19,.q),(20,.q),(21,.q),(22,.q),(11,.c),(23,.c),(24,.q)] yA nX (wP zor) nX (λr hr=>hr) (go3 ?_);refine wX I (xI e50 i underlying163 z6 H) λdn bq=>(wX I (xF underlying168 sizeOf3 (Pc.fst pH) bq) λdm bp=>(wX I (xA ty3 bp) λdl bo=>?_));obtain⟨rfl,ck,cc⟩:=kM bo;refine go2 ?_;refine wX I (xI e50 i underlying163 z6 H) λdk bn=>(wX I (xF underlying168 sizeOf3 (Pc.snd (Pc.fst pH)) bn) λdj bm=>(wX I (xA ty3 bm) λdi bl=>?_));obtain⟨rfl,cj,cb⟩:=kM bl;refine go3 ?_;refine wX I (xI e50 i underlying163 z6 H) λdh bj=>(wX I (xF underlying168 sizeOf3 (Pc.snd (Pc.fst pH)) bj) λdf bi=>(wX I (xA ty3 bi) λde bh=>?_));obtain⟨rfl,ci,ca⟩:=kM bh;refine go2 ?_;refine wX I (xI e50 i underlying163 z6 H) λdd bg=>(wX I (xF underlying168 sizeOf3 (Pc.fst pH) bg) λdc bf=>(wX I (xA ty3 bf) λdb be=>?_));obtain⟨rfl,ch,bz⟩:=kM be;refine w_c I (sC (ev3 I I I) call181 (λw hs=>zFF hs H.up oM oM oM oM oM) λap h3 bt bk=>?_);obtain rfl:ap=vI (tmZ (edZ F) (((edZ F).getD i e50).1) ((((edZ F).getD i e50).2).1)):=bk;have bs:=s7 (edZ F) (((edZ F).getD i e50).1) ((((edZ F).getD i e50).2).1) (edZ F).length;refine w_c I (sC (ev3 I I I) call181 (λw hs=>zFF hs H.up oM oM oM oM oM) λao h4 dw bd=>?_);obtain rfl:ao=vI (tmZ (edZ F) ((((edZ F).getD i e50).2).1) (((edZ F).getD i e50).1)):=bd;have br:=s7 (edZ F) ((((edZ F).getD i e50).2).1) (((edZ F).getD i e50).1) (edZ F).length;refine gc3 (λO=>?_) λO=>?_
  ·
   refine qO (A:=[]) 20 [] [(0,.q),(1,.q),(2,.q),(3,.q),(4,.q),(5,.q),(6,.q),(7,.q),(8,.q),(9,.q),(10,.q),(11,.q),(12,.q),(13,.q),(14,.q),(15,.q),(16,.q),(17,.c),(18,.c),(19,.q)] yA nX (wP zor) nX (go3 ?_);refine wX I (xI e50 i underlying163 z6 H) λda bc=>(wX I (xF underlying168 sizeOf3 (Pc.snd (Pc.snd (Pc.fst pH))) bc) λcz bb=>(wX I (xA ty3 bb) λcy ba=>?_));obtain⟨rfl,cg,bx⟩:=kM ba;refine go2 ?_;refine wX I (xI e50 i underlying163 z6 H) λcw az=>(wX I (xF underlying168 sizeOf3 (Pc.snd (Pc.snd (Pc.snd (Pc.fst pH)))) az) λcv ay=>(wX I (xA ty3 ay) λcu ax=>?_));obtain⟨rfl,cf,bw⟩:=kM ax;refine go2 ?_;refine wX I (xI e50 i underlying163 z6 H) λct aw=>(wX I (xF underlying168 sizeOf3 (Pc.snd (Pc.snd (Pc.snd (Pc.snd pH)))) aw) λcq av=>(wX I (xA ty3 av) λcp au=>?_));obtain⟨rfl,ce,bv⟩:=kM au;refine wX I (xV (ρ:=tE5) (wE (ps':=[(0,_),(1,_),(2,_),(3,_),(4,_)]) underlying200 jL I I (zB1 underlying200) e10 I (yF wM (yF wM (yF wM (yF wM wM)))) (zG I (Pc.fst (Pc.here _)) (jA dC dC) (zG I (Pc.snd (Pc.fst (Pc.here _))) (jA dC dC) (zG I (Pc.snd (Pc.snd (Pc.fst (Pc.here _)))) (jA oM oM) (zG I (Pc.snd (Pc.snd (Pc.snd (Pc.fst (Pc.here _))))) (jA oM oM) (zG I (Pc.snd (Pc.snd (Pc.snd (Pc.snd (Pc.here _))))) (jA oM oM) zR))))))) λco ar=>?_;refine w_c I (jM (λX=>zO (ρ:=tE5) (m:=1) (xs:=[((30:Int),((-1:Int),((((((edZ F).getD i e50).2).2).1),(((((((edZ F).getD i e50).2).2).2).1),((((((edZ F).getD i e50).2).2).2).2)))))]) (ps':=[(0,_)]) underlying133 jL I I I (yF wM (yF wM (yF wM (yF wM wM)))) e2z (zG I (Pc.arr (Pc.here _) e50 0 dC) ar zR) zoi nP) I ?_)
   rintro cn dr ⟨cl,rfl,ai⟩
   refine w_c I (wA (A:=[]) (ρ:=tE5) ai dK ?_);intro h5 dv aa;refine tG (A:=[]) (λX=>zV (ρ:=tE5) (bytes:=40) underlying133 jL I I I I nP I I M.up aa bO bO) I (wH zov) ?_
   rintro an dq ⟨am,rfl,ah⟩
   refine go9 ?_;refine gqL ((i+1),(D++[((30:Int),((-1:Int),((((((edZ F).getD i e50).2).2).1),(((((((edZ F).getD i e50).2).2).2).1),((((((edZ F).getD i e50).2).2).2).2)))))]),an,am,h5) ?_ ?_
   · exact⟨mle,ah,by omega,by rw[hD];exact zAE O⟩
   omega
  refine go8 ?_;refine gqL ((i+1),D,C,J,h4) ?_ ?_
  · exact⟨mle,M.up,by omega,by rw[hD];exact zAF O⟩
  omega
 refine qE ?_;refine vZ (A:=[]) (ρ:=tE5) M.up ?_;intro h3 bt Z;refine zC I I ?_;exact(Rp.Is.cast Z (by rw[hD,show i=(edZ F).length by omega];exact(if_pos U).symm))
end
end Go.Proofs.YtpkaegemlpaenaaGreat
namespace Bk
open Classical
def xZ(a b:Pt):Pt:=T3.mk (a.x+b.x) (a.y+b.y) (a.z+b.z)
def moved(l l':List Pt)(v:Pt):Prop:=l'.length=l.length/\∀q,q<l.length->gp l' q=xZ (gp l q) v
def sh(a v:P2):P2:=(a.1+v.1,a.2+v.2)
def reved(l z:List Pt):Prop:=z.length=l.length/\∀q,q<l.length->gp z q=gp l (l.length-1-q)
def sN(n m:Nat):Nat:=if m+1=n then m else n-2-m
def movTo(l y:List Pt)(v:Pt)(m:Nat):Prop:=y.length=m/\∀q,q<m->gp y q=xZ (gp l q) v
def revTo(l z:List Pt)(m:Nat):Prop:=z.length=m/\∀q,q<m->gp z q=gp l (l.length-1-q)
def hgt(pl:Pl)(p:Pt):Rat:=zE pl.1 p-pl.2
noncomputable def sdZ(pl:Pl)(p:Pt):Int:=yV (hgt pl p)
theorem bN(pl:Pl)(p:Pt):-1<=sdZ pl p/\sdZ pl p<=1:=xG _
def lerp(t:Rat)(a b:Pt):Pt:=T3.mk (a.x+t*(b.x-a.x)) (a.y+t*(b.y-a.y)) (a.z+t*(b.z-a.z))
noncomputable def yLN(pl:Pl)(a b:Pt):Rat:=if hgt pl a-hgt pl b=0 then 0 else hgt pl a/(hgt pl a-hgt pl b)
noncomputable def btw(pl:Pl)(a b:Pt):Pt:=lerp (yLN pl a b) a b
abbrev nx(l:List Pt)(m:Nat):Pt:=gp l ((m+1)%l.length)
def xP(pl:Pl)(l:List Pt)(m:Nat):Prop:=sdZ pl (gp l m)*sdZ pl (nx l m)<0
noncomputable def yJD(pl:Pl)(l:List Pt):Nat->List Pt
  |0=>[]
  |m+1=>yJD pl l m++(if sdZ pl (gp l m)<=0 then[gp l m] else[])++(if xP pl l m then[btw pl (gp l m) (nx l m)] else[])
noncomputable def yID(pl:Pl)(l:List Pt):Nat->List Pt
  |0=>[]
  |m+1=>yID pl l m++(if 0<=sdZ pl (gp l m) then[gp l m] else[])++(if xP pl l m then[btw pl (gp l m) (nx l m)] else[])
def yEG(pl:Pl)(l:List Pt):Nat->Prop
  |0=>False
  |m+1=>yEG pl l m\/sdZ pl (gp l m)<0
def zZ3(pl:Pl)(l:List Pt):Nat->Prop
  |0=>False
  |m+1=>zZ3 pl l m\/0<sdZ pl (gp l m)
noncomputable def cutB(pl:Pl)(l:List Pt):List Pt:=if yEG pl l l.length\/¬zZ3 pl l l.length then yJD pl l l.length else[]
noncomputable def cutF(pl:Pl)(l:List Pt):List Pt:=if zZ3 pl l l.length then yID pl l l.length else[]
section
variable {pl:Pl}{l B:List Pt}{m:Nat}
noncomputable def bkH(pl:Pl)(l:List Pt)(m:Nat):List Pt:=yJD pl l m++(if sdZ pl (gp l m)<=0 then[gp l m] else[])
noncomputable def frH(pl:Pl)(l:List Pt)(m:Nat):List Pt:=yID pl l m++(if 0<=sdZ pl (gp l m) then[gp l m] else[])
end
def aD(l:List Pt):Prop:=aE l 0 1->¬uP l 0 1 l.length=0
theorem zCM{l:List Pt}(h:¬uP l 0 1 l.length=0):aD l:=λ_=>h
abbrev PI:=Int×Int
def crI(u v w:PI):Int:=(v.1-u.1)*(w.2-u.2)-(v.2-u.2)*(w.1-u.1)
def sgI(n:Int):Int:=if 0<n then 1 else if n<0 then -1 else 0
def orI(u v w:PI):Int:=sgI (crI u v w)
def lxI(u v:PI):Bool:=decide (u.1<v.1\/(u.1=v.1/\u.2<v.2))
def apI(a b c d:Int):Bool:=decide ((a<c/\a<d/\b<c/\b<d)\/(c<a/\d<a/\c<b/\d<b))
def alS(a b c d:PI):Int:=
 if lxI (if lxI d b then d else b) (if lxI a c then c else a) then 0 else if lxI (if lxI a c then c else a) (if lxI d b then d else b) then 3
 else if((if lxI a c then c else a)=a\/(if lxI a c then c else a)=b)/\((if lxI a c then c else a)=c\/(if lxI a c then c else a)=d) then 1 else 2
def alI(a b c d:PI):Int:=alS (if lxI b a then b else a) (if lxI b a then a else b) (if lxI d c then d else c) (if lxI d c then c else d)
def toI(a b c d:PI):Int:=
 if apI a.1 b.1 c.1 d.1\/apI a.2 b.2 c.2 d.2 then 0
 else if orI a b c=0/\orI a b d=0/\orI c d a=0/\orI c d b=0 then alI a b c d
 else if 0<orI a b c*orI a b d\/0<orI c d a*orI c d b then 0
 else if(orI a b c=0\/orI a b d=0)/\(orI c d a=0\/orI c d b=0) then 1 else 2
def af(x y r:Int)(u:PI):P2:=(((x+r*u.1:Int):Rat),((y+r*u.2:Int):Rat))
def rg(k:Nat):PI:=([(2,0),(2,1),(1,2),(-1,2),(-2,0),(-2,-1),(0,-2),(1,-1)]:List PI).getD k (0,0)
def gi(s:List Nat)(m:Nat):PI:=rg (s.getD m 0)
def arI(s:List Nat):Nat->Int
  |0=>0
  |m+1=>arI s m+((gi s m).1*(gi s ((m+1)%s.length)).2-(gi s ((m+1)%s.length)).1*(gi s m).2)
def waI(n p q:Nat):Int:=if q=p+1\/(p=0/\q+1=n) then 1 else 0
def badI(s:List Nat):Bool:=(List.range s.length).any λq=>(List.range q).any λp=>!decide (toI (gi s p) (gi s ((p+1)%s.length)) (gi s q) (gi s ((q+1)%s.length))=waI s.length p q)
def okI(s:List Nat):Bool:=decide (s.length<3)||!decide (arI s s.length=0)||badI s
def swI:List Nat->List Nat
  |a::b::l=>b::a::l
  |l=>l
def yJ8:List Nat->List (List Nat)
  |[]=>[[]]
  |a::l=>yJ8 l++(yJ8 l).map (a::·)
def rp3(x y r:Int)(k:Nat):Pt:=T3.mk (((x+r*(rg k).1:Int)):Rat) (((y+r*(rg k).2:Int)):Rat) (0:Rat)
noncomputable def rgK(t:Prop)(i:Nat):Nat:=if t then 7-i else i
def rgF(x y r:Int)(t:Prop)(i:Nat)(l:List Pt):Prop:=∃s:List Nat,s.Sublist ((List.range i).map (rgK t))/\l=s.map (rp3 x y r)
def rvP(l0 l:List Pt)(i:Nat):Prop:=l.length=l0.length/\∀q,q<l0.length->gp l q=if q<i\/l0.length<=q+i then gp l0 (l0.length-1-q) else gp l0 q
theorem zZE{a b:List Pt}{p q:Nat}:2<=oA (wV a 0 1 p) (wU a 0 1 p) (wV b 0 1 q) (wU b 0 1 q)↔y7 a b 0 1 p q:=by
 unfold y7;rw[zK3];omega
theorem zUK{a b:List Pt}{p q:Nat}(h:y7 a b 0 1 p q):y7 b a 0 1 q p:=by
 unfold y7 at *;rw[zEH];exact h
theorem eE{a b:List Pt}(h:gM a b 0 1):gM b a 0 1:=by
 obtain⟨p,q,D,C,h⟩:=h;exact⟨q,p,C,D,zUK h⟩
theorem yD0(a b:Pt):pr (T3.mk (zCB a.x b.x) (zCB a.y b.y) (0:Rat)) 0 1=zPH (pr a 0 1) (pr b 0 1):=rfl
theorem zY3{l:List Pt}(hf:aD l)(hs:aE l 0 1):¬yV (arZ l 0 1)=0:=λe=>hf hs (uF.1 e)
theorem yCP{L:List (List Pt)}(h:∀x,x∈L->aD x)(m:Nat):aD (gl L m):=by
 show aD (L.getD m [])
 rw[zoa]
 rcases Nat.lt_or_ge m L.length with h1|h1
 · rw[zoc h1]
   exact h _ (List.getElem_mem h1)
 · rw[List.getElem?_eq_none h1]
   exactλe=>absurd e.1 zot
theorem yG2{L:List (List Pt)}{m:Nat}(h:yV (uP (gl L m) 0 1 (gl L m).length)<0):tR L 0 1 m L.length=pZ L 0 1 m:=by
 have h1:yV (arZ (gl L m) 0 1)<0:=h;unfold pZ;rw[if_neg zoq]
theorem zWO{L:List (List Pt)}{m:Nat}(hf:∀x,x∈L->aD x)(hs:aE (gl L m) 0 1)(h:¬yV (uP (gl L m) 0 1 (gl L m).length)<0):0<yV (arZ (gl L m) 0 1):=by
 have h1:¬yV (arZ (gl L m) 0 1)<0:=h;have h2:=zY3 (yCP hf m) hs;omega
theorem yG1{L:List (List Pt)}{m:Nat}(hf:∀x,x∈L->aD x)(hs:aE (gl L m) 0 1)(h:¬yV (uP (gl L m) 0 1 (gl L m).length)<0):-1=pZ L 0 1 m:=by
 unfold pZ;rw[if_pos (zWO hf hs h)]
theorem zII{O:List Int}{m:Nat}{f:Nat->Int}{p:Int}(hl:O.length=m)(h:∀q,q<m->O.getD q 0=f q)(hp:p=f m):(O++[p]).length=m+1/\∀q,q<m+1->(O++[p]).getD q 0=f q:=by
 refine⟨by rw[lAz,hl];rfl,λq C=>?_⟩;rw[zoa]
 by_cases e:q=m
 · subst e
   rw[List.getElem?_append_right zoq,hl,Nat.sub_self];exact hp
 · rw[List.getElem?_append_left zoq,<-zoa]
   exact h q zoq
theorem yHC{L:List (List Pt)}{a:Nat}(h:0<yV (arZ (gl L a) 0 1)):¬eO L 0 1 a/\∀b,b<L.length->¬zBW L 0 1 a b:=by
 refine⟨λe=>e.1 h,λb _ e=>?_⟩;have h1:=e.1.1.2;have h2:pZ L 0 1 a= -1:=by unfold pZ;rw[if_pos h]
 omega
theorem yIB{L:List (List Pt)}{m:Nat}(hf:∀x,x∈L->aD x)(hs:aE (gl L m) 0 1)(h:0<=yV (uP (gl L m) 0 1 (gl L m).length)):0<yV (arZ (gl L m) 0 1):=zWO hf hs zoq
theorem zQ8{L:List (List Pt)}{a:Nat}{o:Int}(h:¬0<=yV (uP (gl L a) 0 1 (gl L a).length))(ho:o=pZ L 0 1 a)(h1:o<0):eO L 0 1 a:=by
 have h2:yV (arZ (gl L a) 0 1)<0:=Int.not_le.1 h;refine⟨by omega,?_⟩;rw[ho] at h1;unfold pZ at h1;rw[if_neg zoq] at h1;exact h1
theorem zAT{L:List (List Pt)}{a:Nat}{o:Int}(ho:o=pZ L 0 1 a)(h1:¬o<0):¬eO L 0 1 a:=λe=>by
 rw[ho] at h1;unfold pZ at h1;rw[if_neg e.1] at h1;exact h1 e.2
abbrev Fc:=(Pt×Rat)×List (List Int)×List Nat
abbrev En:=Int×Int×Rat
abbrev Sd:=List Pt×List Fc×List En
abbrev zS7:Pt×Rat:=(zT,(0:Rat))
abbrev zA:Fc:=(zS7,([]:List (List Int)),([]:List Nat))
def nmL(n:Nat)(x:List Int):Prop:=∀k,k<x.length->0<=(x.getD k 0)/\(x.getD k 0)<n
def nmP(s:Sd)(f:Nat):Prop:=∀l,l<((s.2.1.getD f zA).2.1).length->nmL s.1.length ((((s.2.1.getD f zA).2.1).getD l []))
def wR(s:Sd):List (List (List Int)):=qG (λf=>(s.2.1.getD f zA).2.1) s.2.1.length
theorem tL(s:Sd):(wR s).length=s.2.1.length:=xK _ _
theorem aQ{s:Sd}{f:Nat}(h:f<s.2.1.length):((wR s).getD f [])=(s.2.1.getD f zA).2.1:=qY _ _ h
def zE2(ps:List Pt)(x:List Int):Nat->List Pt:=qG λk=>gp ps ((x.getD k 0)).toNat
def zGJ(s:Sd)(f:Nat):Nat->List (List Pt):=qG λl=>zE2 s.1 ((((s.2.1.getD f zA).2.1).getD l [])) ((((s.2.1.getD f zA).2.1).getD l [])).length
noncomputable def xE(s:Sd)(f:Int):List (List Pt):=if(0<=f/\f<s.2.1.length)/\nmP s f.toNat then zGJ s f.toNat ((s.2.1.getD f.toNat zA).2.1).length else[]
theorem yC2{s:Sd}{f:Int}(h:∀f,f<s.2.1.length->(s.2.1.getD f zA).2.1.length<=10000/\∀l,l<(s.2.1.getD f zA).2.1.length->((s.2.1.getD f zA).2.1.getD l []).length<=10000):(xE s f).length<=10000/\∀l,((xE s f).getD l []).length<=10000:=by
 unfold xE
 split
 · rename_i hf
   have h1:=h f.toNat zoq;have h2:(zGJ s f.toNat (s.2.1.getD f.toNat zA).2.1.length).length=(s.2.1.getD f.toNat zA).2.1.length:=xK _ _;refine⟨by omega,λl=>?_⟩
   rcases Nat.lt_or_ge l (s.2.1.getD f.toNat zA).2.1.length with h3|h3
   · unfold zGJ
     rw[qY _ _ h3];unfold zE2;rw[xK];exact h1.2 l h3
   · rw[zoa,List.getElem?_eq_none zoq];exact Nat.zero_le _
 · exact⟨Nat.zero_le _,λl=>Nat.zero_le _⟩
noncomputable def flA(pl:Pl)(l:List Pt):Nat->List Pt:=qG λi=>uW pl (gp l i)
noncomputable def flL(pl:Pl)(L:List (List Pt)):Nat->List (List Pt):=qG λi=>flA pl (gl L i) (gl L i).length
noncomputable def gC(s:Sd)(f:Nat):List (List Pt):=flL ((s.2.1.getD f zA)).1 (xE s f) (xE s f).length
def dg(kind face loop edge:Int):E5:=(kind,(-1:Int),face,loop,edge)
def szP(s:Sd)(f:Nat):Prop:=¬vfP ((s.2.1.getD f zA).2.1)\/¬nmP s f
def zNM(s:Sd):Prop:=(512<s.1.length\/256<s.2.1.length)\/1024<s.2.2.length
noncomputable def yFX(s:Sd):Nat->List E5:=cO (szP s) λf=>dg 1 f (-1) (-1)
noncomputable def szZ(s:Sd):List E5:=if zNM s then yFX s s.2.1.length++[dg 2 (-1) (-1) (-1)] else yFX s s.2.1.length
def twP(s:Sd)(i:Nat):Prop:=∃k,k<i/\gp s.1 i=gp s.1 k
noncomputable def zK2(s:Sd):Nat->List E5:=cO (twP s) λi=>dg 37 (-1) (-1) i
def zrP(s:Sd)(f:Nat):Prop:=((s.2.1.getD f zA)).1.1=zT
noncomputable def zSB(s:Sd):Nat->List E5:=cO (zrP s) λf=>dg 9 f (-1) (-1)
def ofP(s:Sd)(f l k:Nat):Prop:=¬sdZ ((s.2.1.getD f zA)).1 (gp (gl (xE s f) l) k)=0
noncomputable def ofX(s:Sd)(f l:Nat):Nat->List E5:=cO (ofP s f l) λk=>dg 31 f l k
noncomputable def ofL(s:Sd)(f:Nat):Nat->List E5:=tN λl=>ofX s f l (gl (xE s f) l).length
noncomputable def zOW(s:Sd):Nat->List E5:=tN λf=>ofL s f (xE s f).length
theorem mR{s:Sd}{f:Int}(h:∀f,f<s.2.1.length->(s.2.1.getD f zA).2.1.length<=16/\∀l,l<(s.2.1.getD f zA).2.1.length->((s.2.1.getD f zA).2.1.getD l []).length<=64):(xE s f).length<=16/\∀l,((xE s f).getD l []).length<=64:=by
 unfold xE
 split
 · rename_i hf
   have h1:=h f.toNat zoq;have h2:(zGJ s f.toNat (s.2.1.getD f.toNat zA).2.1.length).length=(s.2.1.getD f.toNat zA).2.1.length:=xK _ _;refine⟨by omega,λl=>?_⟩
   rcases Nat.lt_or_ge l (s.2.1.getD f.toNat zA).2.1.length with h3|h3
   · unfold zGJ
     rw[qY _ _ h3];unfold zE2;rw[xK];exact h1.2 l h3
   · rw[zoa,List.getElem?_eq_none zoq];exact Nat.zero_le _
 · exact⟨Nat.zero_le _,λl=>Nat.zero_le _⟩
section
variable {s:Sd}(h:∀f,f<s.2.1.length->(s.2.1.getD f zA).2.1.length<=16/\∀l,l<(s.2.1.getD f zA).2.1.length->((s.2.1.getD f zA).2.1.getD l []).length<=64)
include h
theorem zFC(f:Nat):∀l,(ofL s f l).length<=64*l
  |0=>Nat.le_refl _
  |l+1=>by
   have h1:=zFC f l;have h2:(ofX s f l ((xE s f).getD l []).length).length<=((xE s f).getD l []).length:=pT _ _ _;have h3:=(mR (f:=↑f) h).2 l
   show List.length (ofL s f l++ofX s f l ((xE s f).getD l []).length)<=_
   rw[lAz];omega
theorem zW5:∀f,f<=s.2.1.length->(zOW s f).length<=1024*f
  |0,_=>Nat.le_refl _
  |f+1,hf=>by
   have h1:=zW5 f zoq;have h2:=zFC h f (xE s f).length;have h3:=(mR (f:=↑f) h).1
   show List.length (zOW s f++ofL s f (xE s f).length)<=_
   rw[lAz];omega
end
noncomputable def plZ(s:Sd):List E5:=if 0<(zSB s s.2.1.length).length then zSB s s.2.1.length else zOW s s.2.1.length
noncomputable def u6(L:List (List Pt)):Nat->Int
  |0=>0
  |m+1=>if 0<yV (arZ (gl L m) 0 1) then u6 L m+1 else u6 L m
theorem zAL(L:List (List Pt)):∀m,0<=u6 L m/\u6 L m<=m
  |0=>by unfold u6;omega
  |m+1=>by
   have h:=zAL L m;unfold u6
   split<;>omega
theorem ou_t{L:List (List Pt)}{m:Nat}(h:0<yV (arZ (gl L m) 0 1)):u6 L m+1=u6 L (m+1):=(if_pos h).symm
theorem ou_f{L:List (List Pt)}{m:Nat}(h:¬0<yV (arZ (gl L m) 0 1)):u6 L m=u6 L (m+1):=(if_neg h).symm
noncomputable def ouZ(L:List (List Pt)):Int:=u6 L L.length
def bnP(s:Sd)(f:Nat):Prop:=¬vW (gC s f) 0 1=0
noncomputable def zZR(s:Sd):Nat->List E5:=cO (bnP s) λf=>dg (vW (gC s f) 0 1) f (-1) (-1)
def mnP(s:Sd)(f:Nat):Prop:=¬ouZ (gC s f)=1
noncomputable def yHF(s:Sd):Nat->List E5:=cO (mnP s) λf=>dg 33 f (-1) (-1)
noncomputable def neZ(s:Sd):List E5:=if 0<(zZR s s.2.1.length).length then zZR s s.2.1.length else yHF s s.2.1.length
theorem zMG(L:List (List Pt))(i j:Nat):0<=vW L i j/\vW L i j<=33:=by
 unfold vW
 repeat' split
 all_goals decide
theorem zA9(s:Sd)(f:Nat):(gC s f).length=(xE s ↑f).length/\∀l,((gC s f).getD l []).length=((xE s ↑f).getD l []).length:=by
 have h1:(gC s f).length=(xE s ↑f).length:=xK _ _;refine⟨h1,λl=>?_⟩
 rcases Nat.lt_or_ge l (xE s ↑f).length with h|h
 · unfold gC flL
   rw[qY _ _ h];exact xK _ _
 · rw[zoa,zoa,List.getElem?_eq_none zoq,List.getElem?_eq_none h]
def okS(s:Sd):Prop:=((s.1.length<=1000/\s.2.1.length<=1000)/\s.2.2.length<=2000)/\(∀f,f<s.2.1.length->(s.2.1.getD f zA).2.1.length<=16/\∀l,l<(s.2.1.getD f zA).2.1.length->((s.2.1.getD f zA).2.1.getD l []).length<=64)/\∀f,f<s.2.1.length->∀x,x∈gC s f->aD x
theorem okS.big{s:Sd}(h:okS s):∀f,f<s.2.1.length->(s.2.1.getD f zA).2.1.length<=10000/\∀l,l<(s.2.1.getD f zA).2.1.length->((s.2.1.getD f zA).2.1.getD l []).length<=10000:=λf hf=>⟨Nat.le_trans (h.2.1 f hf).1 zot,λl hl=>Nat.le_trans ((h.2.1 f hf).2 l hl) zot⟩
theorem okS.mem{s:Sd}(h:okS s):∀f,f<s.2.1.length->(s.2.1.getD f zA).2.1.length<=100000/\∀x,x∈(s.2.1.getD f zA).2.1->x.length<=100000:=λf hf=>⟨Nat.le_trans (h.2.1 f hf).1 zot,λx hx=>by
 obtain⟨m,hm,e⟩:=List.getElem_of_mem hx;have:=(h.2.1 f hf).2 m hm;rw[zoa,zoc hm] at this;rw[<-e];exact Nat.le_trans this zot⟩
noncomputable def zZJ(s:Sd):List E5:=if 0<(szZ s).length then szZ s else if 0<(zK2 s s.1.length).length then zK2 s s.1.length else if 0<(plZ s).length then plZ s else if 0<(neZ s).length then neZ s else clZ (wR s)
def kZ(s:Sd):Prop:=(zZJ s).length=0
def lsP(p q:Pt):Prop:=p.x<q.x\/(p.x=q.x/\(p.y<q.y\/(p.y=q.y/\p.z<q.z)))
def cH:List Int->List Int->Int
  |[],[]=>0
  |[],_::_=>-1
  |_::_,[]=>1
  |x::a,y::b=>if x=y then cH a b else if x<y then -1 else 1
theorem zRY{i:Nat}:∀{a b:List Int},(∀u,u<i->(a.getD u 0)=(b.getD u 0))->i<a.length->i<b.length->¬(a.getD i 0)=(b.getD i 0)->cH a b=if(a.getD i 0)<(b.getD i 0) then -1 else 1:=by
 induction i with
 |zero=>
  intro a b _ ha hb hne
  match a,b,ha,hb with
  |x::a,y::b,_,_=>exact if_neg hne
 |succ i ih=>
  intro a b h ha hb hne
  match a,b,ha,hb with
  |x::a,y::b,ha,hb=>
   have h0:x=y:=h 0 zoq
   show(if x=y then cH a b else _)=_
   rw[if_pos h0];exact ih (λu hu=>h (u+1) zoq) (by simpa using ha) (by simpa using hb) hne
theorem zGP{i:Nat}:∀{a b:List Int},(∀u,u<i->(a.getD u 0)=(b.getD u 0))->i=min a.length b.length->cH a b=if a.length<b.length then -1 else if b.length<a.length then 1 else 0:=by
 induction i with
 |zero=>
  intro a b _ he
  match a,b with
  |[],[]=>rfl
  |[],_::_=>rfl
  |_::_,[]=>rfl
  |_::_,_::_=>simp at he
 |succ i ih=>
  intro a b h he
  match a,b with
  |[],_=>simp at he
  |_::_,[]=>simp at he
  |x::a,y::b=>
   have h0:x=y:=h 0 zoq
   show(if x=y then cH a b else _)=_
   rw[if_pos h0,ih (λu hu=>h (u+1) zoq) (by simp at he;omega)];simp only[lC,Nat.add_lt_add_iff_right]
theorem g5:∀a b:List Int,-1<=cH a b/\cH a b<=1
  |[],[]=>⟨by show(-1:Int)<=0;decide,by show(0:Int)<=1;decide⟩
  |[],_::_=>⟨by show(-1:Int)<= -1;decide,by show(-1:Int)<=1;decide⟩
  |_::_,[]=>⟨by show(-1:Int)<=1;decide,by show(1:Int)<=1;decide⟩
  |x::a,y::b=>by
   show -1<=(if x=y then cH a b else if x<y then -1 else 1)/\(if x=y then cH a b else if x<y then -1 else 1)<=1
   split
   · exact g5 a b
   · split<;>decide
def cQ(x:List Int):Nat->Nat
  |0=>0
  |m+1=>if(x.getD m 0)<(x.getD (cQ x m) 0) then m else cQ x m
theorem yDZ(x:List Int):∀m,cQ x m<m\/cQ x m=0
  |0=>.inr rfl
  |m+1=>by
   have h:=yDZ x m;unfold cQ
   split<;>omega
theorem mn_t{x:List Int}{m:Nat}(h:(x.getD m 0)<(x.getD (cQ x m) 0)):m=cQ x (m+1):=(if_pos h).symm
theorem mn_f{x:List Int}{m:Nat}(h:¬(x.getD m 0)<(x.getD (cQ x m) 0)):cQ x m=cQ x (m+1):=(if_neg h).symm
def zS0(x:List Int):List Int:=x.drop (cQ x x.length)++x.take (cQ x x.length)
def zT4:List (List Int)->List (List Int)->Prop
  |[],[]=>False
  |[],_::_=>True
  |_::_,[]=>False
  |x::a,y::b=>if cH x y=0 then zT4 a b else cH x y<0
theorem yB4{i:Nat}:∀{a b:List (List Int)},(∀u,u<i->cH ((a.getD u [])) ((b.getD u []))=0)->i<a.length->i<b.length->¬cH ((a.getD i [])) ((b.getD i []))=0->(zT4 a b↔cH ((a.getD i [])) ((b.getD i []))<0):=by
 induction i with
 |zero=>
  intro a b _ ha hb hne
  match a,b,ha,hb with
  |x::a,y::b,_,_=>exact Iff.of_eq (if_neg hne)
 |succ i ih=>
  intro a b h ha hb hne
  match a,b,ha,hb with
  |x::a,y::b,ha,hb=>
   have h0:cH x y=0:=h 0 zoq
   show(if cH x y=0 then zT4 a b else _)↔_
   rw[if_pos h0];exact ih (λu hu=>h (u+1) zoq) (by simpa using ha) (by simpa using hb) hne
theorem zXV{i:Nat}:∀{a b:List (List Int)},(∀u,u<i->cH ((a.getD u [])) ((b.getD u []))=0)->i=min a.length b.length->(zT4 a b↔a.length<b.length):=by
 induction i with
 |zero=>
  intro a b _ he
  match a,b with
  |[],[]=>exact⟨False.elim,λh=>absurd h (Nat.lt_irrefl _)⟩
  |[],_::_=>exact⟨λ_=>Nat.zero_lt_succ _,λ_=>trivial⟩
  |_::_,[]=>exact⟨False.elim,λh=>absurd h (Nat.not_lt_zero _)⟩
  |_::_,_::_=>simp at he
 |succ i ih=>
  intro a b h he
  match a,b with
  |[],_=>simp at he
  |_::_,[]=>simp at he
  |x::a,y::b=>
   have h0:cH x y=0:=h 0 zoq
   show(if cH x y=0 then zT4 a b else _)↔_
   rw[if_pos h0,ih (λu hu=>h (u+1) zoq) (by simp at he;omega)];simp only[lC,Nat.add_lt_add_iff_right]
def lsF(a b:Fc):Prop:=if a.2.2=b.2.2 then zT4 a.2.1 b.2.1 else lsN a.2.2 b.2.2
theorem ls_x{p q:Pt}(h:¬xS p.x q.x=0):xS p.x q.x<0↔lsP p q:=by
 unfold lsP;rw[mS];rw[aT] at h;exact⟨.inl,λe=>e.elim id λe=>absurd e.1 h⟩
theorem ls_y{p q:Pt}(h:xS p.x q.x=0)(h2:¬xS p.y q.y=0):xS p.y q.y<0↔lsP p q:=by
 unfold lsP;rw[mS];rw[aT] at h h2;have:=@Rat.lt_irrefl p.x;exact⟨λe=>.inr ⟨h,.inl e⟩,λe=>e.elim (λe=>absurd (h▸e) this) λe=>e.2.elim id λe=>absurd e.1 h2⟩
theorem ls_z{p q:Pt}(h:xS p.x q.x=0)(h2:xS p.y q.y=0)(h3:¬xS p.z q.z=0):xS p.z q.z<0↔lsP p q:=by
 unfold lsP;rw[mS];rw[aT] at h h2;have D:=@Rat.lt_irrefl p.x;have C:=@Rat.lt_irrefl p.y;exact⟨λe=>.inr ⟨h,.inr ⟨h2,e⟩⟩,λe=>e.elim (λe=>absurd (h▸e) D) λe=>e.2.elim (λe=>absurd (h2▸e) C) λe=>e.2⟩
theorem yK2{p q:Pt}(h:xS p.x q.x=0)(h2:xS p.y q.y=0)(h3:xS p.z q.z=0):¬lsP p q:=by
 rw[aT] at h h2 h3;have H:=@Rat.lt_irrefl p.x;have D:=@Rat.lt_irrefl p.y;have C:=@Rat.lt_irrefl p.z;exactλe=>e.elim (λe=>absurd (h▸e) H) λe=>e.2.elim (λe=>absurd (h2▸e) D) λe=>absurd (h3▸e.2) C
theorem yK4{p q:Pt}{i:Nat}(hi:i<3)(h:∀u,u<i->xS (p.at u) (q.at u)=0)(hn:¬xS (p.at i) (q.at i)=0):xS (p.at i) (q.at i)<0↔lsP p q:=by
 match i,hi with
 |0,_=>exact ls_x hn
 |1,_=>exact ls_y (h 0 zot) hn
 |2,_=>exact ls_z (h 0 zot) (h 1 zot) hn
theorem yHM{p q:Pt}(h:∀u,u<3->xS (p.at u) (q.at u)=0):¬lsP p q:=yK2 (h 0 zot) (h 1 zot) (h 2 zot)
noncomputable def ivA(x:Rat):Rat:=if iV x=0 then 0 else((1:Int):Rat)/iV x
noncomputable def scW(r:Rat)(pl:Pl):Pl:=(T3.mk (r*pl.1.x) (r*pl.1.y) (r*pl.1.z),r*pl.2)
noncomputable def scZ(pl:Pl):Pl:=if ¬yV pl.1.x=0 then scW (ivA pl.1.x) pl else if ¬yV pl.1.y=0 then scW (ivA pl.1.y) pl else if ¬yV pl.1.z=0 then scW (ivA pl.1.z) pl else zS7
theorem yKI{pl:Pl}{i:Nat}(hi:i<3)(h:∀u,u<i->yV (pl.1.at u)=0)(hn:¬yV (pl.1.at i)=0):scW (ivA (pl.1.at i)) pl=scZ pl:=by
 unfold scZ
 match i,hi with
 |0,_=>exact(if_pos hn).symm
 |1,_=>exact((if_neg (λe=>e (h 0 zot))).trans (if_pos hn)).symm
 |2,_=>exact((if_neg (λe=>e (h 0 zot))).trans ((if_neg (λe=>e (h 1 zot))).trans (if_pos hn))).symm
theorem yGN{pl:Pl}(h:∀u,u<3->yV (pl.1.at u)=0):zS7=scZ pl:=by
 unfold scZ;exact((if_neg (λe=>e (h 0 zot))).trans ((if_neg (λe=>e (h 1 zot))).trans (if_neg (λe=>e (h 2 zot))))).symm
def zLG(x:List Int):Nat->List Int:=qG λi=>x.getD (x.length-1-i) 0
def zIY(E:List E5)(m i:Nat):Prop:=∃q,q<m/\(E.getD q ((0:Int),(0:Int),(0:Int),(0:Int),(0:Int))).1=(i:Int)
theorem zU4{E:List E5}{m n:Nat}{U:List Prop}(hl:U.length=n)(h:∀u,u<n->(U.getD u False↔zIY E m u))(h0:0<=(E.getD m ((0:Int),(0:Int),(0:Int),(0:Int),(0:Int))).1)(h1:(E.getD m ((0:Int),(0:Int),(0:Int),(0:Int),(0:Int))).1<n):∀u,u<n->((U.set (E.getD m ((0:Int),(0:Int),(0:Int),(0:Int),(0:Int))).1.toNat True).getD u False↔zIY E (m+1) u):=by
 intro u D;rw[zoa,List.getElem?_set];have hx:zIY E (m+1) u↔zIY E m u\/(E.getD m ((0:Int),(0:Int),(0:Int),(0:Int),(0:Int))).1=(u:Int):=by
  constructor
  · rintro⟨q,C,e⟩
    rcases Nat.lt_succ_iff_lt_or_eq.1 C with h|h
    · exact .inl ⟨q,h,e⟩
    · subst h;exact .inr e
  · rintro(⟨q,C,e⟩|e)
    · exact⟨q,by omega,e⟩
    · exact⟨m,by omega,e⟩
 rw[hx]
 split
 · rename_i e
   rw[if_pos zoq];exact⟨λ_=>.inr zoq,λ_=>trivial⟩
 · rename_i e
   have:=h u D;rw[zoa] at this;rw[this];exact⟨.inl,λh=>h.resolve_right zoq⟩
def nmA(s:Sd):Prop:=∀f,f<s.2.1.length->nmP s f
theorem zUF{s:Sd}(h:nmA s){q:Nat}(hq:q<(edZ (wR s)).length):0<=((edZ (wR s)).getD q ((0:Int),(0:Int),(0:Int),(0:Int),(0:Int))).1/\((edZ (wR s)).getD q ((0:Int),(0:Int),(0:Int),(0:Int),(0:Int))).1<s.1.length:=by
 have C:=kA (d:=((0:Int),(0:Int),(0:Int),(0:Int),(0:Int))) hq;generalize (edZ (wR s)).getD q ((0:Int),(0:Int),(0:Int),(0:Int),(0:Int))=e at C ⊢;obtain⟨f,hf,C⟩:=zGE C;obtain⟨l,D,C⟩:=zGE C;obtain⟨i,hi,rfl⟩:=zQ5 C;rw[tL] at hf;have H:(wR s).getD f []=(s.2.1.getD f zA).2.1:=qY _ _ hf;rw[H] at D hi ⊢;exact h f hf l D i hi
theorem yCX{s:Sd}(h:okS s):(edZ (wR s)).length<=1100000:=by
 have h1:=zBF (F:=wR s) (λf hf=>by rw[tL] at hf;rw[aQ hf];exact h.2.1 f hf) _ (Nat.le_refl _);rw[tL] at h1;have h2:=h.1.1.2
 show(edF (wR s) (wR s).length).length<=_
 rw[tL];omega
def zTB(s:Sd)(out:List Int)(i k:Nat):Prop:=lsP (gp s.1 i) (gp s.1 (out.getD k 0).toNat)
noncomputable def aH(s:Sd):Nat->List Int
  |0=>[]
  |i+1=>if zIY (edZ (wR s)) (edZ (wR s)).length i then iN (aH s i) (aL (zTB s (aH s i) i) (aH s i).length) (i:Int) else aH s i
theorem zOU(s:Sd):∀i,(aH s i).length<=i
  |0=>Nat.le_refl _
  |i+1=>by
   have:=zOU s i;unfold aH
   split
   · rw[zF8 _ _ (zD7 _ _)];omega
   · omega
theorem zJL{s:Sd}{x:Int}:∀{i},x∈aH s i->0<=x/\x<i
  |0,h=>absurd h List.not_mem_nil
  |i+1,h=>by
   unfold aH at h
   split at h
   · unfold iN at h
     rcases List.mem_append.1 h with h|h
     · have:=zJL (List.mem_of_mem_take h);omega
     · rcases List.mem_cons.1 h with rfl|h
       · omega
       · have:=zJL (List.mem_of_mem_drop h);omega
   · have:=zJL h;omega
theorem oH{s:Sd}{i k:Nat}(h:k<(aH s i).length):0<=(aH s i).getD k 0/\(aH s i).getD k 0<i:=zJL (kA h)
def nwL(s:Sd)(ix:List Int)(f i:Nat):Nat->List Int:=qG λq=>ix.getD (((s.2.1.getD f zA).2.1.getD i []).getD q 0).toNat 0
def nfL(s:Sd)(ix:List Int)(f i:Nat):List Int:=zS0 (nwL s ix f i ((s.2.1.getD f zA).2.1.getD i []).length)
def zDJ(s:Sd)(f i:Nat):Prop:=0<yV (arZ (gl (gC s f) i) 0 1)
noncomputable def ouL(s:Sd)(ix:List Int)(f:Nat):Nat->List (List Int):=cO (zDJ s f) (nfL s ix f)
def zYO(l:List Int)(D:List (List Int))(k:Nat):Prop:=cH l (D.getD k [])<0
noncomputable def j9(s:Sd)(ix:List Int)(f:Nat):Nat->List (List Int)
  |0=>[]
  |i+1=>if zDJ s f i then j9 s ix f i else iN (j9 s ix f i) (aL (zYO (nfL s ix f i) (j9 s ix f i)) (j9 s ix f i).length) (nfL s ix f i)
theorem zPU(s:Sd)(ix:List Int)(f:Nat):∀i,(j9 s ix f i).length<=i
  |0=>Nat.le_refl _
  |i+1=>by
   have:=zPU s ix f i;unfold j9
   split
   · omega
   · rw[zF8 _ _ (zD7 _ _)];omega
noncomputable def nfF(s:Sd)(ix:List Int)(f:Nat):Fc:=(scZ (s.2.1.getD f zA).1,ouL s ix f (s.2.1.getD f zA).2.1.length++j9 s ix f (s.2.1.getD f zA).2.1.length,(s.2.1.getD f zA).2.2)
theorem zP0{s:Sd}{f:Nat}(hf:f<s.2.1.length)(h:nmP s f):xE s ↑f=zGJ s f (s.2.1.getD f zA).2.1.length:=if_pos ⟨by omega,h⟩
theorem yIF{s:Sd}{f:Nat}(hf:f<s.2.1.length)(h:nmP s f):(gC s f).length=(s.2.1.getD f zA).2.1.length:=by
 rw[(zA9 s f).1,zP0 hf h];exact xK _ _
noncomputable def fI(s:Sd):List Int:=aH s s.1.length
noncomputable def zG9(s:Sd):Nat->List Int
  |0=>List.replicate s.1.length (0:Int)
  |i+1=>(zG9 s i).set ((fI s).getD i 0).toNat (i:Int)
theorem zCH(s:Sd):∀i,(zG9 s i).length=s.1.length
  |0=>List.length_replicate
  |i+1=>by unfold zG9;rw[lS];exact zCH s i
noncomputable def ixZ(s:Sd):List Int:=zG9 s (fI s).length
noncomputable def zXG(s:Sd):Nat->List Pt:=qG λi=>gp s.1 ((fI s).getD i 0).toNat
def zPJ(x:Fc)(D:List Fc)(k:Nat):Prop:=lsF x (D.getD k zA)
noncomputable def j3(s:Sd):Nat->List Fc
  |0=>[]
  |f+1=>iN (j3 s f) (aL (zPJ (nfF s (ixZ s) f) (j3 s f)) (j3 s f).length) (nfF s (ixZ s) f)
theorem zO8(s:Sd):∀f,(j3 s f).length=f
  |0=>rfl
  |f+1=>by
   unfold j3;rw[zF8 _ _ (zD7 _ _),zO8 s f]
noncomputable def nrP(s:Sd):List Pt:=if kZ s then zXG s (fI s).length else[]
noncomputable def nrF(s:Sd):List Fc:=if kZ s then j3 s s.2.1.length else[]
noncomputable def nrE(s:Sd):List En:=if kZ s then s.2.2 else[]
theorem yF1{s:Sd}(h:kZ s):nmA s:=by
 have h1:(szZ s).length=0:=by
  unfold kZ zZJ at h
  split at h
  · omega
  · omega
 have h2:szZ s=[]:=zof h1;unfold szZ at h2
 split at h2
 · exact absurd h2 zoy
 · intro f hf
   exact Classical.byContradiction λe=>(oC _).1 h2 f hf (.inr e)
theorem zFO{s:Sd}(h:okS s){ix:List Int}{f:Nat}(hf:f<s.2.1.length):(nfF s ix f).2.1.length<=100:=by
 have h1:=pT (zDJ s f) (nfL s ix f) (s.2.1.getD f zA).2.1.length;have h2:=zPU s ix f (s.2.1.getD f zA).2.1.length;have h3:=(h.2.1 f hf).1
 show List.length (ouL s ix f _++j9 s ix f _)<=_
 rw[lAz];have C:(ouL s ix f (s.2.1.getD f zA).2.1.length).length<=(s.2.1.getD f zA).2.1.length:=h1;omega
theorem zYJ{α:Type}{p:α->Prop}{l:List α}{k:Nat}{x:α}(h:∀y,y∈l->p y)(hx:p x):∀y,y∈iN l k x->p y:=by
 intro y hy;unfold iN at hy
 rcases List.mem_append.1 hy with hy|hy
 · exact h y (List.mem_of_mem_take hy)
 · rcases List.mem_cons.1 hy with rfl|hy
   · exact hx
   · exact h y (List.mem_of_mem_drop hy)
theorem zXD{s:Sd}(h:okS s):∀f,f<=s.2.1.length->∀x,x∈j3 s f->x.2.1.length<=100
  |0,_,x,hx=>absurd hx List.not_mem_nil
  |f+1,hf,x,hx=>zYJ (p:=λx:Fc=>x.2.1.length<=100) (zXD h f zoq) (zFO h zoq) x hx
end Bk
namespace Go.Proofs.YtpkaegemlpaenaaGreat
open Bk Go Tryz
set_option maxRecDepth 10000
set_option maxHeartbeats 1000000
attribute [local irreducible] GL GC GQ W OpV
section
variable{w0:World}{h0:Mem}(hs:MLe h0 (mem w0))
include hs
theorem zG2{vL:Value}{L:(List (List Int))}(rL:tII.Is h0 vL L)(hcd0:L.length<=100000)(hcd1:∀x,x∈L->x.length<=100000):
 Calls Tryz.prog 99 #[vL] w0 (Ret w0 h0 (λh r=>tII.Is h r L)):=by
 refine cb1 20 vL func99 hs ?_;refine oW ?_;refine xM 22 1 ?_;have aa:=RL.nil (ρ:=rpS rpI) (h:=h0);refine gcL (ι:=Nat×List (List Int)×Value×List Value×Mem) (λ(i,D,C,H,mi)=>(MLe h0 mi/\(RL (rpS rpI) mi H D/\i<=L.length/\D=L.take i),[(0,vL),(3,C),(4,vI ↑i)],[.gs 22 1 C D.length H],mi,L.length-i)) (0,[],(.slice none 0 0),[],h0) ?_ ?_
 · exact⟨mle,aa,by omega,I⟩
 rintro⟨i,D,C,H,mi⟩ ⟨an,J,ba,hD⟩
 refine xC ?_;have bc:=zYX hcd1 i;have az:D.length<=i:=by rw[hD,List.length_take];omega
 refine gc9 (λam=>?_) λam=>?_
 ·
  refine go8 ?_;refine lX (xI [] i underlying51 fN rL) λav aj=>(lX (xA fN aj) λau ai=>(zIF 3 1 ?_));have Z:=RL.nil (ρ:=rpI) (h:=mi);refine xR (A:=[]) (zV (ρ:=rpI) (bytes:=8) underlying22 gK I I I I nP I I Z ai bO bO) I I I ?_
  rintro ar ay ⟨ap,rfl,ad⟩
  refine yC (A:=[]) (ρ:=rpI) ad ?_;intro h1 ak U;refine zK (zO (ρ:=(rpS rpI)) (m:=1) (xs:=[(([]:List Int)++(L.getD i []))]) (ps':=[(0,_)]) underlying51 jF I I I vC e2z (zG I (Pc.arr (Pc.here _) [] 0 dC) U zR) zoj nP) I I I ?_
  rintro aq ax ⟨ao,rfl,ac⟩
  refine yC (A:=[]) (ρ:=(rpS rpI)) ac ?_;intro h2 bb O;refine xR (A:=[]) (zV (ρ:=(rpS rpI)) (bytes:=24) underlying51 jF I I I I nP I I J.up O bO bO) I I I ?_
  rintro ah aw ⟨ae,rfl,ab⟩
  refine go9 ?_;refine gqL ((i+1),(D++[(([]:List Int)++(L.getD i []))]),ah,ae,h2) ?_ ?_
  · exact⟨mle,ab,by omega,by rw[hD,List.nil_append];exact(zSG [] oM).symm⟩
  omega
 have ei:i=L.length:=by omega
 refine qE ?_;refine vZ (A:=[]) (ρ:=(rpS rpI)) J.up ?_;intro h1 ak M;refine zC I I ?_;exact(Rp.Is.cast M (by rw[hD,ei,List.take_length]))
theorem zH4{k m n j:Nat}{vs:Value}{s:Sq}(rs:(tSd k m n j).Is h0 vs s)(hcd0:s.2.1.length<=100000)(hcd1:∀f,f<s.2.1.length->(s.2.1.getD f zA).2.1.length<=100000/\∀x,x∈(s.2.1.getD f zA).2.1->x.length<=100000):
 Calls Tryz.prog 136 #[vs] w0 (Ret w0 h0 (λh r=>(rpS tII).Is h r (wR s))):=by
 refine cb1 23 vs func136 hs ?_;refine go2 ?_;refine nB rs λb1 ao ab=>(pP ?_);refine xM 51 1 ?_;have U:=RL.nil (ρ:=rpS (rpS rpI)) (h:=h0);refine gcL (ι:=Nat×List (List (List Int))×Value×List Value×Mem) (λ(f,D,C,H,mf)=>(MLe h0 mf/\(RL tII mf H D/\f<=s.2.1.length/\D=qG (λf=>(s.2.1.getD f zA).2.1) f),[(1,vP b1 0),(3,C),(4,vI ↑f)],[.gs 51 1 C D.length H,.var b1 39 ao],mf,s.2.1.length-f)) (0,[],(.slice none 0 0),[],h0) ?_ ?_
 · exact⟨mle,U,by omega,I⟩
 rintro⟨f,D,C,H,mf⟩ ⟨ap,J,bd,hD⟩
 refine xC ?_;have bb:D.length=f:=by rw[hD];exact xK _ _
 refine go5 ?_;refine lX (xB fQ (Pc.snd (Pc.fst pH)) ab) λv7 r7=>(gc4 (λan=>?_) λan=>?_)
 ·
  refine go7 ?_;refine lX (xB fQ (Pc.snd (Pc.fst pH)) ab) λay ak=>(go1 ?_);refine lX (xI zA f underlying36 bJ ak) λax aj=>(lX (xF underlying53 sizeOf51 (Pc.snd (Pc.fst pH)) aj) λaw ai=>(lX (xA bK ai) λav ah=>(cL (ev1 I) call99 (λw hs=>zG2 hs ah (by first|omega|exact(hcd1 f oM).1|exact(hcd1 f oM).2) (by first|omega|exact(hcd1 f oM).1|exact(hcd1 f oM).2)) λau h1 am ae=>(zK (zO (ρ:=tII) (m:=1) (xs:=[(((s.2.1.getD f zA).2).1)]) (ps':=[(0,_)]) underlying165 zPT I I I vC e2z (zG I (Pc.arr (Pc.here _) [] 0 dC) ae zR) zoj nP) I I I ?_))))
  rintro ar ba ⟨aq,rfl,aa⟩
  refine yC (A:=[]) (ρ:=tII) aa ?_;intro h2 bc O;refine xR (A:=[]) (zV (ρ:=tII) (bytes:=24) underlying165 zPT I I I I nP I I J.up O bO bO) I I I ?_
  rintro ad az ⟨ac,rfl,Z⟩
  refine go9 ?_;refine gqL ((f+1),(D++[(((s.2.1.getD f zA).2).1)]),ad,ac,h2) ?_ ?_
  · exact⟨mle,Z,by omega,by rw[hD];rfl⟩
  omega
 have ef:f=s.2.1.length:=by omega
 refine qE ?_;refine vZ (A:=[]) (ρ:=tII) J.up ?_;intro h1 am M;refine zC I I ?_;exact(Rp.Is.cast M (by rw[hD,ef];rfl))
theorem zH3{k m n j:Nat}{vs:Value}{s:Sq}(rs:(tSd k m n j).Is h0 vs s){f:Int}(hf1:-9223372036854775808<=f)(hf2:f<9223372036854775808)(hcd0:0<=f)(hcd1:f<↑s.2.1.length)(hcd2:(s.2.1.getD f.toNat zA).2.1.length<=100000)(hcd3:∀l,l<(s.2.1.getD f.toNat zA).2.1.length->((s.2.1.getD f.toNat zA).2.1.getD l []).length<=100000):
 Calls Tryz.prog 158 #[vs,vI f] w0 (Ret w0 h0 (λ_ r=>r=vB (nmP s f.toNat))):=by
 refine cb2 50 vs (vI f) func158 hs ?_;refine go2 ?_;refine nB rs λb2 ac J=>(go6 ?_);refine lX (xB fQ (Pc.snd (Pc.fst pH)) J) λv9 r9=>(go1 ?_);refine lX (xI zA f.toNat underlying36 bJ r9) λbm ar=>(lX (xF underlying53 sizeOf51 (Pc.snd (Pc.fst pH)) ar) λbl aq=>(lX (xA bK aq) λH D=>(uK ?_)));refine gcL (ι:=Nat×Mem) (λ(l,O)=>(MLe h0 O/\(l<=(s.2.1.getD f.toNat zA).2.1.length/\∀u,u<l->nmL s.1.length ((s.2.1.getD f.toNat zA).2.1.getD u [])),[(2,vP b2 0),(5,H),(6,vI ↑l)],[.var b2 39 ac],O,(s.2.1.getD f.toNat zA).2.1.length-l)) (0,h0) ?_ ?_
 · exact⟨mle,by omega,λu h=>by omega⟩
 rintro⟨l,O⟩ ⟨ax,bp,U⟩
 refine xC ?_;refine gc9 (λab=>?_) λab=>?_
 ·
  refine uK ?_;refine gcL (ι:=Nat×Mem) (λ(i,M)=>(MLe O M/\(i<=((s.2.1.getD f.toNat zA).2.1.getD l []).length/\∀u,u<i->0<=((s.2.1.getD f.toNat zA).2.1.getD l []).getD u 0/\((s.2.1.getD f.toNat zA).2.1.getD l []).getD u 0<↑s.1.length),[(2,vP b2 0),(5,H),(6,vI ↑l),(7,vI ↑i)],[.var b2 39 ac],M,((s.2.1.getD f.toNat zA).2.1.getD l []).length-i)) (0,O) ?_ ?_
  · exact⟨mle,by omega,λu h=>by omega⟩
  rintro⟨i,M⟩ ⟨aw,bq,hi2⟩
  refine xC ?_;have bo:=hcd3 l oM;refine go6 ?_;refine lX (xI [] l underlying51 fN D) λbk ap=>(lX (xA fN ap) λbj bn=>(gc4 (λaa=>?_) λaa=>?_))
  ·
   refine go5 ?_;refine zJ 21 _ [] [(0,.q),(1,.q),(2,.q),(3,.q),(4,.q),(5,.q),(6,.q),(7,.q),(8,.q),(9,.q),(10,.q),(11,.q),(12,.q),(13,.q),(14,.q),(15,.q),(16,.q),(17,.q),(18,.q),(19,.q),(20,.q)] yA nX (wP zor) nX (λr hr=>hr) (go2 ?_);refine wX I (xI [] l underlying51 fN D) λbi ao=>(wX I (xA fN ao) λbh an=>(go1 ?_));refine wX I (xI (0:Int) i underlying22 ty3 an) λbg am=>(wX I (xA ty3 am) λbf ak=>?_);obtain⟨rfl,az,av⟩:=kM ak;refine go2 ?_;refine jT ((((((s.2.1.getD f.toNat zA).2).1).getD l []).getD i (0:Int))<(0:Int)) (λC=>?_) (λC=>?_)
   ·
    rw[xT C];refine go30 ?_;refine zC I I ?_;exact(yM (λe=>by have:=e l oM i oM;omega)).symm
   rw[yM C];refine yS I I I (λh' L' hh hR=>yY I) I (yS I I I (λh' L' hh hR=>yY I) I (oX I (xI [] l underlying51 fN D) λbe aj=>(oX I (xA fN aj) λbd ai=>(yS I I I (λh' L' hh hR=>yY I) I (oX I (xI (0:Int) i underlying22 ty3 ai) λbc ah=>(oX I (xA ty3 ah) λbb ae=>?_))))));obtain⟨rfl,ay,au⟩:=kM ae;refine go1 ?_;refine oX I (xB uN (Pc.fst pH) J) λba ad=>(yS I I I (λh' L' hh hR=>qH underlying35 I (ad.mono hh)) I (gc4 (λZ=>?_) λZ=>?_))
   ·
    refine pP ?_;refine zC I I ?_;exact(yM (λe=>by have:=e l oM i oM;omega)).symm
   refine go8 ?_;refine gqL ((i+1),M) ?_ ?_
   · exact⟨mle,by omega,vH (Q:=λu=>0<=((s.2.1.getD f.toNat zA).2.1.getD l []).getD u 0/\((s.2.1.getD f.toNat zA).2.1.getD l []).getD u 0<↑s.1.length) hi2 oM⟩
   omega
  refine qI ?_;refine gqL ((l+1),M) ?_ ?_
  · exact⟨mle,by omega,vH (Q:=λu=>nmL s.1.length ((s.2.1.getD f.toNat zA).2.1.getD u [])) U (λu hu=>hi2 u oM)⟩
  omega
 refine qI ?_;refine zC I I ?_;exact(xT (λu hu=>U u oM)).symm
theorem zC7{k m n j:Nat}{vs:Value}{s:Sq}(rs:(tSd k m n j).Is h0 vs s){f:Int}(hf1:-9223372036854775808<=f)(hf2:f<9223372036854775808)(hcd0:s.1.length<=100000)(hcd1:∀f,f<s.2.1.length->(s.2.1.getD f zA).2.1.length<=10000/\∀l,l<(s.2.1.getD f zA).2.1.length->((s.2.1.getD f zA).2.1.getD l []).length<=10000):
 Calls Tryz.prog 118 #[vs,vI f] w0 (Ret w0 h0 (λh r=>(tLL (k+1)).Is h r (xE s f))):=by
 refine cb2 65 vs (vI f) func118 hs ?_;refine go2 ?_;refine nB rs λb2 an ab=>(go8 ?_);refine gU 7 18 (vB ((f<(0:Int))\/((↑(s.2.1).length:Int)<=f))) ?_ ?_
 ·
  refine zW (f<(0:Int)) (λhg=>?_) (λhg=>?_)
  ·
   refine gT hg I (go7 ?_);refine gqU ?_;exact congrArg some (vS hg)
  refine gF hg I (go5 ?_);refine lX (xB fQ (Pc.snd (Pc.fst pH)) ab) λct cv=>(go6 ?_);refine gqU ?_;exact congrArg some (vT hg)
 refine uY (ι:=Mem) 6 (λm_=>MLe h0 m_) (λ_=>[(24,vB (((f<(0:Int))\/((↑(s.2.1).length:Int)<=f))\/(¬(nmP s f.toNat)))),(1,vI f),(2,vP b2 0)]) (λ_=>[.var b2 39 an]) (λm_=>m_) ?_ ?_
 ·
  refine zW ((f<(0:Int))\/((↑(s.2.1).length:Int)<=f)) (λhg=>?_) (λhg=>?_)
  ·
   refine gT hg I (go6 ?_);refine zS h0 (MLe.refl _) ⟨?_,I,I,trivial⟩ I I;exact congrArg some (vS hg)
  refine gF hg I (go1 ?_);refine lX (xB gV pH ab) λcq bt=>(go3 ?_);refine cL (ev2 I I) call158 (λw hs=>zH3 hs bt oM oM oM (by first|omega|exact Nat.le_trans (hcd1 f.toNat oM).1 dC|exactλl hl=>Nat.le_trans ((hcd1 f.toNat oM).2 l hl) dC) (by first|omega|exact Nat.le_trans (hcd1 f.toNat oM).1 dC|exactλl hl=>Nat.le_trans ((hcd1 f.toNat oM).2 l hl) dC) (by first|omega|exact Nat.le_trans (hcd1 f.toNat oM).1 dC|exactλl hl=>Nat.le_trans ((hcd1 f.toNat oM).2 l hl) dC)) λbg h1 ac bs=>?_;obtain rfl:bg=vB (nmP s f.toNat):=bs;refine go4 ?_;refine zS h1 ac ⟨?_,I,I,trivial⟩ I I;exact congrArg some (vT hg)
 intro M ay;refine tZ ?_;refine gc2 (λaa=>?_) λaa=>?_
 ·
  refine go7 ?_;refine zC I I ?_;exact(Rp.Is.cast (oU _) (by exact(if_neg (λe=>aa.elim (λh=>by omega) (λh=>h e.2))).symm))
 have aw:(0<=f/\f<↑s.2.1.length)/\nmP s f.toNat:=by constructor;exact oM;exact Classical.not_not.1 (λe=>aa (.inr e))
 have ax:∀l,l<(s.2.1.getD f.toNat zA).2.1.length->∀q,q<((s.2.1.getD f.toNat zA).2.1.getD l []).length->0<=((s.2.1.getD f.toNat zA).2.1.getD l []).getD q 0/\((s.2.1.getD f.toNat zA).2.1.getD l []).getD q 0<↑s.1.length:=λl hl q hq=>aw.2 l hl q hq;have az:=hcd1 f.toNat oM;refine uK ?_;refine lX (xB fQ (Pc.snd (Pc.fst pH)) ab) λcp br=>(go1 ?_);refine lX (xI zA f.toNat underlying36 bJ br) λco bq=>(lX (xF underlying53 sizeOf51 (Pc.snd (Pc.fst pH)) bq) λcn bp=>(lX (xA bK bp) λao av=>(uK ?_)));refine xM 35 1 ?_;have ak:=RL.nil (ρ:=rpS (tPt (k+1))) (h:=M);refine gcL (ι:=Nat×List (List Tq)×Value×List Value×Mem) (λ(l,D,C,H,ml)=>(MLe M ml/\(RL (tLs (k+1)) ml H D/\l<=(s.2.1.getD f.toNat zA).2.1.length/\D=zGJ s f.toNat l),[(2,vP b2 0),(5,C),(6,ao),(7,vI ↑l)],[.gs 35 1 C D.length H,.var b2 39 an],ml,(s.2.1.getD f.toNat zA).2.1.length-l)) (0,[],(.slice none 0 0),[],M) ?_ ?_
 · exact⟨mle,ak,by omega,I⟩
 rintro⟨l,D,C,H,ml⟩ ⟨bx,Z,de,hD⟩
 refine xC ?_;have dd:D.length=l:=by rw[hD];exact xK _ _
 refine gc9 (λbb=>?_) λbb=>?_
 ·
  refine k7 ?_;refine xM 31 9 ?_;have aj:=RL.nil (ρ:=rpT (rpQ (k+1))) (h:=ml);refine gcL (ι:=Nat×List Tq×Value×List Value×Mem) (λ(q,YY,J,O,mq)=>(MLe ml mq/\(RL (tPt (k+1)) mq O YY/\q<=((s.2.1.getD f.toNat zA).2.1.getD l []).length/\YY=zE2 s.1 ((s.2.1.getD f.toNat zA).2.1.getD l []) q),[(2,vP b2 0),(5,C),(6,ao),(7,vI ↑l),(8,J),(9,vI ↑q)],[.gs 31 9 J YY.length O,.gs 35 1 C D.length H,.var b2 39 an],mq,((s.2.1.getD f.toNat zA).2.1.getD l []).length-q)) (0,[],(.slice none 0 0),[],ml) ?_ ?_
  · exact⟨mle,aj,by omega,I⟩
  rintro⟨q,YY,J,O,mq⟩ ⟨bw,U,db,am⟩
  refine xC ?_;have dc:YY.length=q:=by rw[am];exact xK _ _
  have bu:=az.2 l oM;refine go6 ?_;refine lX (xI [] l underlying51 fN av) λcm bo=>(lX (xA fN bo) λcl cu=>(gc4 (λba=>?_) λba=>?_))
  ·
   refine go4 ?_;refine qO (A:=[]) 15 [] [(0,.q),(1,.q),(2,.q),(3,.q),(4,.q),(5,.q),(6,.q),(7,.q),(8,.q),(9,.q),(10,.q),(11,.q),(12,.c),(13,.c),(14,.q)] yA nX (wP zor) nX (go2 ?_);refine wX I (xB uN (Pc.fst pH) ab) λck bn=>(go2 ?_);refine wX I (xI [] l underlying51 fN av) λcj bm=>(wX I (xA fN bm) λci bl=>(go1 ?_));refine wX I (xI (0:Int) q underlying22 ty3 bl) λch bk=>(wX I (xA ty3 bk) λcg bj=>?_);obtain⟨rfl,bz,bv⟩:=kM bj;refine bH (F:=λv_=>AtP (tPt k) mq v_ (s.1.getD ((((s.2.1.getD f.toNat zA).2.1.getD l []).getD q 0).toNat) zT)) I (kT zT ((((s.2.1.getD f.toNat zA).2.1.getD l []).getD q 0).toNat) underlying35 zL I I bn (by(have h:=ax l oM q oM;omega)) (by(have h:=ax l oM q oM;omega)) nP) oO I ?_;intro cf bi;refine wX I (xA zL bi) λce bh=>?_;refine w_c I (jM (λX=>zO (ρ:=(tPt (k+1))) (m:=1) (xs:=[(s.1.getD ((((s.2.1.getD f.toNat zA).2.1.getD l []).getD q 0).toNat) zT)]) (ps':=[(0,_)]) underlying35 yU I I I (xW (yN oM)) e2z (zG I (Pc.arr (Pc.here _) zT 0 dC) (bh.le (Le.t (Le.q (l:=k+1) oM))) zR) zok nP) I ?_)
   rintro cd da ⟨cb,rfl,au⟩
   refine w_c I (wA (A:=[]) (ρ:=(tPt (k+1))) au dK ?_);intro h1 ac ai;refine tG (A:=[]) (λX=>zV (ρ:=(tPt (k+1))) (bytes:=168) underlying35 yU I I I I nP I I U.up ai bO bO) I (wH zov) ?_
   rintro bf cz ⟨bd,rfl,ar⟩
   refine go9 ?_;refine gqL ((q+1),(YY++[(s.1.getD ((((s.2.1.getD f.toNat zA).2.1.getD l []).getD q 0).toNat) zT)]),bf,bd,h1) ?_ ?_
   · exact⟨mle,ar,by omega,by rw[am];rfl⟩
   omega
  have eq:q=((s.2.1.getD f.toNat zA).2.1.getD l []).length:=by omega
  have bu:=az.2 l oM;refine go8 ?_;refine yC (A:=[]) (ρ:=(tPt (k+1))) U.up ?_;intro h1 ac ah;refine zK (zO (ρ:=(tLs (k+1))) (m:=1) (xs:=[YY]) (ps':=[(0,_)]) underlying76 iO I I I vC e2z (zG I (Pc.arr (Pc.here _) [] 0 dC) ah zR) zoj nP) I I I ?_
  rintro cc cy ⟨ca,rfl,aq⟩
  refine yC (A:=[]) (ρ:=(tLs (k+1))) aq ?_;intro h2 df ae;refine xR (A:=[]) (zV (ρ:=(tLs (k+1))) (bytes:=24) underlying76 iO I I I I nP I I Z.up ae bO bO) I I I ?_
  rintro be cw ⟨bc,rfl,ap⟩
  refine go9 ?_;refine gqL ((l+1),(D++[YY]),be,bc,h2) ?_ ?_
  · exact⟨mle,ap,by omega,by rw[hD,am,eq];rfl⟩
  omega
 have el:l=(s.2.1.getD f.toNat zA).2.1.length:=by omega
 refine qE ?_;refine vZ (A:=[]) (ρ:=(tLs (k+1))) Z.up ?_;intro h1 ac ad;refine zC I I ?_;exact(Rp.Is.cast ad (by rw[hD,el];exact(if_pos aw).symm))
theorem zDK{m n k:Nat}{vpl:Value}{pl:Pq}(rpl:(tPl m n).Is h0 vpl pl){vl:Value}{l:(List Tq)}(rl:(tLs k).Is h0 vl l)(hcd0:k<=100000000)(hcd1:m<=100000000)(hcd2:n<=100000000)(hcd3:l.length<=100000):
 Calls Tryz.prog 187 #[vpl,vl] w0 (Ret w0 h0 (λh r=>(tLs (k+1)).Is h r (flA pl l l.length))):=by
 refine cb2 23 vpl vl func187 hs ?_;refine go2 ?_;refine nB rpl λb2 an ae=>(pP ?_);refine xM 31 9 ?_;have U:=RL.nil (ρ:=rpT (rpQ (k+1))) (h:=h0);refine gcL (ι:=Nat×List Tq×Value×List Value×Mem) (λ(i,D,C,H,mi)=>(MLe h0 mi/\(RL (tPt (k+1)) mi H D/\i<=l.length/\D=flA pl l i),[(1,vl),(2,vP b2 0),(5,C),(6,vI ↑i)],[.gs 31 9 C D.length H,.var b2 50 an],mi,l.length-i)) (0,[],(.slice none 0 0),[],h0) ?_ ?_
 · exact⟨mle,U,by omega,I⟩
 rintro⟨i,D,C,H,mi⟩ ⟨ao,J,az,hD⟩
 refine xC ?_;have bb:D.length=i:=by rw[hD];exact xK _ _
 refine gc9 (λab=>?_) λab=>?_
 ·
  refine go4 ?_;refine qO (A:=[]) 10 [] [(0,.q),(1,.q),(2,.q),(3,.q),(4,.q),(5,.q),(6,.c),(7,.c),(8,.c),(9,.q)] yA nX zor nX (go1 ?_);refine wX I (xB aV pH ae) λaw ak=>(go2 ?_);refine wX I (xI zT i underlying35 zL rl) λav aj=>(wX I (xA zL aj) λau ai=>?_);refine w_c I (sC (ev2 I I) call112 (λw hs=>zJN hs ak ai oM oM) λar h1 am ah=>?_);refine w_c I (jM (λX=>zO (ρ:=(tPt (k+1))) (m:=1) (xs:=[uW pl (l.getD i zT)]) (ps':=[(0,_)]) underlying35 yU I I I (xW (yN oM)) e2z (zG I (Pc.arr (Pc.here _) zT 0 dC) ah zR) zok nP) I ?_)
  rintro aq ay ⟨ap,rfl,aa⟩
  refine w_c I (wA (A:=[]) (ρ:=(tPt (k+1))) aa dK ?_);intro h2 ba O;refine tG (A:=[]) (λX=>zV (ρ:=(tPt (k+1))) (bytes:=168) underlying35 yU I I I I nP I I J.up O bO bO) I (wH zov) ?_
  rintro ad ax ⟨ac,rfl,Z⟩
  refine go9 ?_;refine gqL ((i+1),(D++[uW pl (l.getD i zT)]),ad,ac,h2) ?_ ?_
  · exact⟨mle,Z,by omega,by rw[hD];rfl⟩
  omega
 have ei:i=l.length:=by omega
 refine qE ?_;refine vZ (A:=[]) (ρ:=(tPt (k+1))) J.up ?_;intro h1 am M;refine zC I I ?_;exact(Rp.Is.cast M (by rw[hD,ei]))
theorem zAP{m n k:Nat}{vpl:Value}{pl:Pq}(rpl:(tPl m n).Is h0 vpl pl){vL:Value}{L:(List (List Tq))}(rL:(tLL k).Is h0 vL L)(hcd0:k<=100000000)(hcd1:m<=100000000)(hcd2:n<=100000000)(hcd3:L.length<=100000)(hcd4:∀l,l<L.length->(L.getD l []).length<=10000):
 Calls Tryz.prog 151 #[vpl,vL] w0 (Ret w0 h0 (λh r=>(tLL (k+1)).Is h r (flL pl L L.length))):=by
 refine cb2 23 vpl vL func151 hs ?_;refine go2 ?_;refine nB rpl λb2 an ae=>(pP ?_);refine xM 35 1 ?_;have U:=RL.nil (ρ:=rpS (tPt (k+1))) (h:=h0);refine gcL (ι:=Nat×List (List Tq)×Value×List Value×Mem) (λ(i,D,C,H,mi)=>(MLe h0 mi/\(RL (tLs (k+1)) mi H D/\i<=L.length/\D=flL pl L i),[(1,vL),(2,vP b2 0),(5,C),(6,vI ↑i)],[.gs 35 1 C D.length H,.var b2 50 an],mi,L.length-i)) (0,[],(.slice none 0 0),[],h0) ?_ ?_
 · exact⟨mle,U,by omega,I⟩
 rintro⟨i,D,C,H,mi⟩ ⟨ao,J,az,hD⟩
 refine xC ?_;have bb:D.length=i:=by rw[hD];exact xK _ _
 refine gc9 (λab=>?_) λab=>?_
 ·
  refine go4 ?_;refine qO (A:=[]) 10 [] [(0,.q),(1,.q),(2,.q),(3,.q),(4,.q),(5,.q),(6,.c),(7,.c),(8,.c),(9,.q)] yA nX zor nX (go1 ?_);refine wX I (xB aV pH ae) λaw ak=>(go2 ?_);refine wX I (xI [] i underlying76 uN rL) λav aj=>(wX I (xA uN aj) λau ai=>?_);refine w_c I (sC (ev2 I I) call187 (λw hs=>zDK hs ak ai oM oM oM (by first|omega|exact Nat.le_trans (hcd4 i oM) dC)) λar h1 am ah=>?_);refine w_c I (jM (λX=>zO (ρ:=(tLs (k+1))) (m:=1) (xs:=[flA pl (L.getD i []) (L.getD i []).length]) (ps':=[(0,_)]) underlying76 iO I I I vC e2z (zG I (Pc.arr (Pc.here _) [] 0 dC) ah zR) zoj nP) I ?_)
  rintro aq ay ⟨ap,rfl,aa⟩
  refine w_c I (wA (A:=[]) (ρ:=(tLs (k+1))) aa dK ?_);intro h2 ba O;refine tG (A:=[]) (λX=>zV (ρ:=(tLs (k+1))) (bytes:=24) underlying76 iO I I I I nP I I J.up O bO bO) I (wH zov) ?_
  rintro ad ax ⟨ac,rfl,Z⟩
  refine go9 ?_;refine gqL ((i+1),(D++[flA pl (L.getD i []) (L.getD i []).length]),ad,ac,h2) ?_ ?_
  · exact⟨mle,Z,by omega,by rw[hD];rfl⟩
  omega
 have ei:i=L.length:=by omega
 refine qE ?_;refine vZ (A:=[]) (ρ:=(tLs (k+1))) J.up ?_;intro h1 am M;refine zC I I ?_;exact(Rp.Is.cast M (by rw[hD,ei]))
theorem zMA{k m n j:Nat}{vs:Value}{s:Sq}(rs:(tSd k m n j).Is h0 vs s){f:Nat}(hcd0:k<=1000)(hcd1:m<=100000)(hcd2:n<=100000)(hcd3:s.1.length<=100000)(hcd4:∀f,f<s.2.1.length->(s.2.1.getD f zA).2.1.length<=10000/\∀l,l<(s.2.1.getD f zA).2.1.length->((s.2.1.getD f zA).2.1.getD l []).length<=10000)(hcd5:f<s.2.1.length)(hcd6:s.2.1.length<=100000):
 Calls Tryz.prog 111 #[vs,vI ↑f] w0 (Ret w0 h0 (λh r=>(tLL (k+2)).Is h r (gC s f))):=by
 have C:=yC2 (s:=s) (f:=↑f) hcd4;refine cb2 15 vs (vI ↑f) func111 hs ?_;refine go2 ?_;refine nB rs λb2 ae H=>(go4 ?_);refine zJ 11 _ [] [(0,.q),(1,.q),(2,.q),(3,.q),(4,.q),(5,.q),(6,.q),(7,.q),(8,.c),(9,.c),(10,.q)] yA nX zor nX (λr hr=>hr) (go1 ?_);refine wX I (xB fQ (Pc.snd (Pc.fst pH)) H) λv6 r6=>(go1 ?_);refine wX I (xI zA f underlying36 bJ r6) λv8 r8=>(wX I (xF underlying53 sizeOf50 (Pc.fst pH) r8) λv9 r9=>(wX I (xA aV r9) λab O=>(wX I (xB gV pH H) λaa M=>(go1 ?_))));refine w_c I (sC (ev2 I I) call118 (λw hs=>zC7 hs M oM oM (by first|omega|exact hcd4) (by first|omega|exact hcd4)) λZ h1 ad J=>?_);refine w_c I (sC (ev2 I I) call151 (λw hs=>zAP hs O.up J oM oM oM (by first|omega|exact C.1|exactλl hl=>C.2 l) (by first|omega|exact C.1|exactλl hl=>C.2 l)) λU h2 ac D=>?_);replace D:=Rp.Is.le D (Le.s (Le.s (Le.t (Le.q (l:=k+2) oM))));refine go4 ?_;refine zC I I ?_;exact D
theorem j0{kind:Int}(hkind1:-9223372036854775808<=kind)(hkind2:kind<9223372036854775808){face:Int}(hface1:-9223372036854775808<=face)(hface2:face<9223372036854775808){loop:Int}(hloop1:-9223372036854775808<=loop)(hloop2:loop<9223372036854775808){edge:Int}(hedge1:-9223372036854775808<=edge)(hedge2:edge<9223372036854775808):
 Calls Tryz.prog 179 #[vI kind,vI face,vI loop,vI edge] w0 (Ret w0 h0 (λh r=>tE5.Is h r (dg kind face loop edge))):=by
 refine jK (n:=14) (e:=[(0,vI kind),(1,vI face),(2,vI loop),(3,vI edge)]) (vs:=[vI kind,vI face,vI loop,vI edge]) func179 rfl rfl (bL rfl) hs e4z (go2 ?_);refine nA (ρ:=tE5) (X:=e50) jL (yF wM (yF wM (yF wM (yF wM wM)))) λb8 aa J=>(go8 ?_);refine lX (xV (ρ:=tE5) (wE (ps':=[(0,_),(1,_),(2,_),(3,_),(4,_)]) underlying200 jL I I (zB1 underlying200) e10 I (yF wM (yF wM (yF wM (yF wM wM)))) (zG I (Pc.fst (Pc.here _)) (jA oM oM) (zG I (Pc.snd (Pc.fst (Pc.here _))) (jA dC dC) (zG I (Pc.snd (Pc.snd (Pc.fst (Pc.here _)))) (jA oM oM) (zG I (Pc.snd (Pc.snd (Pc.snd (Pc.fst (Pc.here _))))) (jA oM oM) (zG I (Pc.snd (Pc.snd (Pc.snd (Pc.snd (Pc.here _))))) (jA oM oM) zR))))))) λZ M=>(yI (A:=[]) (uB sizeOf200 pH J M) λO H=>(go3 ?_));refine uJ (fV (t:=8) yJ0 mh0 I H) ?_;intro U C D;refine yW (λE S=>yE I C E S) ?_;exact D
end
end Go.Proofs.YtpkaegemlpaenaaGreat
namespace Bk
open Classical
def triT(P:Nat->P2)(n:Nat):Prop:=∀i j k,i<j->j<k->k<n->0<cr (P i) (P j) (P k)
def edgeT(P:Nat->P2)(n:Nat):Prop:=∀i k,i<n->2<=k->k<n->0<cr (P i) (P ((i+1)%n)) (P ((i+k)%n))
def lp(t:Rat)(a b:P2):P2:=(a.1+t*(b.1-a.1),a.2+t*(b.2-a.2))
def ex(P:Nat->P2)(n m:Nat):P2:=P (m%n)
abbrev Mk:=Nat×Bool
def mkP(P:Nat->P2)(n:Nat)(t:Nat->Rat)(M:Mk):P2:=if M.2 then lp (t M.1) (ex P n M.1) (ex P n (M.1+1)) else ex P n M.1
def mkLt(A B:Mk):Prop:=A.1<B.1\/(A.1=B.1/\A.2=false/\B.2=true)
def chg(s:Nat->Int)(n m:Nat):Prop:=s m*s ((m+1)%n)<0
noncomputable def mks(s:Nat->Int)(n:Nat):Nat->List Mk
  |0=>[]
  |m+1=>mks s n m++(if s m<=0 then[(m,false)] else[])++(if chg s n m then[(m,true)] else[])
def inC(P:Nat->P2)(n:Nat)(p:P2):Prop:=∀m,m<n->0<=cr (P m) (P ((m+1)%n)) p
def afZ(w:Rat×Rat×Rat)(p:P2):Rat:=w.1+w.2.1*p.1+w.2.2*p.2
def mkS(S:Nat->Int)(M:Mk):Prop:=if M.2 then S M.1*S (M.1+1)<0 else S M.1<=0
def nxM(L:List Mk)(n q:Nat):Mk:=if q+1<L.length then L.getD (q+1) (0,false) else((L.getD 0 (0,false)).1+n,(L.getD 0 (0,false)).2)
section
variable {s:Nat->Int}{n:Nat}
end
structure Cfg(P:Nat->P2)(n:Nat)(t:Nat->Rat)(s:Nat->Int)(w:Rat×Rat×Rat):Prop where
 h3:3<=n
 tri:triT P n
 per:∀m,t (m%n)=t m
 cross:∀m,m<n->chg s n m->(0<t m/\t m<1)/\afZ w (lp (t m) (P m) (P ((m+1)%n)))=0
 neg:∀m,m<n->(s m<0↔afZ w (P m)<0)
 zero:∀m,m<n->(s m=0↔afZ w (P m)=0)
section
variable {P:Nat->P2}{n:Nat}{t:Nat->Rat}{s:Nat->Int}{w:Rat×Rat×Rat}
def cx(u v:P2):Rat:=u.1*v.2-v.1*u.2
def arC(P:Nat->P2)(n:Nat):Nat->Rat
  |0=>0
  |m+1=>arC P n m+cx (P m) (P ((m+1)%n))
def arO(P:Nat->P2)(n:Nat)(o:P2):Nat->Rat
  |0=>0
  |m+1=>arO P n o m+cr o (P m) (P ((m+1)%n))
noncomputable def om(S:Nat->Int)(t:Nat->Rat)(e:Nat):Rat:=
 if S e<=0/\S (e+1)<=0 then 1 else if S e<0/\0<S (e+1) then t e else if 0<S e/\S (e+1)<0 then 1-t e else 0
noncomputable def yJW(S:Nat->Int)(t:Nat->Rat)(k:Nat->Rat):Nat->Rat
  |0=>0
  |e+1=>yJW S t k e+om S t e*k e
noncomputable def uM(S:Nat->Int)(t:Nat->Rat)(k:Nat->Rat)(M:Mk):Rat:=yJW S t k M.1+if M.2=true/\S M.1<0 then t M.1*k M.1 else 0
end
def ngW(w:Rat×Rat×Rat):Rat×Rat×Rat:=(-w.1,-w.2.1,-w.2.2)
section
variable {P:Nat->P2}{n:Nat}{t:Nat->Rat}{s:Nat->Int}{w:Rat×Rat×Rat}
end
noncomputable def pt2(pl:Pl)(p:Pt):P2:=pr p (axI pl.1) (axJ pl.1)
def zGM(pl:Pl)(l:List Pt):Prop:=
 (3<=l.length/\¬pl.1=zT)/\(∀m,m<l.length->sdZ pl (gp l m)=0)/\∀m k,m<l.length->2<=k->k<l.length->0<orZ (pt2 pl (gp l m)) (pt2 pl (nx l m)) (pt2 pl (gp l ((m+k)%l.length)))
noncomputable def mk3(c:Pl)(l:List Pt)(M:Mk):Pt:=if M.2 then btw c (gp l M.1) (nx l M.1) else gp l M.1
noncomputable def sgB(c:Pl)(l:List Pt)(m:Nat):Int:=sdZ c (gp l m)
noncomputable def sgF(c:Pl)(l:List Pt)(m:Nat):Int:=-sdZ c (gp l m)
noncomputable def tC(c:Pl)(l:List Pt)(m:Nat):Rat:=yLN c (gp l (m%l.length)) (nx l (m%l.length))
def yB(a b c:Pt):Rat:=zE a (zY b c)
theorem yIR{pl:Pl}{a b c:Pt}(hn:¬pl.1=zT)(ha:sdZ pl a=0)(hb:sdZ pl b=0)(hc:sdZ pl c=0):yV (zE (zY (yO b a) (yO c a)) pl.1)=orZ (pt2 pl a) (pt2 pl b) (pt2 pl c):=by
 have hk:¬pl.1.at (axK pl.1)=0:=λe=>hn ((zR7 _).1 e);have h1:=zU6 pl (uW pl a) (uW pl b) (uW pl c) hk;rw[zCE hk ha,zCE hk hb,zCE hk hc,yEH] at h1;exact h1.symm
theorem yIS(a b c n:Pt):zE (zY (yO b a) (yO c a)) n=yB (yO b a) (yO c a) n:=by
 unfold yB zE zY yO;grind
end Bk
namespace Bk
open Go Go.RowKit
open Classical
theorem zK6{k:Nat}{h:Mem}{v:Value}{p:T3 Rat}(s:(rpT (rpQ k)).Is h v p):lq p.x<=k/\lq p.y<=k/\lq p.z<=k:=by
 obtain⟨cs,⟨a,b,_,H,c,d,_,D,C⟩,_⟩:=s;exact⟨H.2,D.2,C.2⟩
theorem zEM{K k:Nat}{h:Mem}{v:Value}{p:T3 Rat}(s:(rpT (rpQ K)).Is h v p)(h1:lq p.x<=k)(h2:lq p.y<=k)(h3:lq p.z<=k):(rpT (rpQ k)).Is h v p:=by
 obtain⟨cs,⟨a,b,e,H,c,d,e',D,C⟩,J⟩:=s;exact⟨cs,⟨a,b,e,⟨H.1,h1⟩,c,d,e',⟨D.1,h2⟩,⟨C.1,h3⟩⟩,J⟩
theorem zI7{a b:Rat}(h:¬(¬smB a\/¬smB b)):(smB a/\smB b)/\(-72057594037927936<=smZ a*smZ b/\smZ a*smZ b<=72057594037927936):=by
 have h1:smB a/\smB b:=by
  constructor
  · exact Classical.not_not.1 λe=>h (.inl e)
  · exact Classical.not_not.1 λe=>h (.inr e)
 have U:=(sQ h1.1).2;have O:=(sQ h1.2).2;refine⟨h1,?_⟩;have C:∀{x y:Int},0<=x->x<268435456->0<=y->y<268435456->0<=x*y/\x*y<=72057594037927936:=by
  intro x y hx H hy D;have M:=Int.mul_nonneg hx hy;have J:x*y<=268435456*268435456:=Int.mul_le_mul zoq zoq hy zoq;omega
 generalize smZ a=u at *;generalize smZ b=v at *
 rcases Int.le_total 0 u with hu|hu<;>rcases Int.le_total 0 v with hv|hv
 · have:=C hu zoq hv zoq;omega
 · have:=C hu zoq (y:=-v) zoq zoq
   rw[Int.mul_neg] at this;omega
 · have:=C (x:=-u) zoq zoq hv zoq
   rw[Int.neg_mul] at this;omega
 · have:=C (x:=-u) (y:=-v) zoq zoq zoq zoq
   rw[Int.neg_mul_neg] at this;omega
theorem zVR{s:Pl}{p:Pt}(hx:smB s.1.x/\smB p.x)(hy:smB s.1.y/\smB p.y)(hz:smB s.1.z/\smB p.z)(hd:smB s.2):zGY ((0:Int)+smZ s.1.x*smZ p.x+smZ s.1.y*smZ p.y+smZ s.1.z*smZ p.z-smZ s.2)=sdZ s p:=by
 rw[<-mC];unfold sdZ hgt zE
 congr 1
 rw[Rat.intCast_sub,Rat.intCast_add,Rat.intCast_add,Rat.intCast_add,Rat.intCast_mul,Rat.intCast_mul,Rat.intCast_mul];rw[<-(sQ hx.1).1,<-(sQ hx.2).1,<-(sQ hy.1).1,<-(sQ hy.2).1,<-(sQ hz.1).1,<-(sQ hz.2).1,<-(sQ hd).1];have e:((0:Int):Rat)=0:=I;rw[e];grind
theorem zVS(s:Pl)(p:Pt):xS (zE s.1 p) s.2=sdZ s p:=zGN _ _
end Bk
namespace Go.Proofs.YtpkaegemlpaenaaGreat
open Bk Go Tryz
set_option maxRecDepth 10000
set_option maxHeartbeats 1000000
attribute [local irreducible] GL GC GQ W OpV
section
variable{w0:World}{h0:Mem}(hs:MLe h0 (mem w0))
include hs
theorem zFD{k l:Nat}{va:Value}{a:Tq}(ra:(tPt k).Is h0 va a){vb:Value}{b:Tq}(rb:(tPt l).Is h0 vb b)(hcd0:k+l<=1000000000):Calls Tryz.prog 14 #[va,vb] w0 (Ret w0 h0 (λh r=>(tPt (k+l+1)).Is h r (T3.mk (a.x+b.x) (a.y+b.y) (a.z+b.z)))):=by
 obtain⟨O,M,J⟩:=zK6 ra;obtain⟨H,D,C⟩:=zK6 rb;exact(zXB hs ra rb hcd0).mono (gG λh r x=>zEM x (by have:=lH a.x b.x;show lq (a.x+b.x)<=_;omega) (by have:=lH a.y b.y;show lq (a.y+b.y)<=_;omega) (by have:=lH a.z b.z;show lq (a.z+b.z)<=_;omega))
theorem iI{k l:Nat}{va:Value}{a:Tq}(ra:(tPt k).Is h0 va a){vb:Value}{b:Tq}(rb:(tPt l).Is h0 vb b)(hcd0:k+l<=1000000000):Calls Tryz.prog 22 #[va,vb] w0 (Ret w0 h0 (λh r=>(tPt (k+l+1)).Is h r (T3.mk (a.x-b.x) (a.y-b.y) (a.z-b.z)))):=by
 obtain⟨O,M,J⟩:=zK6 ra;obtain⟨H,D,C⟩:=zK6 rb;exact(zL7 hs ra rb hcd0).mono (gG λh r x=>zEM x (by have:=zF0 a.x b.x;show lq (a.x-b.x)<=_;omega) (by have:=zF0 a.y b.y;show lq (a.y-b.y)<=_;omega) (by have:=zF0 a.z b.z;show lq (a.z-b.z)<=_;omega))
theorem u9{l k:Nat}{vq:Value}{q:Rat}(rq:(rpQ l).Is h0 vq q){va:Value}{a:Tq}(ra:(tPt k).Is h0 va a)(hcd0:k+l<=1000000000):Calls Tryz.prog 20 #[vq,va] w0 (Ret w0 h0 (λh r=>(tPt (k+l)).Is h r (T3.mk (q*a.x) (q*a.y) (q*a.z)))):=by
 obtain⟨J,H,D⟩:=zK6 ra;have C:=(of_q rq).2;exact(zFI hs rq ra hcd0).mono (gG λh r x=>zEM x (by have:=iL q a.x;show lq (q*a.x)<=_;omega) (by have:=iL q a.y;show lq (q*a.y)<=_;omega) (by have:=iL q a.z;show lq (q*a.z)<=_;omega))
theorem zO7{k l:Nat}{va:Value}{a:Tq}(ra:(tPt k).Is h0 va a){vb:Value}{b:Tq}(rb:(tPt l).Is h0 vb b)(hcd0:k+l<=10000000000):
 Calls Tryz.prog 154 #[va,vb,vF 160 []] w0 (Ret w0 h0 (λh r=>(tPt (k+l+1+1)).Is h r (T3.mk (a.x+b.x) (a.y+b.y) (a.z+b.z)))):=by
 refine cb3 24 va vb (vF 160 []) func154 hs ?_;refine go2 ?_;refine nB ra λb3 bm aa=>(nB rb λb4 bl Z=>(nA (ρ:=(tPt (k+l+1+1))) (X:=zT) yU (xW (yN oM)) λb6 bk ba=>(go4 ?_)));refine nA (ρ:=(tPt (k+l+1+1))) (X:=zT) yU (xW (yN oM)) λb7 bj az=>(go9 ?_);refine fL (go2 ?_);refine gv (OpV.tr dC (yJ (q:=3) I I)) I (sG ?_);refine zJ 10 _ [] [(0,.q),(1,.q),(2,.q),(3,.q),(4,.q),(5,.q),(6,.q),(7,.q),(8,.c),(9,.q),(10,.t)] yA nX zor nX (λr hr=>hr) (go4 ?_);refine wX I (xB yD (Pc.tx pH) aa) λay aj=>(go2 ?_);refine wX I (xB yD (Pc.tx pH) Z) λav ae=>?_;refine w_c I (aG (cE (vs:=[_,_]) call160 I e2z) I (λw hs=>aP hs aj ae oM) ?_);intro O h1 bi H
 change (rpQ (k+l+1)).Is h1 O (a.x+b.x) at H
 refine go1 ?_;refine yK (A:=[]) I (uB sizeOf29 (Pc.tx pH) az (H.le (Le.q (l:=k+l+1+1) oM))) λbe ap=>(go4 ?_);refine gv ((zQ (q:=1) I I oM oM).cv (show _=vI (1) from I)) I (go2 ?_);refine wI (go2 ?_);refine gv (OpV.tr dC (yJ (q:=3) I I)) I (sG ?_);refine zJ 10 _ [] [(0,.q),(1,.q),(2,.q),(3,.q),(4,.q),(5,.q),(6,.q),(7,.q),(8,.c),(9,.q),(10,.t)] yA nX zor nX (λr hr=>hr) (go4 ?_);refine wX I (xB yD (Pc.ty pH) aa) λax ai=>(go2 ?_);refine wX I (xB yD (Pc.ty pH) Z) λau ad=>?_;refine w_c I (aG (cE (vs:=[_,_]) call160 I e2z) I (λw hs=>aP hs ai ad oM) ?_);intro M h2 bh D
 change (rpQ (k+l+1)).Is h2 M (a.y+b.y) at D
 refine go1 ?_;refine yK (A:=[]) I (uB sizeOf29 (Pc.ty pH) ap (D.le (Le.q (l:=k+l+1+1) oM))) λbd ao=>(go4 ?_);refine gv ((zQ (q:=1) I I oM oM).cv (show _=vI (2) from I)) I (go2 ?_);refine wI (go2 ?_);refine gv (OpV.tr dC (yJ (q:=3) I I)) I (sG ?_);refine zJ 10 _ [] [(0,.q),(1,.q),(2,.q),(3,.q),(4,.q),(5,.q),(6,.q),(7,.q),(8,.c),(9,.q),(10,.t)] yA nX zor nX (λr hr=>hr) (go4 ?_);refine wX I (xB yD (Pc.tz pH) aa) λaw ah=>(go2 ?_);refine wX I (xB yD (Pc.tz pH) Z) λar ac=>?_;refine w_c I (aG (cE (vs:=[_,_]) call160 I e2z) I (λw hs=>aP hs ah ac oM) ?_);intro J h3 bg C
 change (rpQ (k+l+1)).Is h3 J (a.z+b.z) at C
 refine go1 ?_;refine yK (A:=[]) I (uB sizeOf29 (Pc.tz pH) ao (C.le (Le.q (l:=k+l+1+1) oM))) λbc an=>(go4 ?_);refine gv ((zQ (q:=1) I I oM oM).cv (show _=vI (3) from I)) I (go2 ?_);refine wI (go2 ?_);refine gv (OpV.fa dC (yJ (q:=3) I I)) I (qI ?_);refine lX (xB zL pH an) λaq ab=>(yI (A:=[_]) (uB sizeOf31 pH ba ab) λbb am=>(go3 ?_));refine uJ (fV (t:=6) zL mh1 I am) ?_;intro bf ak U;refine yW (λE S=>yE I ak E S) ?_;exact U
theorem zO5{k l:Nat}{va:Value}{a:Tq}(ra:(tPt k).Is h0 va a){vb:Value}{b:Tq}(rb:(tPt l).Is h0 vb b)(hcd0:k+l<=10000000000):
 Calls Tryz.prog 154 #[va,vb,vF 121 []] w0 (Ret w0 h0 (λh r=>(tPt (k+l+1+1)).Is h r (T3.mk (a.x-b.x) (a.y-b.y) (a.z-b.z)))):=by
 refine cb3 24 va vb (vF 121 []) func154 hs ?_;refine go2 ?_;refine nB ra λb3 bm ah=>(nB rb λb4 bl ae=>(nA (ρ:=(tPt (k+l+1+1))) (X:=zT) yU (xW (yN oM)) λb6 bk ba=>(go4 ?_)));refine nA (ρ:=(tPt (k+l+1+1))) (X:=zT) yU (xW (yN oM)) λb7 bj az=>(go9 ?_);refine fL (go2 ?_);refine gv (OpV.tr dC (yJ (q:=3) I I)) I (sG ?_);refine zJ 10 _ [] [(0,.q),(1,.q),(2,.q),(3,.q),(4,.q),(5,.q),(6,.q),(7,.q),(8,.c),(9,.q),(10,.t)] yA nX zor nX (λr hr=>hr) (go4 ?_);refine wX I (xB yD (Pc.tx pH) ah) λay ap=>(go2 ?_);refine wX I (xB yD (Pc.tx pH) ae) λav am=>?_;refine w_c I (aG (cE (vs:=[_,_]) call121 I e2z) I (λw hs=>fJ hs ap am oM) ?_);intro U h1 bi H
 change (rpQ (k+l+1)).Is h1 U (a.x-b.x) at H
 refine go1 ?_;refine yK (A:=[]) I (uB sizeOf29 (Pc.tx pH) az (H.le (Le.q (l:=k+l+1+1) oM))) λbe ad=>(go4 ?_);refine gv ((zQ (q:=1) I I oM oM).cv (show _=vI (1) from I)) I (go2 ?_);refine wI (go2 ?_);refine gv (OpV.tr dC (yJ (q:=3) I I)) I (sG ?_);refine zJ 10 _ [] [(0,.q),(1,.q),(2,.q),(3,.q),(4,.q),(5,.q),(6,.q),(7,.q),(8,.c),(9,.q),(10,.t)] yA nX zor nX (λr hr=>hr) (go4 ?_);refine wX I (xB yD (Pc.ty pH) ah) λax ao=>(go2 ?_);refine wX I (xB yD (Pc.ty pH) ae) λau ak=>?_;refine w_c I (aG (cE (vs:=[_,_]) call121 I e2z) I (λw hs=>fJ hs ao ak oM) ?_);intro O h2 bh D
 change (rpQ (k+l+1)).Is h2 O (a.y-b.y) at D
 refine go1 ?_;refine yK (A:=[]) I (uB sizeOf29 (Pc.ty pH) ad (D.le (Le.q (l:=k+l+1+1) oM))) λbd ac=>(go4 ?_);refine gv ((zQ (q:=1) I I oM oM).cv (show _=vI (2) from I)) I (go2 ?_);refine wI (go2 ?_);refine gv (OpV.tr dC (yJ (q:=3) I I)) I (sG ?_);refine zJ 10 _ [] [(0,.q),(1,.q),(2,.q),(3,.q),(4,.q),(5,.q),(6,.q),(7,.q),(8,.c),(9,.q),(10,.t)] yA nX zor nX (λr hr=>hr) (go4 ?_);refine wX I (xB yD (Pc.tz pH) ah) λaw an=>(go2 ?_);refine wX I (xB yD (Pc.tz pH) ae) λar aj=>?_;refine w_c I (aG (cE (vs:=[_,_]) call121 I e2z) I (λw hs=>fJ hs an aj oM) ?_);intro M h3 bg C
 change (rpQ (k+l+1)).Is h3 M (a.z-b.z) at C
 refine go1 ?_;refine yK (A:=[]) I (uB sizeOf29 (Pc.tz pH) ac (C.le (Le.q (l:=k+l+1+1) oM))) λbc ab=>(go4 ?_);refine gv ((zQ (q:=1) I I oM oM).cv (show _=vI (3) from I)) I (go2 ?_);refine wI (go2 ?_);refine gv (OpV.fa dC (yJ (q:=3) I I)) I (qI ?_);refine lX (xB zL pH ab) λaq ai=>(yI (A:=[_]) (uB sizeOf31 pH ba ai) λbb aa=>(go3 ?_));refine uJ (fV (t:=6) zL mh1 I aa) ?_;intro bf J Z;refine yW (λE S=>yE I J E S) ?_;exact Z
theorem zO6{k l:Nat}{va:Value}{a:Tq}(ra:(tPt k).Is h0 va a){vb:Value}{b:Tq}(rb:(tPt l).Is h0 vb b)(hcd0:k+l<=10000000000):
 Calls Tryz.prog 154 #[va,vb,vF 153 []] w0 (Ret w0 h0 (λh r=>(tPt (k+l+1)).Is h r (T3.mk (a.x*b.x) (a.y*b.y) (a.z*b.z)))):=by
 refine cb3 24 va vb (vF 153 []) func154 hs ?_;refine go2 ?_;refine nB ra λb3 bm an=>(nB rb λb4 bl am=>(nA (ρ:=(tPt (k+l+1))) (X:=zT) yU (xW (yN oM)) λb6 bk ba=>(go4 ?_)));refine nA (ρ:=(tPt (k+l+1))) (X:=zT) yU (xW (yN oM)) λb7 bj az=>(go9 ?_);refine fL (go2 ?_);refine gv (OpV.tr dC (yJ (q:=3) I I)) I (sG ?_);refine zJ 10 _ [] [(0,.q),(1,.q),(2,.q),(3,.q),(4,.q),(5,.q),(6,.q),(7,.q),(8,.c),(9,.q),(10,.t)] yA nX zor nX (λr hr=>hr) (go4 ?_);refine wX I (xB yD (Pc.tx pH) an) λay ap=>(go2 ?_);refine wX I (xB yD (Pc.tx pH) am) λax ao=>?_;refine w_c I (aG (cE (vs:=[_,_]) call153 I e2z) I (λw hs=>kC hs ap ao oM) ?_);intro ad h1 bi H
 change (rpQ (k+l)).Is h1 ad (a.x*b.x) at H
 refine go1 ?_;refine yK (A:=[]) I (uB sizeOf29 (Pc.tx pH) az (H.le (Le.q (l:=k+l+1) oM))) λbe ak=>(go4 ?_);refine gv ((zQ (q:=1) I I oM oM).cv (show _=vI (1) from I)) I (go2 ?_);refine wI (go2 ?_);refine gv (OpV.tr dC (yJ (q:=3) I I)) I (sG ?_);refine zJ 10 _ [] [(0,.q),(1,.q),(2,.q),(3,.q),(4,.q),(5,.q),(6,.q),(7,.q),(8,.c),(9,.q),(10,.t)] yA nX zor nX (λr hr=>hr) (go4 ?_);refine wX I (xB yD (Pc.ty pH) an) λaw ab=>(go2 ?_);refine wX I (xB yD (Pc.ty pH) am) λau Z=>?_;refine w_c I (aG (cE (vs:=[_,_]) call153 I e2z) I (λw hs=>kC hs ab Z oM) ?_);intro M h2 bh D
 change (rpQ (k+l)).Is h2 M (a.y*b.y) at D
 refine go1 ?_;refine yK (A:=[]) I (uB sizeOf29 (Pc.ty pH) ak (D.le (Le.q (l:=k+l+1) oM))) λbd aj=>(go4 ?_);refine gv ((zQ (q:=1) I I oM oM).cv (show _=vI (2) from I)) I (go2 ?_);refine wI (go2 ?_);refine gv (OpV.tr dC (yJ (q:=3) I I)) I (sG ?_);refine zJ 10 _ [] [(0,.q),(1,.q),(2,.q),(3,.q),(4,.q),(5,.q),(6,.q),(7,.q),(8,.c),(9,.q),(10,.t)] yA nX zor nX (λr hr=>hr) (go4 ?_);refine wX I (xB yD (Pc.tz pH) an) λav aa=>(go2 ?_);refine wX I (xB yD (Pc.tz pH) am) λar U=>?_;refine w_c I (aG (cE (vs:=[_,_]) call153 I e2z) I (λw hs=>kC hs aa U oM) ?_);intro J h3 bg C
 change (rpQ (k+l)).Is h3 J (a.z*b.z) at C
 refine go1 ?_;refine yK (A:=[]) I (uB sizeOf29 (Pc.tz pH) aj (C.le (Le.q (l:=k+l+1) oM))) λbc ai=>(go4 ?_);refine gv ((zQ (q:=1) I I oM oM).cv (show _=vI (3) from I)) I (go2 ?_);refine wI (go2 ?_);refine gv (OpV.fa dC (yJ (q:=3) I I)) I (qI ?_);refine lX (xB zL pH ai) λaq O=>(yI (A:=[_]) (uB sizeOf31 pH ba O) λbb ah=>(go3 ?_));refine uJ (fV (t:=6) zL mh1 I ah) ?_;intro bf ac ae;refine yW (λE S=>yE I ac E S) ?_;exact ae
theorem yBU{k l:Nat}{va:Value}{a:Tq}(ra:(tPt k).Is h0 va a){vb:Value}{b:Tq}(rb:(tPt l).Is h0 vb b)(hcd0:k+l<=10000000000):
 Calls Tryz.prog 124 #[va,vb] w0 (Ret w0 h0 (λh r=>(tPt (k+l+2)).Is h r (T3.mk (a.x+b.x) (a.y+b.y) (a.z+b.z)))):=by
 refine cb2 8 va vb func124 hs ?_;refine go2 ?_;refine nB ra λb2 ae O=>(nB rb λb3 ad M=>(nA (ρ:=(tPt (k+l+2))) (X:=zT) yU (xW (yN oM)) λb4 ac J=>(go4 ?_)));refine lX (xB zL pH O) λv5 r5=>(lX (xB zL pH M) λv6 r6=>(cL (ev3 I I I) call154 (λw hs=>zO7 hs r5 r6 oM) λv7 h1 ab U=>?_));replace U:=Rp.Is.le U (Le.t (Le.q (l:=k+l+2) oM));refine yI (A:=[]) (uB sizeOf31 pH J U) λZ H=>(go3 ?_);refine uJ (fV (t:=4) zL mh0 I H) ?_;intro aa C D;refine yW (λE S=>yE I C E S) ?_;exact D
theorem zJM{k l:Nat}{va:Value}{a:Tq}(ra:(tPt k).Is h0 va a){vb:Value}{b:Tq}(rb:(tPt l).Is h0 vb b)(hcd0:k+l<=10000000000):
 Calls Tryz.prog 115 #[va,vb] w0 (Ret w0 h0 (λh r=>(tPt (k+l+2)).Is h r (T3.mk (a.x-b.x) (a.y-b.y) (a.z-b.z)))):=by
 refine cb2 8 va vb func115 hs ?_;refine go2 ?_;refine nB ra λb2 ae O=>(nB rb λb3 ad M=>(nA (ρ:=(tPt (k+l+2))) (X:=zT) yU (xW (yN oM)) λb4 ac J=>(go4 ?_)));refine lX (xB zL pH O) λv5 r5=>(lX (xB zL pH M) λv6 r6=>(cL (ev3 I I I) call154 (λw hs=>zO5 hs r5 r6 oM) λv7 h1 ab U=>?_));replace U:=Rp.Is.le U (Le.t (Le.q (l:=k+l+2) oM));refine yI (A:=[]) (uB sizeOf31 pH J U) λZ H=>(go3 ?_);refine uJ (fV (t:=4) zL mh0 I H) ?_;intro aa C D;refine yW (λE S=>yE I C E S) ?_;exact D
theorem zTF{l k:Nat}{vq:Value}{q:Rat}(rq:(rpQ l).Is h0 vq q){va:Value}{a:Tq}(ra:(tPt k).Is h0 va a)(hcd0:k+l<=1000000000):
 Calls Tryz.prog 125 #[vq,va] w0 (Ret w0 h0 (λh r=>(tPt (k+l+2)).Is h r (T3.mk (q*a.x) (q*a.y) (q*a.z)))):=by
 refine cb2 11 vq va func125 hs ?_;refine go2 ?_;refine nB rq λb2 ah J=>(nB ra λb3 ae U=>(nA (ρ:=(tPt (k+l+2))) (X:=zT) yU (xW (yN oM)) λb4 ad O=>(go4 ?_)));refine lX (xB yD pH J) λv5 r5=>(lX (xB yD pH J) λv6 r6=>(lX (xB yD pH J) λv7 r7=>(lX (xV (ρ:=(tPt (l+1))) (wJ (ps':=[(0,_),(1,_),(2,_)]) underlying31 yU I I sizeOf29 e6z I (xW (yN oM)) (zG I (Pc.tx (Pc.here _)) (r5.le (Le.q (l:=l+1) oM)) (zG I (Pc.ty (Pc.here _)) (r6.le (Le.q (l:=l+1) oM)) (zG I (Pc.tz (Pc.here _)) (r7.le (Le.q (l:=l+1) oM)) zR))))) λv8 r8=>(lX (xB zL pH U) λv9 r9=>(cL (ev3 I I I) call154 (λw hs=>zO6 hs r8 r9 oM) λab h1 ac M=>?_)))));replace M:=Rp.Is.le M (Le.t (Le.q (l:=k+l+2) oM));refine yI (A:=[]) (uB sizeOf31 pH O M) λZ H=>(go3 ?_);refine uJ (fV (t:=4) zL mh0 I H) ?_;intro aa C D;refine yW (λE S=>yE I C E S) ?_;exact D
theorem zDU{k l:Nat}{va:Value}{a:Tq}(ra:(tPt k).Is h0 va a){vb:Value}{b:Tq}(rb:(tPt l).Is h0 vb b)(hcd0:k+l<=1000000000):
 Calls Tryz.prog 120 #[va,vb] w0 (Ret w0 h0 (λh r=>(rpQ (3*k+3*l+9)).Is h r (zE a b))):=by
 refine cb2 21 va vb func120 hs ?_;refine go2 ?_;refine nB ra λb2 cf bd=>(nB rb λb3 ce bc=>(nA (ρ:=(rpQ (3*k+3*l+9))) (X:=(0:Rat)) wB (yN oM) λb4 cd bp=>(go4 ?_)));refine nA (ρ:=(rpQ 1)) (X:=(0:Rat)) wB (yN dC) λb5 cc be=>(go9 ?_);refine fL (go2 ?_);refine gv (OpV.tr dC (yJ (q:=3) I I)) I (sG ?_);refine zJ 9 _ [] [(0,.q),(1,.q),(2,.q),(3,.q),(4,.q),(5,.q),(6,.q),(7,.c),(8,.c),(9,.t)] yA nX zor nX (λr hr=>hr) (wX I (xB yD pH be) λbo au=>(go2 ?_));refine wX I (xB yD (Pc.tx pH) bd) λbl ap=>(go2 ?_);refine wX I (xB yD (Pc.tx pH) bc) λbi am=>?_;refine w_c I (sC (ev2 I I) call153 (λw hs=>kC hs ap am oM) λah h1 cb O=>?_)
 change (rpQ (k+l)).Is h1 ah (a.x*b.x) at O
 refine w_c I (sC (ev2 I I) call160 (λw hs=>aP hs au.up O oM) λac h2 ca H=>?_)
 change (rpQ (1+(k+l)+1)).Is h2 ac ((0:Rat)+(a.x*b.x)) at H
 replace H:=Rp.Is.le H (Le.q (l:=k+l+2) oM);have ay:=(Le.q (l:=k+l+2) oM).R be;refine yK (A:=[]) I (uB sizeOf29 pH ay H) λbt Z=>(go4 ?_);refine gv ((zQ (q:=1) I I oM oM).cv (show _=vI (1) from I)) I (go2 ?_);refine wI (go2 ?_);refine gv (OpV.tr dC (yJ (q:=3) I I)) I (sG ?_);refine zJ 9 _ [] [(0,.q),(1,.q),(2,.q),(3,.q),(4,.q),(5,.q),(6,.q),(7,.c),(8,.c),(9,.t)] yA nX zor nX (λr hr=>hr) (wX I (xB yD pH Z) λbn ar=>(go2 ?_));refine wX I (xB yD (Pc.ty pH) bd) λbk ao=>(go2 ?_);refine wX I (xB yD (Pc.ty pH) bc) λbh ak=>?_;refine w_c I (sC (ev2 I I) call153 (λw hs=>kC hs ao ak oM) λae h3 bz M=>?_)
 change (rpQ (k+l)).Is h3 ae (a.y*b.y) at M
 refine w_c I (sC (ev2 I I) call160 (λw hs=>aP hs ar.up M oM) λab h4 bx D=>?_)
 change (rpQ ((k+l+2)+(k+l)+1)).Is h4 ab (((0:Rat)+(a.x*b.x))+(a.y*b.y)) at D
 replace D:=Rp.Is.le D (Le.q (l:=2*k+2*l+3) oM);have ax:=(Le.q (l:=2*k+2*l+3) oM).R Z;refine yK (A:=[]) I (uB sizeOf29 pH ax D) λbs U=>(go4 ?_);refine gv ((zQ (q:=1) I I oM oM).cv (show _=vI (2) from I)) I (go2 ?_);refine wI (go2 ?_);refine gv (OpV.tr dC (yJ (q:=3) I I)) I (sG ?_);refine zJ 9 _ [] [(0,.q),(1,.q),(2,.q),(3,.q),(4,.q),(5,.q),(6,.q),(7,.c),(8,.c),(9,.t)] yA nX zor nX (λr hr=>hr) (wX I (xB yD pH U) λbm aq=>(go2 ?_));refine wX I (xB yD (Pc.tz pH) bd) λbj an=>(go2 ?_);refine wX I (xB yD (Pc.tz pH) bc) λbg aj=>?_;refine w_c I (sC (ev2 I I) call153 (λw hs=>kC hs an aj oM) λad h5 bw J=>?_)
 change (rpQ (k+l)).Is h5 ad (a.z*b.z) at J
 refine w_c I (sC (ev2 I I) call160 (λw hs=>aP hs aq.up J oM) λaa h6 bv C=>?_)
 change (rpQ ((2*k+2*l+3)+(k+l)+1)).Is h6 aa ((((0:Rat)+(a.x*b.x))+(a.y*b.y))+(a.z*b.z)) at C
 replace C:=Rp.Is.le C (Le.q (l:=3*k+3*l+4) oM);have aw:=(Le.q (l:=3*k+3*l+4) oM).R U;refine yK (A:=[]) I (uB sizeOf29 pH aw C) λbr bb=>(go4 ?_);refine gv ((zQ (q:=1) I I oM oM).cv (show _=vI (3) from I)) I (go2 ?_);refine wI (go2 ?_);refine gv (OpV.fa dC (yJ (q:=3) I I)) I (qI ?_);refine lX (xB yD pH bb) λbf ai=>(yI (A:=[_]) (uB sizeOf29 pH bp (ai.le (Le.q (l:=3*k+3*l+9) oM))) λbq ba=>(go3 ?_));refine uJ (fV (t:=4) yD mh1 I ba) ?_;intro bu av az;refine yW (λE S=>yE I av E S) ?_;exact(Rp.Is.cast az (by unfold zE;grind))
theorem zHZ{k l:Nat}{va:Value}{a:Tq}(ra:(tPt k).Is h0 va a){vb:Value}{b:Tq}(rb:(tPt l).Is h0 vb b)(hcd0:k+l<=1000000000):
 Calls Tryz.prog 114 #[va,vb] w0 (Ret w0 h0 (λh r=>(tPt (2*k+2*l+3)).Is h r (zY a b))):=by
 refine cb2 37 va vb func114 hs ?_;refine go2 ?_;refine nB ra λb2 ct ac=>(nB rb λb3 cq ab=>(nA (ρ:=(tPt (2*k+2*l+3))) (X:=zT) yU (xW (yN oM)) λb4 cp bz=>(go4 ?_)));refine nA (ρ:=(tPt (2*k+2*l+3))) (X:=zT) yU (xW (yN oM)) λb5 co bx=>(go9 ?_);refine fL (go2 ?_);refine gv (OpV.tr dC (yJ (q:=3) I I)) I (oW ?_);refine gv ((zQ (q:=1) I I oM oM).cv (show _=vI (1) from I)) I (gv ((wF (q:=3) I I oM oM).cv (show _=vI (1) from I)) I (go1 ?_));refine gv ((zQ (q:=2) I I oM oM).cv (show _=vI (2) from I)) I (gv ((wF (q:=3) I I oM oM).cv (show _=vI (2) from I)) I (go4 ?_));refine zJ 17 _ [] [(0,.q),(1,.q),(2,.q),(3,.q),(4,.q),(5,.q),(6,.q),(8,.q),(9,.q),(10,.q),(11,.q),(12,.q),(13,.q),(7,.c),(14,.c),(15,.c),(16,.q),(17,.t)] yA nX (wP zor) nX (λr hr=>hr) (go3 ?_);refine wX I (xB yD (Pc.ty pH) ac) λbw bd=>(go2 ?_);refine wX I (xB yD (Pc.tz pH) ab) λbt ba=>(go2 ?_);refine wX I (xB yD (Pc.tz pH) ac) λbq ax=>(go2 ?_);refine wX I (xB yD (Pc.ty pH) ab) λbn au=>?_;refine w_c I (sC (ev2 I I) call153 (λw hs=>kC hs bd ba oM) λao h1 cn aa=>?_)
 change (rpQ (k+l)).Is h1 ao (a.y*b.z) at aa
 refine w_c I (sC (ev2 I I) call153 (λw hs=>kC hs ax.up au.up oM) λak h2 cm O=>?_)
 change (rpQ (k+l)).Is h2 ak (a.z*b.y) at O
 refine w_c I (sC (ev2 I I) call121 (λw hs=>fJ hs aa.up O oM) λah h3 cl H=>?_)
 change (rpQ ((k+l)+(k+l)+1)).Is h3 ah ((a.y*b.z)-(a.z*b.y)) at H
 replace H:=Rp.Is.le H (Le.q (l:=2*k+2*l+1) oM);refine go1 ?_;refine yK (A:=[]) I (uB sizeOf29 (Pc.tx pH) bx (H.le (Le.q (l:=2*k+2*l+3) oM))) λcd bj=>(go4 ?_);refine gv ((zQ (q:=1) I I oM oM).cv (show _=vI (1) from I)) I (go2 ?_);refine wI (go2 ?_);refine gv (OpV.tr dC (yJ (q:=3) I I)) I (oW ?_);refine gv ((zQ (q:=1) I I oM oM).cv (show _=vI (2) from I)) I (gv ((wF (q:=3) I I oM oM).cv (show _=vI (2) from I)) I (go1 ?_));refine gv ((zQ (q:=2) I I oM oM).cv (show _=vI (3) from I)) I (gv ((wF (q:=3) I I oM oM).cv (show _=vI (0) from I)) I (go4 ?_));refine zJ 17 _ [] [(0,.q),(1,.q),(2,.q),(3,.q),(4,.q),(5,.q),(6,.q),(8,.q),(9,.q),(10,.q),(11,.q),(12,.q),(13,.q),(7,.c),(14,.c),(15,.c),(16,.q),(17,.t)] yA nX (wP zor) nX (λr hr=>hr) (go3 ?_);refine wX I (xB yD (Pc.tz pH) ac) λbv bc=>(go2 ?_);refine wX I (xB yD (Pc.tx pH) ab) λbs az=>(go2 ?_);refine wX I (xB yD (Pc.tx pH) ac) λbp aw=>(go2 ?_);refine wX I (xB yD (Pc.tz pH) ab) λbm ar=>?_;refine w_c I (sC (ev2 I I) call153 (λw hs=>kC hs bc az oM) λan h4 ck Z=>?_)
 change (rpQ (k+l)).Is h4 an (a.z*b.x) at Z
 refine w_c I (sC (ev2 I I) call153 (λw hs=>kC hs aw.up ar.up oM) λaj h5 cj M=>?_)
 change (rpQ (k+l)).Is h5 aj (a.x*b.z) at M
 refine w_c I (sC (ev2 I I) call121 (λw hs=>fJ hs Z.up M oM) λae h6 ci D=>?_)
 change (rpQ ((k+l)+(k+l)+1)).Is h6 ae ((a.z*b.x)-(a.x*b.z)) at D
 replace D:=Rp.Is.le D (Le.q (l:=2*k+2*l+1) oM);refine go1 ?_;refine yK (A:=[]) I (uB sizeOf29 (Pc.ty pH) bj (D.le (Le.q (l:=2*k+2*l+3) oM))) λcc bi=>(go4 ?_);refine gv ((zQ (q:=1) I I oM oM).cv (show _=vI (2) from I)) I (go2 ?_);refine wI (go2 ?_);refine gv (OpV.tr dC (yJ (q:=3) I I)) I (oW ?_);refine gv ((zQ (q:=1) I I oM oM).cv (show _=vI (3) from I)) I (gv ((wF (q:=3) I I oM oM).cv (show _=vI (0) from I)) I (go1 ?_));refine gv ((zQ (q:=2) I I oM oM).cv (show _=vI (4) from I)) I (gv ((wF (q:=3) I I oM oM).cv (show _=vI (1) from I)) I (go4 ?_));refine zJ 17 _ [] [(0,.q),(1,.q),(2,.q),(3,.q),(4,.q),(5,.q),(6,.q),(8,.q),(9,.q),(10,.q),(11,.q),(12,.q),(13,.q),(7,.c),(14,.c),(15,.c),(16,.q),(17,.t)] yA nX (wP zor) nX (λr hr=>hr) (go3 ?_);refine wX I (xB yD (Pc.tx pH) ac) λbu bb=>(go2 ?_);refine wX I (xB yD (Pc.ty pH) ab) λbr ay=>(go2 ?_);refine wX I (xB yD (Pc.ty pH) ac) λbo av=>(go2 ?_);refine wX I (xB yD (Pc.tx pH) ab) λbl aq=>?_;refine w_c I (sC (ev2 I I) call153 (λw hs=>kC hs bb ay oM) λam h7 ch U=>?_)
 change (rpQ (k+l)).Is h7 am (a.x*b.y) at U
 refine w_c I (sC (ev2 I I) call153 (λw hs=>kC hs av.up aq.up oM) λai h8 cg J=>?_)
 change (rpQ (k+l)).Is h8 ai (a.y*b.x) at J
 refine w_c I (sC (ev2 I I) call121 (λw hs=>fJ hs U.up J oM) λad h9 cf C=>?_)
 change (rpQ ((k+l)+(k+l)+1)).Is h9 ad ((a.x*b.y)-(a.y*b.x)) at C
 replace C:=Rp.Is.le C (Le.q (l:=2*k+2*l+1) oM);refine go1 ?_;refine yK (A:=[]) I (uB sizeOf29 (Pc.tz pH) bi (C.le (Le.q (l:=2*k+2*l+3) oM))) λcb bh=>(go4 ?_);refine gv ((zQ (q:=1) I I oM oM).cv (show _=vI (3) from I)) I (go2 ?_);refine wI (go2 ?_);refine gv (OpV.fa dC (yJ (q:=3) I I)) I (qI ?_);refine lX (xB zL pH bh) λbk ap=>(yI (A:=[_]) (uB sizeOf31 pH bz ap) λca bg=>(go3 ?_));refine uJ (fV (t:=4) zL mh1 I bg) ?_;intro ce be bf;refine yW (λE S=>yE I be E S) ?_;exact bf
theorem zLZ{k l:Nat}{va:Value}{a:Tq}(ra:(tPt k).Is h0 va a){vb:Value}{b:Tq}(rb:(tPt l).Is h0 vb b)(hcd0:k+l<=10000000000):
 Calls Tryz.prog 119 #[va,vb] w0 (Ret w0 h0 (λ_ r=>r=vB (a=b))):=by
 refine cb2 18 va vb func119 hs ?_;refine go2 ?_;refine nB ra λb2 aw ai=>(nB rb λb3 av ah=>(uK ?_));refine fL (go2 ?_);refine gv (OpV.tr dC (yJ (q:=3) I I)) I (pP ?_);refine zJ 8 _ [] [(0,.q),(1,.q),(2,.q),(3,.q),(4,.q),(5,.q),(6,.c),(7,.q)] yA nX zor nX (λr hr=>hr) (go2 ?_);refine wX I (xB yD (Pc.tx pH) ai) λap ae=>(go2 ?_);refine wX I (xB yD (Pc.tx pH) ah) λam ab=>?_;refine w_c I (sC (ev2 I I) call159 (λw hs=>q7 hs ae ab oM) λJ h1 au U=>?_);obtain rfl:J=vB (a.x=b.x):=U;refine gc3 (λC=>?_) λC=>?_
 ·
  refine qI ?_;refine zC I I ?_
  first|exact(xT (by rw[qS];grind)).symm|exact(yM (by rw[qS];grind)).symm
 refine go4 ?_;refine gv ((zQ (q:=1) I I oM oM).cv (show _=vI (1) from I)) I (go2 ?_);refine wI (go2 ?_);refine gv (OpV.tr dC (yJ (q:=3) I I)) I (pP ?_);refine zJ 8 _ [] [(0,.q),(1,.q),(2,.q),(3,.q),(4,.q),(5,.q),(6,.c),(7,.q)] yA nX zor nX (λr hr=>hr) (go2 ?_);refine wX I (xB yD (Pc.ty pH) ai) λao ad=>(go2 ?_);refine wX I (xB yD (Pc.ty pH) ah) λak aa=>?_;refine w_c I (sC (ev2 I I) call159 (λw hs=>q7 hs ad aa oM) λH h2 ar O=>?_);obtain rfl:H=vB (a.y=b.y):=O;refine gc3 (λC=>?_) λC=>?_
 ·
  refine qI ?_;refine zC I I ?_
  first|exact(xT (by rw[qS];grind)).symm|exact(yM (by rw[qS];grind)).symm
 refine go4 ?_;refine gv ((zQ (q:=1) I I oM oM).cv (show _=vI (2) from I)) I (go2 ?_);refine wI (go2 ?_);refine gv (OpV.tr dC (yJ (q:=3) I I)) I (pP ?_);refine zJ 8 _ [] [(0,.q),(1,.q),(2,.q),(3,.q),(4,.q),(5,.q),(6,.c),(7,.q)] yA nX zor nX (λr hr=>hr) (go2 ?_);refine wX I (xB yD (Pc.tz pH) ai) λan ac=>(go2 ?_);refine wX I (xB yD (Pc.tz pH) ah) λaj Z=>?_;refine w_c I (sC (ev2 I I) call159 (λw hs=>q7 hs ac Z oM) λD h3 aq M=>?_);obtain rfl:D=vB (a.z=b.z):=M;refine gc3 (λC=>?_) λC=>?_
 ·
  refine qI ?_;refine zC I I ?_
  first|exact(xT (by rw[qS];grind)).symm|exact(yM (by rw[qS];grind)).symm
 refine go4 ?_;refine gv ((zQ (q:=1) I I oM oM).cv (show _=vI (3) from I)) I (go2 ?_);refine wI (go2 ?_);refine gv (OpV.fa dC (yJ (q:=3) I I)) I (pP ?_);refine zC I I ?_
 first|exact(xT (by rw[qS];grind)).symm|exact(yM (by rw[qS];grind)).symm
theorem zLY{k:Nat}{va:Value}{a:Tq}(ra:(tPt k).Is h0 va a)(hcd0:k<=1000000000):
 Calls Tryz.prog 78 #[va] w0 (Ret w0 h0 (λ_ r=>r=vB (a=zT))):=by
 refine cb1 6 va func78 hs ?_;refine go2 ?_;refine nB ra λO M C=>(go5 ?_);refine lX (xB zL pH C) λv3 r3=>(lX (xV (ρ:=(tPt 1)) (wJ (ps':=[]) underlying31 yU I I sizeOf29 trivial I (xW (yN dC)) zR)) λv4 r4=>(cL (ev2 I I) call119 (λw hs=>zLZ hs r3 r4 oM) λD h1 J H=>?_));obtain rfl:D=vB (a=zT):=H;refine go4 ?_;refine zC I I ?_
 rfl
end
end Go.Proofs.YtpkaegemlpaenaaGreat
