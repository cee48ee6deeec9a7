/- Texts that the proof needs, part 4. -/
import Derived.Test.YtpkaegemlpaenaaGreatKC3
set_option linter.unusedVariables false
set_option linter.unusedSimpArgs false
namespace Go.Proofs.YtpkaegemlpaenaaGreat
open Bk Go Tryz
set_option maxRecDepth 10000
set_option maxHeartbeats 1000000
attribute [local irreducible] GL GC GQ W OpV
section
variable{w0:World}{h0:Mem}(hs:MLe h0 (mem w0))
include hs
theorem pM{s:Prop}{vn vd:Value}{xs ys:List Nat}(hn:Us .u32 h0 vn xs)(hd:Us .u32 h0 vd ys)(hl:xs.length<=500000000000)(hl':ys.length<=500000000000)(hd0:val ys≠0):
 Calls Tryz.prog 82 #[vB s,vn,vd] w0 (Ret w0 h0 (λh r=>vC h r (mkRat (sg s (val xs)) (val ys)))):=by
 have bc:=qD hn.lt;have bb:=qD hd.lt;refine cb3 55 (vB s) vn vd func82 hs ?_;refine go2 ?_;refine zG (vY (cs:=[vB ((0:Rat).num<0),.slice none 0 0,.slice none 0 0]) xR I (by simp only[zb];rfl)) I I I ?_;intro v6 r6 ao;obtain⟨b6,rfl,rfl⟩:=ao;refine go5 ?_;refine cL (ev1 I) call92 (λw hs=>tM hs hn oM) λv9 h1 av D=>(go1 ?_);replace hd:=hd.mono av;refine cL (ev1 I) call92 (λw hs=>tM hs hd oM) λai h2 au G=>?_;replace D:=D.mono au;refine zK3 (λan=>?_) λan=>?_
 ·
  refine go2 ?_;refine gv (wD (ps':=[]) (vs:=[vB ((0:Rat).num<0),.slice none 0 0,.slice none 0 0]) underlying29 xR I (qL underlying29) trivial (by simp only[zb];exact jX)) I (wN (A:=[]) (r':=.var b6 29 [vB ((0:Rat).num<0),.slice none 0 0,.slice none 0 0]) (zN (k:=0) (cs:=[_,_,_]) (vs:=[_,_,_]) I I I I yF (bL I)) I I I (go4 ?_));refine yV (λE S=>zV I (wR (cs:=[_,_,_]) mh0 underlying29 I yF I) E S) ?_;have e:val xs=0:=Classical.byContradiction λe=>by have:=yP.2 e;omega
  rw[e,zBL];exact vC.zero _
 have ad:val xs≠0:=yP.1 oM;have bd:Nat.gcd (val xs) (val ys)≠0:=Nat.ne_of_gt (Nat.gcd_pos_of_pos_left _ oM);refine go6 ?_;refine cL (ev2 I I) call126 (λw hs=>yBG hs D G oM oM) λay h3 aa M=>?_;have ar:=w9 ((val (xs))) ((val (ys)));refine go9 ?_;refine gU 6 27 (vB (((↑(zB (Nat.gcd ((val (xs))) ((val (ys))))).length:Int)≠(1:Int))\/(((zB (Nat.gcd ((val (xs))) ((val (ys))))).getD (0) 0)≠(1:Nat)))) ?_ ?_
 ·
  refine zY ((↑(zB (Nat.gcd ((val (xs))) ((val (ys))))).length:Int)≠(1:Int)) (λO=>?_) (λO=>?_)
  ·
   refine gT O I (go6 ?_);refine gqU ?_;exact congrArg some (vD O)
  refine gF O I (go3 ?_);refine gv (zX (q:=0) (0) underlying27 sizeOf124 I I M I oM) I (go3 ?_);refine gv (tN (k:=.u32) (q:=1) I I) I (go2 ?_);refine gqU ?_;exact congrArg some (vG O)
 refine gc2 (λab=>?_) λab=>?_
 ·
  refine go4 ?_;replace D:=D.mono aa;refine cL (ev2 I I) call127 (λw hs=>zJY hs D M oM oM) λax h4 am ah=>?_;obtain⟨ac,ba,rfl,H,ah⟩:=ah;have aq:=yL (Nat.div_le_self ((val (xs))) ((Nat.gcd ((val (xs))) ((val (ys))))));refine uG ?_;replace G:=G.mono (aa.trans am);replace M:=M.mono am;refine cL (ev2 I I) call127 (λw hs=>zJY hs G M oM oM) λaw h5 ak ae=>?_;obtain⟨aj,az,rfl,U,ae⟩:=ae;have ap:=yL (Nat.div_le_self ((val (ys))) ((Nat.gcd ((val (xs))) ((val (ys))))));refine sO ?_;refine gU 6 50 (vB (((↑(zB (((val (ys)))/((Nat.gcd ((val (xs))) ((val (ys))))))).length:Int)=(1:Int))/\(((zB (((val (ys)))/((Nat.gcd ((val (xs))) ((val (ys))))))).getD (0) 0)=(1:Nat)))) ?_ ?_
  ·
   refine zY ((↑(zB (((val (ys)))/((Nat.gcd ((val (xs))) ((val (ys))))))).length:Int)=(1:Int)) (λO=>?_) (λO=>?_)
   ·
    refine gT O I (go3 ?_);refine gv (zX (q:=0) (0) underlying27 sizeOf124 I I U I oM) I (go3 ?_);refine gv (fP (k:=.u32) (q:=1) I I) I (go2 ?_);refine gqU ?_;exact congrArg some (xD O)
   refine gF O I (go6 ?_);refine gqU ?_;exact congrArg some (xE O)
  refine gc2 (λJ=>?_) λJ=>?_
  ·
   refine go9 ?_;replace H:=H.mono ak;refine gv (wD (ps':=[(0,_),(1,_),(2,_)]) (vs:=[vB s,ac,.slice none 0 0]) underlying29 xR I (qL underlying29) e6z (wZ (A:=[]) (B:=[_]) (C:=[_,_]) (cs:=[_]) (off:=0) (size:=1) I I I I I (wZ (A:=[_]) (B:=[_]) (C:=[_]) (cs:=[_]) (off:=1) (size:=1) I I I I H.cells (wZ (A:=[_,_]) (B:=[_]) (C:=[]) (cs:=[_]) (off:=2) (size:=1) I I I I I jX)))) I (wN (A:=[]) (r':=.var b6 29 [vB s,ac,.slice none 0 0]) (zN (k:=0) (cs:=[_,_,_]) (vs:=[_,_,_]) I I I (ocr I (ocu H (ocr I oc0))) yF (bL I)) I I I (go3 ?_));refine yV (λE S=>zV I (wR (cs:=[_,_,_]) mh0 underlying29 I yF I) E S) ?_;exact vC.fin1 ad hd0 H J
  refine go7 ?_;replace H:=H.mono ak;refine gv (wD (ps':=[(0,_),(1,_),(2,_)]) (vs:=[vB s,ac,aj]) underlying29 xR I (qL underlying29) e6z (wZ (A:=[]) (B:=[_]) (C:=[_,_]) (cs:=[_]) (off:=0) (size:=1) I I I I I (wZ (A:=[_]) (B:=[_]) (C:=[_]) (cs:=[_]) (off:=1) (size:=1) I I I I H.cells (wZ (A:=[_,_]) (B:=[_]) (C:=[]) (cs:=[_]) (off:=2) (size:=1) I I I I U.cells jX)))) I (wN (A:=[]) (r':=.var b6 29 [vB s,ac,aj]) (zN (k:=0) (cs:=[_,_,_]) (vs:=[_,_,_]) I I I (ocr I (ocu H (ocu U oc0))) yF (bL I)) I I I (go3 ?_));refine yV (λE S=>zV I (wR (cs:=[_,_,_]) mh0 underlying29 I yF I) E S) ?_;exact vC.fin ad hd0 H U J
 replace G:=G.mono aa;refine go8 ?_;refine gU 6 50 (vB (((↑(zB (val (ys))).length:Int)=(1:Int))/\(((zB (val (ys))).getD (0) 0)=(1:Nat)))) ?_ ?_
 ·
  refine zY ((↑(zB (val (ys))).length:Int)=(1:Int)) (λO=>?_) (λO=>?_)
  ·
   refine gT O I (go3 ?_);refine gv (zX (q:=0) (0) underlying27 sizeOf124 I I G I oM) I (go3 ?_);refine gv (fP (k:=.u32) (q:=1) I I) I (go2 ?_);refine gqU ?_;exact congrArg some (xD O)
  refine gF O I (go6 ?_);refine gqU ?_;exact congrArg some (xE O)
 refine gc2 (λJ=>?_) λJ=>?_
 ·
  refine go9 ?_;replace D:=D.mono aa;refine gv (wD (ps':=[(0,_),(1,_),(2,_)]) (vs:=[vB s,v9,.slice none 0 0]) underlying29 xR I (qL underlying29) e6z (wZ (A:=[]) (B:=[_]) (C:=[_,_]) (cs:=[_]) (off:=0) (size:=1) I I I I I (wZ (A:=[_]) (B:=[_]) (C:=[_]) (cs:=[_]) (off:=1) (size:=1) I I I I D.cells (wZ (A:=[_,_]) (B:=[_]) (C:=[]) (cs:=[_]) (off:=2) (size:=1) I I I I I jX)))) I (wN (A:=[]) (r':=.var b6 29 [vB s,v9,.slice none 0 0]) (zN (k:=0) (cs:=[_,_,_]) (vs:=[_,_,_]) I I I (ocr I (ocu D (ocr I oc0))) yF (bL I)) I I I (go3 ?_));refine yV (λE S=>zV I (wR (cs:=[_,_,_]) mh0 underlying29 I yF I) E S) ?_;have Z:=zGW ab;exact vC.fin1 ad hd0 (by rw[Z,Nat.div_one];exact D) (by rw[Z,Nat.div_one];exact J)
 refine go7 ?_;replace D:=D.mono aa;refine gv (wD (ps':=[(0,_),(1,_),(2,_)]) (vs:=[vB s,v9,ai]) underlying29 xR I (qL underlying29) e6z (wZ (A:=[]) (B:=[_]) (C:=[_,_]) (cs:=[_]) (off:=0) (size:=1) I I I I I (wZ (A:=[_]) (B:=[_]) (C:=[_]) (cs:=[_]) (off:=1) (size:=1) I I I I D.cells (wZ (A:=[_,_]) (B:=[_]) (C:=[]) (cs:=[_]) (off:=2) (size:=1) I I I I G.cells jX)))) I (wN (A:=[]) (r':=.var b6 29 [vB s,v9,ai]) (zN (k:=0) (cs:=[_,_,_]) (vs:=[_,_,_]) I I I (ocr I (ocu D (ocu G oc0))) yF (bL I)) I I I (go3 ?_));refine yV (λE S=>zV I (wR (cs:=[_,_,_]) mh0 underlying29 I yF I) E S) ?_;have Z:=zGW ab;exact vC.fin ad hd0 (by rw[Z,Nat.div_one];exact D) (by rw[Z,Nat.div_one];exact G) (by rw[Z,Nat.div_one];exact J)
theorem zCI{n:Int}(hn1:-9223372036854775808<=n)(hn2:n<9223372036854775808):
 Calls Tryz.prog 61 #[vI n] w0 (Ret w0 h0 (λh r=>∃u,r=.tuple #[u,vB (n<0)]/\Us .u32 h u (zB n.natAbs))):=by
 refine cb1 15 (vI n) func61 hs ?_;refine sO ?_;refine cnd (λC=>?_) λC=>?_
 ·
  refine go4 ?_;refine gv (aY I oM oM) I (gv (s4 (p:=(-(n+1)).toNat) (k':=.u64) (W:=18446744073709551616) underlying2 underlying125 I I (congrArg some (congrArg vI oM)) oM) I (gv (sG (k:=.u64) (q:=1) (W:=18446744073709551616) I I I I oM) I (cL (ev1 I) call96 (λw hs=>t6 hs oM) λM h1 H G=>(go6 ?_))));refine wK I I I ?_;rw[xM C,show n.natAbs=(-(n+1)).toNat+1 by omega];exact⟨_,I,G⟩
 refine go5 ?_;refine gv (s4 (p:=n.toNat) (k':=.u64) (W:=18446744073709551616) underlying2 underlying125 I I (congrArg some (congrArg vI oM)) oM) I (cL (ev1 I) call96 (λw hs=>t6 hs oM) λJ h1 H D=>(go5 ?_));refine wK I I I ?_;rw[yH C,show n.natAbs=n.toNat by omega];exact⟨_,I,D⟩
theorem zSX{n:Int}(hn1:-9223372036854775808<=n)(hn2:n<9223372036854775808){d:Int}(hd1:-9223372036854775808<=d)(hd2:d<9223372036854775808):
 Calls Tryz.prog 54 #[vI n,vI d] w0 (Ret w0 h0 (λh r=>∃u,r=.tuple #[u,vI (if d=0 then 3 else 0)]/\vC h u (jU n d))):=by
 refine cb2 29 (vI n) (vI d) func54 hs ?_;refine go2 ?_;refine zG (vY (cs:=[vB ((0:Rat).num<0),.slice none 0 0,.slice none 0 0]) xR I (by simp only[zb];rfl)) I I I ?_;intro v4 r4 ab;obtain⟨b4,rfl,rfl⟩:=ab;refine zC5 (λC=>?_) λC=>?_
 ·
  refine go2 ?_;refine gv (wD (ps':=[]) (vs:=[vB ((0:Rat).num<0),.slice none 0 0,.slice none 0 0]) underlying29 xR I (qL underlying29) trivial (by simp only[zb];exact jX)) I (wN (A:=[]) (r':=.var b4 29 [vB ((0:Rat).num<0),.slice none 0 0,.slice none 0 0]) (zN (k:=0) (cs:=[_,_,_]) (vs:=[_,_,_]) I I I I yF (bL I)) I I I (go5 ?_));refine yV (λE S=>jS I (wR (cs:=[_,_,_]) mh0 underlying29 I yF I) (tE I) E S) ?_;rw[if_pos C,C,zGI];exact⟨_,I,vC.zero _⟩
 have ap:d.natAbs≠0:=by omega
 refine go5 ?_;refine cL (ev1 I) call61 (λw hs=>zCI hs oM oM) λaj h1 ao aa=>?_;obtain⟨am,rfl,D⟩:=aa;have ad:=fD (n:=n) oM oM;refine uG ?_;refine cL (ev1 I) call61 (λw hs=>zCI hs oM oM) λai h2 ae Z=>?_;obtain⟨ak,rfl,U⟩:=Z;have ac:=fD (n:=d) oM oM;refine qM ?_;refine gv (tO underlying4 I I) I (go2 ?_);replace D:=D.mono ae;refine cL (ev3 I I I) call82 (λw hs=>pM hs D U oM oM (by first|(simp only[zE];omega)|(simp only[zE];first|exact Rat.den_nz _|exact Nat.mul_ne_zero (Rat.den_nz _) (Rat.den_nz _)|exact Nat.one_ne_zero|assumption)|assumption)) λah h3 an G=>?_
 try simp only[zE] at G
 obtain⟨M,O,rfl,H,J⟩:=G;refine wN (A:=[]) (r':=.var b4 29 [vB ((mkRat (sg (¬((n<0)↔(d<0))) (((n).natAbs))) (((d).natAbs))).num<0),M,O]) (zN (k:=0) (cs:=[_,_,_]) (vs:=[_,_,_]) I I I (ocr I (ocu H (ocu J oc0))) yF (bL I)) I I I (go4 ?_);refine yV (λE S=>jS I (wR (cs:=[_,_,_]) mh0 underlying29 I yF I) (tE I) E S) ?_;rw[if_neg C,<-zM3 C];exact⟨_,I,_,_,I,H,J⟩
theorem zL4{n:Int}(hn1:-9223372036854775808<=n)(hn2:n<9223372036854775808):
 Calls Tryz.prog 27 #[vI n] w0 (Ret w0 h0 (λh r=>vC h r (n:Rat))):=by
 refine cb1 13 (vI n) func27 hs ?_;refine go2 ?_;refine zG (vY (cs:=[vB ((0:Rat).num<0),.slice none 0 0,.slice none 0 0]) xR I (by simp only[zb];rfl)) I I I ?_;intro v2 r2 H;obtain⟨U,rfl,rfl⟩:=H;refine go5 ?_;refine cL (ev1 I) call61 (λw hs=>zCI hs oM oM) λZ h1 O G=>?_;obtain⟨J,rfl,D⟩:=G;have M:=fD (n:=n) oM oM;refine qM ?_;refine gv (wD (ps':=[(0,_),(1,_)]) (vs:=[vB (n<0),J,.slice none 0 0]) underlying29 xR I (qL underlying29) e4z (wZ (A:=[]) (B:=[_]) (C:=[_,_]) (cs:=[_]) (off:=0) (size:=1) I I I I I (wZ (A:=[_]) (B:=[_]) (C:=[_]) (cs:=[_]) (off:=1) (size:=1) I I I I D.cells jX))) I (wN (A:=[]) (r':=.var U 29 [vB (n<0),J,.slice none 0 0]) (zN (k:=0) (cs:=[_,_,_]) (vs:=[_,_,_]) I I I (ocr I (ocu D (ocr I oc0))) yF (bL I)) I I I (go3 ?_));refine yV (λE S=>zV I (wR (cs:=[_,_,_]) mh0 underlying29 I yF I) E S) ?_;exact vC.int D
theorem dH{n:Int}(hn1:-9223372036854775808<=n)(hn2:n<9223372036854775808){d:Int}(hd1:-9223372036854775808<=d)(hd2:d<9223372036854775808):
 Calls Tryz.prog 21 #[vI n,vI d] w0 (Ret w0 h0 (λh r=>vC h r (jU n d))):=by
 refine cb2 14 (vI n) (vI d) func21 hs ?_;refine go2 ?_;refine zG (vY (cs:=[vB ((0:Rat).num<0),.slice none 0 0,.slice none 0 0]) xR I (by simp only[zb];rfl)) I I I ?_;intro v4 r4 O;obtain⟨b4,rfl,rfl⟩:=O;refine go6 ?_;refine cL (ev2 I I) call54 (λw hs=>zSX hs oM oM oM oM) λZ h1 aa J=>?_;obtain⟨_,rfl,G,H,rfl,C,D⟩:=J;have U:=dS (n:=n) (d:=d) oM oM oM oM;refine go3 ?_;refine zG (vY (cs:=[vB ((0:Rat).num<0),.slice none 0 0,.slice none 0 0]) xR I (by simp only[zb];rfl)) I I I ?_;intro v5 r5 M;obtain⟨b5,rfl,rfl⟩:=M;refine wN (A:=[]) (r':=.var b5 29 [vB ((jU n d).num<0),G,H]) (zN (k:=0) (cs:=[_,_,_]) (vs:=[_,_,_]) I I I (ocr I (ocu C (ocu D oc0))) yF (bL I)) I I I (go6 ?_);refine wN (A:=[_]) (r':=.var b4 29 [vB ((jU n d).num<0),G,H]) (zN (k:=0) (cs:=[_,_,_]) (vs:=[_,_,_]) I I I (ocr I (ocu C (ocu D oc0))) yF (bL I)) I I I (go3 ?_);refine yV (λE S=>zV I (wR (cs:=[_,_,_]) mh1 underlying29 I yF I) E S) ?_;exact⟨_,_,I,C,D⟩
theorem zSW{qa:Rat}{vna vda:Value}(hna:Us .u32 h0 vna (zB qa.num.natAbs))(hda:Us .u32 h0 vda (zB (wU qa.den))){qb:Rat}{vnb vdb:Value}(hnb:Us .u32 h0 vnb (zB qb.num.natAbs))(hdb:Us .u32 h0 vdb (zB (wU qb.den)))(hqa:lq qa<=100000000000)(hqb:lq qb<=100000000000):
 Calls Tryz.prog 73 #[.agg #[vB (qa.num<0),vna,vda],.agg #[vB (qb.num<0),vnb,vdb]] w0 (Ret w0 h0 (λ_ r=>r=vB (qa=qb))):=by
 have ad:=uE qa;have ah:=uC qa;have aj:=vZ qa;have ac:=uE qb;have ae:=uC qb;have ai:=vZ qb;refine cb2 26 (.agg #[vB (qa.num<0),vna,vda]) (.agg #[vB (qb.num<0),vnb,vdb]) func73 hs ?_;refine go2 ?_;refine zG (wW (cs:=[_,_,_]) I I) I I I ?_;intro v2 r2 ab;obtain⟨b2,rfl,rfl⟩:=ab;refine zG (wW (cs:=[_,_,_]) I I) I I I ?_;intro v3 r3 aa;obtain⟨b3,rfl,rfl⟩:=aa;refine go9 ?_;refine gv (aZ underlying4 I I) I ?_;refine qB (ι:=Mem) 8 (λH=>MLe h0 H) (λ_=>[(17,vB (((qa.num<0)↔(qb.num<0))/\((rQ (qa.num.natAbs) (qb.num.natAbs))=(0:Int)))),(2,vP b2 0),(3,vP b3 0)]) (λ_=>[.var b3 29 [vB (qb.num<0),vnb,vdb],.var b2 29 [vB (qa.num<0),vna,vda]]) (λH=>H) ?_ ?_
 ·
  refine zY ((qa.num<0)↔(qb.num<0)) (λG=>?_) (λG=>?_)
  ·
   refine gT G I (go9 ?_);refine cL (ev2 I I) call49 (λw hs=>oA hs hna hnb) λam h1 J U=>?_;subst U;refine go4 ?_;refine zS h1 J ⟨?_,I,I,trivial⟩ I I;exact congrArg some (xD G)
  refine gF G I (go8 ?_);refine zS h0 (MLe.refl _) ⟨?_,I,I,trivial⟩ I I;exact congrArg some (xE G)
 intro D C;refine tY ?_;refine qB (ι:=Mem) 8 (λH=>MLe D H) (λ_=>[(25,vB ((((qa.num<0)↔(qb.num<0))/\((rQ (qa.num.natAbs) (qb.num.natAbs))=(0:Int)))/\((rQ ((wU qa.den)) ((wU qb.den)))=(0:Int))))]) (λ_=>[.var b3 29 [vB (qb.num<0),vnb,vdb],.var b2 29 [vB (qa.num<0),vna,vda]]) (λH=>H) ?_ ?_
 ·
  refine zY (((qa.num<0)↔(qb.num<0))/\((rQ (qa.num.natAbs) (qb.num.natAbs))=(0:Int))) (λG=>?_) (λG=>?_)
  ·
   refine gT G I (go9 ?_);replace hda:=hda.mono C;replace hdb:=hdb.mono C;refine cL (ev2 I I) call49 (λw hs=>oA hs hda hdb) λak h1 J O=>?_;subst O;refine go4 ?_;refine zS h1 J ⟨?_,trivial⟩ I I;exact congrArg some (xD G)
  refine gF G I (go8 ?_);refine zS D (MLe.refl _) ⟨?_,trivial⟩ I I;exact congrArg some (xE G)
 intro Z M;refine tY ?_;refine go4 ?_;refine zC I I ?_;exact kF zZD
theorem zCJ{qa:Rat}{vna vda:Value}(hna:Us .u32 h0 vna (zB qa.num.natAbs))(hda:Us .u32 h0 vda (zB (wU qa.den)))(hqa:lq qa<=100000000000):
 Calls Tryz.prog 48 #[.agg #[vB (qa.num<0),vna,vda]] w0 (Ret w0 h0 (λ_ r=>r=vI (yR qa))):=by
 have H:=uE qa;have J:=uC qa;have M:=vZ qa;refine cb1 9 (.agg #[vB (qa.num<0),vna,vda]) func48 hs ?_;refine go2 ?_;refine zG (wW (cs:=[_,_,_]) I I) I I I ?_;intro v1 r1 G;obtain⟨O,rfl,rfl⟩:=G;refine zK3 (λD=>?_) λD=>?_
 ·
  refine go7 ?_;refine zC I I ?_;rw[aN (bU D)]
 refine gc9 (λC=>?_) λC=>?_
 ·
  refine go7 ?_;refine zC I I ?_;rw[zA0 C]
 refine go8 ?_;refine zC I I ?_;rw[zAZ (zF7 D) C]
theorem zL2{qa:Rat}{vna vda:Value}(hna:Us .u32 h0 vna (zB qa.num.natAbs))(hda:Us .u32 h0 vda (zB (wU qa.den)))(hqa:lq qa<=100000000000):
 Calls Tryz.prog 87 #[.agg #[vB (qa.num<0),vna,vda]] w0 (Ret w0 h0 (λh r=>vC h r (-qa))):=by
 have H:=uE qa;have J:=uC qa;have M:=vZ qa;refine cb1 14 (.agg #[vB (qa.num<0),vna,vda]) func87 hs ?_;refine go2 ?_;refine zG (wW (cs:=[_,_,_]) I I) I I I ?_;intro v1 r1 G;obtain⟨U,rfl,rfl⟩:=G;refine zG (vY (cs:=[vB ((0:Rat).num<0),.slice none 0 0,.slice none 0 0]) xR I (by simp only[zb];rfl)) I I I ?_;intro v2 r2 D;obtain⟨O,rfl,rfl⟩:=D;refine go7 ?_;refine gU 6 11 (vB ((¬(qa.num<0))/\((0:Int)<(↑(zB qa.num.natAbs).length:Int)))) ?_ ?_
 ·
  refine zY (¬(qa.num<0)) (λC=>?_) (λC=>?_)
  ·
   refine gT C I (uG ?_);refine gqU ?_;exact congrArg some (xD C)
  refine gF C I (go6 ?_);refine gqU ?_;exact congrArg some (xE C)
 refine go1 ?_;refine wN (A:=[_]) (r':=.var U 29 [vB ((¬(qa.num<0))/\((0:Int)<(↑(zB qa.num.natAbs).length:Int))),vna,vda]) (zN (k:=0) (cs:=[_,_,_]) (vs:=[_]) I I I I zVJ (bL I)) I I I (go5 ?_);refine wN (A:=[]) (r':=.var O 29 [vB ((¬(qa.num<0))/\((0:Int)<(↑(zB qa.num.natAbs).length:Int))),vna,vda]) (zN (k:=0) (cs:=[_,_,_]) (vs:=[_,_,_]) I I I (ocr I (ocu hna (ocu hda oc0))) yF (bL I)) I I I (go3 ?_);refine yV (λE S=>zV I (wR (cs:=[_,_,_]) mh0 underlying29 I yF I) E S) ?_;exact vC.negB hna hda
theorem zV2{qa:Rat}{vna vda:Value}(hna:Us .u32 h0 vna (zB qa.num.natAbs))(hda:Us .u32 h0 vda (zB (wU qa.den)))(hqa:lq qa<=100000000000):
 Calls Tryz.prog 103 #[.agg #[vB (qa.num<0),vna,vda]] w0 (Ret w0 h0 (λh r=>vC h r (iU qa))):=by
 have G:=uE qa;have H:=uC qa;have J:=vZ qa;refine cb1 5 (.agg #[vB (qa.num<0),vna,vda]) func103 hs ?_;refine go2 ?_;refine zG (wW (cs:=[_,_,_]) I I) I I I ?_;intro v1 r1 D;obtain⟨O,rfl,rfl⟩:=D;refine zG (vY (cs:=[vB ((0:Rat).num<0),.slice none 0 0,.slice none 0 0]) xR I (by simp only[zb];rfl)) I I I ?_;intro v2 r2 C;obtain⟨M,rfl,rfl⟩:=C;refine go5 ?_;refine wN (A:=[_]) (r':=.var O 29 [.bool false,vna,vda]) (zN (k:=0) (cs:=[_,_,_]) (vs:=[_]) I I I I zVJ (bL I)) I I I (go5 ?_);refine wN (A:=[]) (r':=.var M 29 [.bool false,vna,vda]) (zN (k:=0) (cs:=[_,_,_]) (vs:=[_,_,_]) I I I (ocr I (ocu hna (ocu hda oc0))) yF (bL I)) I I I (go3 ?_);refine yV (λE S=>zV I (wR (cs:=[_,_,_]) mh0 underlying29 I yF I) E S) ?_;exact vC.abs hna hda
theorem zFC{qa:Rat}{vna vda:Value}(hna:Us .u32 h0 vna (zB qa.num.natAbs))(hda:Us .u32 h0 vda (zB (wU qa.den))){qb:Rat}{vnb vdb:Value}(hnb:Us .u32 h0 vnb (zB qb.num.natAbs))(hdb:Us .u32 h0 vdb (zB (wU qb.den)))(hqa:lq qa<=100000000000)(hqb:lq qb<=100000000000):
 Calls Tryz.prog 45 #[.agg #[vB (qa.num<0),vna,vda],.agg #[vB (qb.num<0),vnb,vdb]] w0 (Ret w0 h0 (λh r=>vC h r (qa+qb))):=by
 have bx:=uE qa;have ca:=uC qa;have cc:=vZ qa;have bw:=uE qb;have bz:=uC qb;have cb:=vZ qb;refine cb2 75 (.agg #[vB (qa.num<0),vna,vda]) (.agg #[vB (qb.num<0),vnb,vdb]) func45 hs ?_;refine go2 ?_;refine zG (wW (cs:=[_,_,_]) I I) I I I ?_;intro v2 r2 bo;obtain⟨b2,rfl,rfl⟩:=bo;refine zG (wW (cs:=[_,_,_]) I I) I I I ?_;intro v3 r3 bn;obtain⟨b3,rfl,rfl⟩:=bn;refine zG (vY (cs:=[vB ((0:Rat).num<0),.slice none 0 0,.slice none 0 0]) xR I (by simp only[zb];rfl)) I I I ?_;intro v4 r4 bm;obtain⟨b4,rfl,rfl⟩:=bm;refine zC4 (λay=>?_) λay=>?_
 ·
  refine go3 ?_;refine wN (A:=[]) (r':=.var b4 29 [vB (qb.num<0),vnb,vdb]) (zN (k:=0) (cs:=[_,_,_]) (vs:=[_,_,_]) I I I (ocr I (ocu hnb (ocu hdb oc0))) yF (bL I)) I I I (go4 ?_);refine yV (λE S=>zV I (wR (cs:=[_,_,_]) mh0 underlying29 I yF I) E S) ?_;rw[bU ay,Rat.zero_add];exact⟨_,_,I,hnb,hdb⟩
 refine zC4 (λax=>?_) λax=>?_
 ·
  refine go3 ?_;refine wN (A:=[]) (r':=.var b4 29 [vB (qa.num<0),vna,vda]) (zN (k:=0) (cs:=[_,_,_]) (vs:=[_,_,_]) I I I (ocr I (ocu hna (ocu hda oc0))) yF (bL I)) I I I (go4 ?_);refine yV (λE S=>zV I (wR (cs:=[_,_,_]) mh0 underlying29 I yF I) E S) ?_;rw[bU ax,Rat.add_zero];exact⟨_,_,I,hna,hda⟩
 refine go3 ?_;refine zK 12 _ [] [(0,.q),(1,.q),(2,.q),(5,.q),(6,.q),(7,.q),(3,.c),(4,.c),(8,.c),(9,.c),(10,.q),(11,.q)] yA nX zou nX (λr hr=>hr) (go6 ?_);refine w_c I (sC (ev1 I) call51 (λw hs=>rD hs I hnb hdb) λcq h1 ao aw=>?_);rw[qH] at aw;refine w_c I ?_;replace hna:=hna.mono ao;refine sC (ev2 I I) call50 (λw hs=>bC hs hna aw oM oM) λcp h2 an D=>?_
 try simp only[zE] at D
 have bu:=yN ((qa.num.natAbs)) ((qb.den));refine w_c I ?_;replace hna:=hna.mono an;replace hda:=hda.mono (ao.trans an);refine sC (ev1 I) call51 (λw hs=>rD hs I hna hda) λco h3 Z av=>?_;rw[qH] at av;refine w_c I ?_;replace hnb:=hnb.mono ((ao.trans an).trans Z);refine sC (ev2 I I) call50 (λw hs=>bC hs hnb av oM oM) λcn h4 U C=>?_
 try simp only[zE] at C
 have bt:=yN ((qb.num.natAbs)) ((qa.den));refine go5 ?_;refine zK 6 _ [] [(0,.q),(2,.q),(1,.c),(3,.c),(4,.c),(5,.q)] yA nX zou nX (λr hr=>hr) (go2 ?_);refine w_c I ?_;replace hna:=hna.mono (Z.trans U);replace hda:=hda.mono (Z.trans U);refine sC (ev1 I) call51 (λw hs=>rD hs I hna hda) λcm h5 O J=>?_;rw[qH] at J;refine w_c I ?_;replace hnb:=hnb.mono (U.trans O);replace hdb:=hdb.mono ((((ao.trans an).trans Z).trans U).trans O);refine sC (ev1 I) call51 (λw hs=>rD hs I hnb hdb) λcl h6 ad au=>?_;rw[qH] at au;refine w_c I ?_;replace J:=J.mono ad;refine sC (ev2 I I) call50 (λw hs=>bC hs J au oM oM) λck h7 am G=>?_
 try simp only[zE] at G
 have bs:=yN ((qa.den)) ((qb.den));refine uG ?_;refine gv (aZ underlying4 I I) I (gc2 (λM=>?_) λM=>?_)
 ·
  refine go1 ?_;refine zK 7 _ [] [(0,.q),(1,.q),(2,.q),(3,.q),(5,.q),(4,.c),(6,.c),(7,.t)] yA nX zou nX (λr hr=>hr) (go5 ?_);refine w_c I ?_;replace D:=D.mono ((((Z.trans U).trans O).trans ad).trans am);replace C:=C.mono ((O.trans ad).trans am);refine sC (ev2 I I) call83 (λw hs=>yBH hs D C oM oM) λcj h8 H bk=>?_;have br:=kV ((((qa.num.natAbs))*((qb.den)))) ((((qb.num.natAbs))*((qa.den))));refine w_c I ?_;replace G:=G.mono H;refine sC (ev3 I I I) call82 (λw hs=>pM hs bk G oM oM (by first|(simp only[zE];omega)|(simp only[zE];first|exact Rat.den_nz _|exact Nat.mul_ne_zero (Rat.den_nz _) (Rat.den_nz _)|exact Nat.one_ne_zero|assumption)|assumption)) λci h9 ak ar=>?_
  try simp only[zE] at ar
  obtain⟨bb,be,rfl,ac,ai⟩:=ar;refine pT (A:=[]) (q':=.var b4 29 [vB ((mkRat (sg (qa.num<0) (((((((qa.num.natAbs))*((qb.den))))+((((qb.num.natAbs))*((qa.den)))))))) (((((qa.den))*((qb.den)))))).num<0),bb,be]) I (zN (k:=0) (cs:=[_,_,_]) (vs:=[_,_,_]) I I I (ocr I (ocu ac (ocu ai oc0))) yF (bL I)) I (go4 ?_);refine yV (λE S=>zV I (wR (cs:=[_,_,_]) mh0 underlying29 I yF I) E S) ?_;rw[zZ9 M] at ac ai ⊢;exact⟨_,_,I,ac,ai⟩
 refine go7 ?_;replace D:=D.mono ((((Z.trans U).trans O).trans ad).trans am);replace C:=C.mono ((O.trans ad).trans am);refine cL (ev2 I I) call49 (λw hs=>oA hs D C) λch h8 H bj=>?_;subst bj;refine gc3 (λaj=>?_) λaj=>?_
 ·
  refine go4 ?_;replace D:=D.mono H;replace C:=C.mono H;refine cL (ev2 I I) call84 (λw hs=>zQW hs C D oM) λcg h9 ak bi=>?_;obtain⟨cu,rfl,bg⟩:=bi;have bq:=yL (Nat.sub_le ((((qb.num.natAbs))*((qa.den)))) ((((qa.num.natAbs))*((qb.den)))));refine sO ?_;replace G:=G.mono (H.trans ak);refine cL (ev3 I I I) call82 (λw hs=>pM hs bg G oM oM (by first|(simp only[zE];omega)|(simp only[zE];first|exact Rat.den_nz _|exact Nat.mul_ne_zero (Rat.den_nz _) (Rat.den_nz _)|exact Nat.one_ne_zero|assumption)|assumption)) λcf bv bl aq=>?_
  try simp only[zE] at aq
  obtain⟨ba,bd,rfl,ab,ah⟩:=aq;refine wN (A:=[]) (r':=.var b4 29 [vB ((mkRat (sg (qb.num<0) (((((((qb.num.natAbs))*((qa.den))))-((((qa.num.natAbs))*((qb.den)))))))) (((((qa.den))*((qb.den)))))).num<0),ba,bd]) (zN (k:=0) (cs:=[_,_,_]) (vs:=[_,_,_]) I I I (ocr I (ocu ab (ocu ah oc0))) yF (bL I)) I I I (go4 ?_);refine yV (λE S=>zV I (wR (cs:=[_,_,_]) mh0 underlying29 I yF I) E S) ?_;rw[yJI M (by have:=rO.1 aj;omega)] at ab ah ⊢;exact⟨_,_,I,ab,ah⟩
 refine go6 ?_;replace D:=D.mono H;replace C:=C.mono H;refine cL (ev2 I I) call84 (λw hs=>zQW hs D C oM) λce h9 ak bh=>?_;obtain⟨ct,rfl,bf⟩:=bh;have bp:=yL (Nat.sub_le ((((qa.num.natAbs))*((qb.den)))) ((((qb.num.natAbs))*((qa.den)))));refine sO ?_;replace G:=G.mono (H.trans ak);refine cL (ev3 I I I) call82 (λw hs=>pM hs bf G oM oM (by first|(simp only[zE];omega)|(simp only[zE];first|exact Rat.den_nz _|exact Nat.mul_ne_zero (Rat.den_nz _) (Rat.den_nz _)|exact Nat.one_ne_zero|assumption)|assumption)) λcd bv bl ap=>?_
 try simp only[zE] at ap
 obtain⟨az,bc,rfl,aa,ae⟩:=ap;refine wN (A:=[]) (r':=.var b4 29 [vB ((mkRat (sg (qa.num<0) (((((((qa.num.natAbs))*((qb.den))))-((((qb.num.natAbs))*((qa.den)))))))) (((((qa.den))*((qb.den)))))).num<0),az,bc]) (zN (k:=0) (cs:=[_,_,_]) (vs:=[_,_,_]) I I I (ocr I (ocu aa (ocu ae oc0))) yF (bL I)) I I I (go3 ?_);refine yV (λE S=>zV I (wR (cs:=[_,_,_]) mh0 underlying29 I yF I) E S) ?_;rw[yJJ M (Nat.le_of_not_lt (λh=>aj (rO.2 h)))] at aa ae ⊢;exact⟨_,_,I,aa,ae⟩
theorem zVY{qa:Rat}{vna vda:Value}(hna:Us .u32 h0 vna (zB qa.num.natAbs))(hda:Us .u32 h0 vda (zB (wU qa.den))){qb:Rat}{vnb vdb:Value}(hnb:Us .u32 h0 vnb (zB qb.num.natAbs))(hdb:Us .u32 h0 vdb (zB (wU qb.den)))(hqa:lq qa<=100000000000)(hqb:lq qb<=100000000000):
 Calls Tryz.prog 55 #[.agg #[vB (qa.num<0),vna,vda],.agg #[vB (qb.num<0),vnb,vdb]] w0 (Ret w0 h0 (λh r=>vC h r (qa-qb))):=by
 have ai:=uE qa;have ak:=uC qa;have an:=vZ qa;have ah:=uE qb;have aj:=uC qb;have am:=vZ qb;refine cb2 9 (.agg #[vB (qa.num<0),vna,vda]) (.agg #[vB (qb.num<0),vnb,vdb]) func55 hs ?_;refine go2 ?_;refine zG (wW (cs:=[_,_,_]) I I) I I I ?_;intro v2 r2 aa;obtain⟨b2,rfl,rfl⟩:=aa;refine zG (wW (cs:=[_,_,_]) I I) I I I ?_;intro v3 r3 Z;obtain⟨b3,rfl,rfl⟩:=Z;refine zG (vY (cs:=[vB ((0:Rat).num<0),.slice none 0 0,.slice none 0 0]) xR I (by simp only[zb];rfl)) I I I ?_;intro v4 r4 U;obtain⟨b4,rfl,rfl⟩:=U;refine go3 ?_;refine zK 4 _ [] [(0,.q),(1,.q),(2,.c),(3,.c),(4,.t)] yA nX zou nX (λr hr=>hr) (go2 ?_);refine w_c I (sC (ev1 I) call87 (λw hs=>zL2 hs hnb hdb oM) λv7 h1 G O=>?_);obtain⟨ao,ap,rfl,ab,ac⟩:=O;have ae:=zGL qb;refine w_c I ?_;replace hna:=hna.mono G;replace hda:=hda.mono G;refine sC (ev2 I I) call45 (λw hs=>zFC hs hna hda ab ac oM oM) λv8 h2 aq M=>?_;obtain⟨H,J,rfl,C,D⟩:=M;have ad:=lF qa (-qb);refine pT (A:=[]) (q':=.var b4 29 [vB ((qa+(-qb)).num<0),H,J]) I (zN (k:=0) (cs:=[_,_,_]) (vs:=[_,_,_]) I I I (ocr I (ocu C (ocu D oc0))) yF (bL I)) I (go3 ?_);refine yV (λE S=>zV I (wR (cs:=[_,_,_]) mh0 underlying29 I yF I) E S) ?_;rw[<-Rat.sub_eq_add_neg] at C D ⊢;exact⟨_,_,I,C,D⟩
theorem zL3{qa:Rat}{vna vda:Value}(hna:Us .u32 h0 vna (zB qa.num.natAbs))(hda:Us .u32 h0 vda (zB (wU qa.den))){qb:Rat}{vnb vdb:Value}(hnb:Us .u32 h0 vnb (zB qb.num.natAbs))(hdb:Us .u32 h0 vdb (zB (wU qb.den)))(hqa:lq qa<=100000000000)(hqb:lq qb<=100000000000):
 Calls Tryz.prog 53 #[.agg #[vB (qa.num<0),vna,vda],.agg #[vB (qb.num<0),vnb,vdb]] w0 (Ret w0 h0 (λh r=>vC h r (qa*qb))):=by
 have an:=uE qa;have ap:=uC qa;have ar:=vZ qa;have am:=uE qb;have ao:=uC qb;have aq:=vZ qb;refine cb2 21 (.agg #[vB (qa.num<0),vna,vda]) (.agg #[vB (qb.num<0),vnb,vdb]) func53 hs ?_;refine go2 ?_;refine zG (wW (cs:=[_,_,_]) I I) I I I ?_;intro v2 r2 ah;obtain⟨b2,rfl,rfl⟩:=ah;refine zG (wW (cs:=[_,_,_]) I I) I I I ?_;intro v3 r3 ae;obtain⟨b3,rfl,rfl⟩:=ae;refine zG (vY (cs:=[vB ((0:Rat).num<0),.slice none 0 0,.slice none 0 0]) xR I (by simp only[zb];rfl)) I I I ?_;intro v4 r4 ad;obtain⟨b4,rfl,rfl⟩:=ad;refine go3 ?_;refine zK 16 _ [] [(0,.q),(1,.q),(2,.q),(3,.q),(4,.q),(5,.q),(6,.q),(7,.q),(8,.q),(10,.q),(12,.q),(9,.c),(11,.c),(13,.c),(14,.c),(15,.c),(16,.t)] yA nX zou nX (λr hr=>hr) (go4 ?_);refine wI I (λ_ _=>tO underlying4 I I) I (go6 ?_);refine w_c I (sC (ev2 I I) call50 (λw hs=>bC hs hna hnb oM oM) λay h1 J D=>?_)
 try simp only[zE] at D
 have aj:=yN ((qa.num.natAbs)) ((qb.num.natAbs));refine w_c I ?_;replace hna:=hna.mono J;replace hda:=hda.mono J;refine sC (ev1 I) call51 (λw hs=>rD hs I hna hda) λax h2 Z C=>?_;rw[qH] at C;refine w_c I ?_;replace hnb:=hnb.mono (J.trans Z);replace hdb:=hdb.mono (J.trans Z);refine sC (ev1 I) call51 (λw hs=>rD hs I hnb hdb) λaw h3 ac U=>?_;rw[qH] at U;refine w_c I ?_;replace C:=C.mono ac;refine sC (ev2 I I) call50 (λw hs=>bC hs C U oM oM) λav h4 ak O=>?_
 try simp only[zE] at O
 have ai:=yN ((qa.den)) ((qb.den));refine w_c I ?_;replace D:=D.mono ((Z.trans ac).trans ak);refine sC (ev3 I I I) call82 (λw hs=>pM hs D O oM oM (by first|(simp only[zE];omega)|(simp only[zE];first|exact Rat.den_nz _|exact Nat.mul_ne_zero (Rat.den_nz _) (Rat.den_nz _)|exact Nat.one_ne_zero|assumption)|assumption)) λau h5 az M=>?_
 try simp only[zE] at M
 obtain⟨aa,ab,rfl,G,H⟩:=M;refine pT (A:=[]) (q':=.var b4 29 [vB ((mkRat (sg (¬((qa.num<0)↔(qb.num<0))) (((((qa.num.natAbs))*((qb.num.natAbs)))))) (((((qa.den))*((qb.den)))))).num<0),aa,ab]) I (zN (k:=0) (cs:=[_,_,_]) (vs:=[_,_,_]) I I I (ocr I (ocu G (ocu H oc0))) yF (bL I)) I (go3 ?_);refine yV (λE S=>zV I (wR (cs:=[_,_,_]) mh0 underlying29 I yF I) E S) ?_;rw[zXN] at G H ⊢;exact⟨_,_,I,G,H⟩
theorem zVZ{qa:Rat}{vna vda:Value}(hna:Us .u32 h0 vna (zB qa.num.natAbs))(hda:Us .u32 h0 vda (zB (wU qa.den))){qb:Rat}{vnb vdb:Value}(hnb:Us .u32 h0 vnb (zB qb.num.natAbs))(hdb:Us .u32 h0 vdb (zB (wU qb.den)))(hqa:lq qa<=100000000000)(hqb:lq qb<=100000000000):
 Calls Tryz.prog 81 #[.agg #[vB (qa.num<0),vna,vda],.agg #[vB (qb.num<0),vnb,vdb]] w0 (Ret w0 h0 (λh r=>∃u,r=.tuple #[u,vI (if qb=0 then 3 else 0)]/\vC h u (if qb=0 then 0 else qa/qb))):=by
 have aq:=uE qa;have au:=uC qa;have aw:=vZ qa;have ap:=uE qb;have ar:=uC qb;have av:=vZ qb;refine cb2 27 (.agg #[vB (qa.num<0),vna,vda]) (.agg #[vB (qb.num<0),vnb,vdb]) func81 hs ?_;refine go2 ?_;refine zG (wW (cs:=[_,_,_]) I I) I I I ?_;intro v2 r2 aj;obtain⟨b2,rfl,rfl⟩:=aj;refine zG (wW (cs:=[_,_,_]) I I) I I I ?_;intro v3 r3 ai;obtain⟨b3,rfl,rfl⟩:=ai;refine zG (vY (cs:=[vB ((0:Rat).num<0),.slice none 0 0,.slice none 0 0]) xR I (by simp only[zb];rfl)) I I I ?_;intro v4 r4 ah;obtain⟨b4,rfl,rfl⟩:=ah;refine zK3 (λH=>?_) λH=>?_
 ·
  refine go2 ?_;refine gv (wD (ps':=[]) (vs:=[vB ((0:Rat).num<0),.slice none 0 0,.slice none 0 0]) underlying29 xR I (qL underlying29) trivial (by simp only[zb];exact jX)) I (wN (A:=[]) (r':=.var b4 29 [vB ((0:Rat).num<0),.slice none 0 0,.slice none 0 0]) (zN (k:=0) (cs:=[_,_,_]) (vs:=[_,_,_]) I I I I yF (bL I)) I I I (go5 ?_));refine yV (λE S=>jS I (wR (cs:=[_,_,_]) mh0 underlying29 I yF I) (tE I) E S) ?_;rw[if_pos (bU H),if_pos (bU H)];exact⟨_,I,vC.zero _⟩
 have J:=zF7 H;have ao:=zF8.2 J;have bd:qa.den*qb.num.natAbs≠0:=Nat.mul_ne_zero qa.den_nz ao;refine go3 ?_;refine zK 16 _ [] [(0,.q),(1,.q),(2,.q),(3,.q),(4,.q),(5,.q),(6,.q),(7,.q),(10,.q),(12,.q),(13,.q),(8,.c),(9,.c),(11,.c),(14,.c),(15,.c),(16,.t),(17,.t)] yA nX zou nX (λr hr=>hr) (go4 ?_);refine wI I (λ_ _=>tO underlying4 I I) I (go6 ?_);refine w_c I (sC (ev1 I) call51 (λw hs=>rD hs I hnb hdb) λbb h1 ab Z=>?_);rw[qH] at Z;refine w_c I ?_;replace hna:=hna.mono ab;refine sC (ev2 I I) call50 (λw hs=>bC hs hna Z oM oM) λba h2 aa C=>?_
 try simp only[zE] at C
 have am:=yN ((qa.num.natAbs)) ((qb.den));refine w_c I ?_;replace hna:=hna.mono aa;replace hda:=hda.mono (ab.trans aa);refine sC (ev1 I) call51 (λw hs=>rD hs I hna hda) λaz h3 ae U=>?_;rw[qH] at U;refine w_c I ?_;replace hnb:=hnb.mono ((ab.trans aa).trans ae);refine sC (ev2 I I) call50 (λw hs=>bC hs U hnb oM oM) λay h4 an O=>?_
 try simp only[zE] at O
 have ak:=yN ((qa.den)) ((qb.num.natAbs));refine w_c I ?_;replace C:=C.mono (ae.trans an);refine sC (ev3 I I I) call82 (λw hs=>pM hs C O oM oM (by first|(simp only[zE];omega)|(simp only[zE];first|exact Rat.den_nz _|exact Nat.mul_ne_zero (Rat.den_nz _) (Rat.den_nz _)|exact Nat.one_ne_zero|assumption)|assumption)) λax h5 bc M=>?_
 try simp only[zE] at M
 obtain⟨ac,ad,rfl,D,G⟩:=M;refine pT (A:=[]) (q':=.var b4 29 [vB ((mkRat (sg (¬((qa.num<0)↔(qb.num<0))) (((((qa.num.natAbs))*((qb.den)))))) (((((qa.den))*((qb.num.natAbs)))))).num<0),ac,ad]) I (zN (k:=0) (cs:=[_,_,_]) (vs:=[_,_,_]) I I I (ocr I (ocu D (ocu G oc0))) yF (bL I)) I (zED I (pP (v:=vI (0)) I) I (go3 ?_));refine yV (λE S=>jS I (wR (cs:=[_,_,_]) mh0 underlying29 I yF I) (tE I) E S) ?_;rw[if_neg J,if_neg J];rw[zWC _ J] at D G ⊢;exact⟨_,I,_,_,I,D,G⟩
theorem zV1{qa:Rat}{vna vda:Value}(hna:Us .u32 h0 vna (zB qa.num.natAbs))(hda:Us .u32 h0 vda (zB (wU qa.den))){qb:Rat}{vnb vdb:Value}(hnb:Us .u32 h0 vnb (zB qb.num.natAbs))(hdb:Us .u32 h0 vdb (zB (wU qb.den)))(hqa:lq qa<=100000000000)(hqb:lq qb<=100000000000):
 Calls Tryz.prog 17 #[.agg #[vB (qa.num<0),vna,vda],.agg #[vB (qb.num<0),vnb,vdb]] w0 (Ret w0 h0 (λ_ r=>r=vI (xT qa qb))):=by
 have au:=uE qa;have aw:=uC qa;have ay:=vZ qa;have ar:=uE qb;have av:=uC qb;have ax:=vZ qb;have bg:-1<=rQ (qa.num.natAbs*qb.den) (qb.num.natAbs*qa.den)/\rQ (qa.num.natAbs*qb.den) (qb.num.natAbs*qa.den)<=1:=zN0 qa qb;refine cb2 34 (.agg #[vB (qa.num<0),vna,vda]) (.agg #[vB (qb.num<0),vnb,vdb]) func17 hs ?_;refine go2 ?_;refine zG (wW (cs:=[_,_,_]) I I) I I I ?_;intro v2 r2 am;obtain⟨b2,rfl,rfl⟩:=am;refine zG (wW (cs:=[_,_,_]) I I) I I I ?_;intro v3 r3 ak;obtain⟨b3,rfl,rfl⟩:=ak;refine go5 ?_;refine zK 6 _ [] [(0,.q),(2,.q),(1,.c),(3,.c),(4,.q),(5,.q)] yA nX zou nX (λr hr=>hr) (go2 ?_);refine w_c I (sC (ev1 I) call48 (λw hs=>zCJ hs hna hda oM) λv9 h1 M aj=>?_);have aq:=yX qa;subst aj;refine w_c I ?_;replace hnb:=hnb.mono M;replace hdb:=hdb.mono M;refine sC (ev1 I) call48 (λw hs=>zCJ hs hnb hdb oM) λbe h2 J ae=>?_;have ai:=yX qb;subst ae;refine zC4 (λD=>?_) λD=>?_
 ·
  refine gc8 (λH=>?_) λH=>?_
  ·
   refine go8 ?_;refine zC I I ?_;rw[zB2 D,if_pos H]
  refine go9 ?_;refine zC I I ?_;rw[zB2 D,if_neg H]
 have ac:=zLS D;refine go3 ?_;refine zK 12 _ [] [(0,.q),(1,.q),(2,.q),(5,.q),(6,.q),(7,.q),(3,.c),(4,.c),(8,.c),(9,.c),(10,.c),(11,.q)] yA nX zou nX (λr hr=>hr) (go6 ?_);refine w_c I ?_;replace hnb:=hnb.mono J;replace hdb:=hdb.mono J;refine sC (ev1 I) call51 (λw hs=>rD hs I hnb hdb) λbd h3 ab Z=>?_;rw[qH] at Z;refine w_c I ?_;replace hna:=hna.mono ((M.trans J).trans ab);refine sC (ev2 I I) call50 (λw hs=>bC hs hna Z oM oM) λbc h4 aa C=>?_
 try simp only[zE] at C
 have ao:=yN ((qa.num.natAbs)) ((qb.den));refine w_c I ?_;replace hna:=hna.mono aa;replace hda:=hda.mono (((M.trans J).trans ab).trans aa);refine sC (ev1 I) call51 (λw hs=>rD hs I hna hda) λbb h5 ah U=>?_;rw[qH] at U;refine w_c I ?_;replace hnb:=hnb.mono ((ab.trans aa).trans ah);refine sC (ev2 I I) call50 (λw hs=>bC hs hnb U oM oM) λba h6 ap O=>?_
 try simp only[zE] at O
 have an:=yN ((qb.num.natAbs)) ((qa.den));refine w_c I ?_;replace C:=C.mono (ah.trans ap);refine sC (ev2 I I) call49 (λw hs=>oA hs C O) λaz h7 bf ad=>?_;subst ad;refine zC5 (λG=>?_) λG=>?_
 ·
  refine go3 ?_;refine gv (aY I oM oM) I (go5 ?_);refine zC I I ?_;rw[zR2 ac G];rfl
 refine go9 ?_;refine zC I I ?_;rw[zNV ac G];rfl
theorem zV0{qa:Rat}{vna vda:Value}(hna:Us .u32 h0 vna (zB qa.num.natAbs))(hda:Us .u32 h0 vda (zB (wU qa.den))){qb:Rat}{vnb vdb:Value}(hnb:Us .u32 h0 vnb (zB qb.num.natAbs))(hdb:Us .u32 h0 vdb (zB (wU qb.den)))(hqa:lq qa<=10000000000)(hqb:lq qb<=10000000000):
 Calls Tryz.prog 203 #[.agg #[vB (qa.num<0),vna,vda],.agg #[vB (qb.num<0),vnb,vdb]] w0 (Ret w0 h0 (λh r=>vC h r (zCW qa qb))):=by
 have an:=uE qa;have ap:=uC qa;have ar:=vZ qa;have am:=uE qb;have ao:=uC qb;have aq:=vZ qb;refine cb2 10 (.agg #[vB (qa.num<0),vna,vda]) (.agg #[vB (qb.num<0),vnb,vdb]) func203 hs ?_;refine go2 ?_;refine zG (wW (cs:=[_,_,_]) I I) I I I ?_;intro v2 r2 ad;obtain⟨b2,rfl,rfl⟩:=ad;refine zG (wW (cs:=[_,_,_]) I I) I I I ?_;intro v3 r3 ac;obtain⟨b3,rfl,rfl⟩:=ac;refine zG (vY (cs:=[vB ((0:Rat).num<0),.slice none 0 0,.slice none 0 0]) xR I (by simp only[zb];rfl)) I I I ?_;intro v4 r4 ab;obtain⟨b4,rfl,rfl⟩:=ab;refine go6 ?_;refine cL (ev2 I I) call45 (λw hs=>zFC hs hna hda hnb hdb oM oM) λv7 h1 az aa=>?_;obtain⟨av,ax,rfl,D,H⟩:=aa;have ak:=lF qa qb;refine cL (vs:=[vI (1),vI (2)]) e2z call21 (λw hs=>dH hs oM oM oM oM) λv8 h2 J Z=>?_;have aj:=dS (n:=(1:Int)) (d:=(2:Int)) oM oM oM oM;obtain⟨au,aw,rfl,ae,ah⟩:=Z;replace D:=D.mono J;replace H:=H.mono J;refine cL (ev2 I I) call53 (λw hs=>zL3 hs D H ae ah oM oM) λv9 h3 ay U=>?_;obtain⟨M,O,rfl,C,G⟩:=U;have ai:=iN (qa+qb) (jU (1:Int) (2:Int));refine wN (A:=[]) (r':=.var b4 29 [vB (((qa+qb)*(jU (1:Int) (2:Int))).num<0),M,O]) (zN (k:=0) (cs:=[_,_,_]) (vs:=[_,_,_]) I I I (ocr I (ocu C (ocu G oc0))) yF (bL I)) I I I (go3 ?_);refine yV (λE S=>zV I (wR (cs:=[_,_,_]) mh0 underlying29 I yF I) E S) ?_;rw[zI1] at C G ⊢;exact⟨_,_,I,C,G⟩
theorem zSV{qa:Rat}{vna vda:Value}(hna:Us .u32 h0 vna (zB qa.num.natAbs))(hda:Us .u32 h0 vda (zB (wU qa.den)))(hqa:lq qa<=100000000000):
 Calls Tryz.prog 134 #[.agg #[vB (qa.num<0),vna,vda]] w0 (Ret w0 h0 (λ_ r=>r=.string (qO (qP qa)))):=by
 have ab:=uE qa;have ac:=uC qa;have ad:=vZ qa;refine cb1 22 (.agg #[vB (qa.num<0),vna,vda]) func134 hs ?_;refine go2 ?_;refine zG (wW (cs:=[_,_,_]) I I) I I I ?_;intro v1 r1 U;obtain⟨b1,rfl,rfl⟩:=U;refine go7 ?_;refine cL (ev1 I) call177 (λw hs=>zFG hs hna oM) λv6 h1 J O=>?_;subst O;have aa:=zAP ((qa.num.natAbs));refine zC5 (λG=>?_) λG=>?_
 ·
  refine go2 ?_;refine gv (wY (pa:=([45]:List Nat)) (pb:=(txt ((qa.num.natAbs)))) I I zov) I ?_;replace hda:=hda.mono J;refine zK3 (λC=>?_) λC=>?_
  ·
   refine go4 ?_;refine cL (ev1 I) call177 (λw hs=>zFG hs hda oM) λM h2 Z D=>?_;subst D;have H:=zAP (((wU qa.den)));refine gv (wY (pa:=([47]:List Nat)) (pb:=(txt (((wU qa.den))))) I I zov) I (gv (wY (pa:=(([45]:List Nat)++(txt ((qa.num.natAbs))))) (pb:=(([47]:List Nat)++(txt (((wU qa.den)))))) I I zov) I (uG ?_));refine zC I I ?_;rw[<-yE2 G C]
  refine go9 ?_;refine zC I I ?_;rw[<-yAO G C]
 replace hda:=hda.mono J;refine zC4 (λC=>?_) λC=>?_
 ·
  refine go4 ?_;refine cL (ev1 I) call177 (λw hs=>zFG hs hda oM) λM h2 Z D=>?_;subst D;have H:=zAP (((wU qa.den)));refine gv (wY (pa:=([47]:List Nat)) (pb:=(txt (((wU qa.den))))) I I zov) I (gv (wY (pa:=(txt ((qa.num.natAbs)))) (pb:=(([47]:List Nat)++(txt (((wU qa.den)))))) I I zov) I (uG ?_));refine zC I I ?_;rw[<-yAP G C]
 refine go9 ?_;refine zC I I ?_;rw[<-yAQ G C]
theorem aQ{k l:Nat}{va:Value}{a:Rat}(ra:(rpQ k).Is h0 va a){vb:Value}{b:Rat}(rb:(rpQ l).Is h0 vb b)(hcd0:k+l<=10000000000):
 Calls Tryz.prog 160 #[va,vb] w0 (Ret w0 h0 (λh r=>(rpQ (k+l+1)).Is h r (a+b))):=by
 obtain⟨M,U,rfl,D,H,aa⟩:=qR ra;obtain⟨J,O,rfl,C,G,Z⟩:=qR rb;exact(yBN hs D H C G oM oM).mono (gE λh r x=>y0 x (by have:=lF a b;omega))
theorem fS{k l:Nat}{va:Value}{a:Rat}(ra:(rpQ k).Is h0 va a){vb:Value}{b:Rat}(rb:(rpQ l).Is h0 vb b)(hcd0:k+l<=10000000000):
 Calls Tryz.prog 121 #[va,vb] w0 (Ret w0 h0 (λh r=>(rpQ (k+l+1)).Is h r (a-b))):=by
 obtain⟨M,U,rfl,D,H,aa⟩:=qR ra;obtain⟨J,O,rfl,C,G,Z⟩:=qR rb;exact(yBI hs D H C G oM oM).mono (gE λh r x=>y0 x (by have:=zGK a b;omega))
theorem kK{k l:Nat}{va:Value}{a:Rat}(ra:(rpQ k).Is h0 va a){vb:Value}{b:Rat}(rb:(rpQ l).Is h0 vb b)(hcd0:k+l<=10000000000):
 Calls Tryz.prog 153 #[va,vb] w0 (Ret w0 h0 (λh r=>(rpQ (k+l)).Is h r (a*b))):=by
 obtain⟨M,U,rfl,D,H,aa⟩:=qR ra;obtain⟨J,O,rfl,C,G,Z⟩:=qR rb;exact(yBK hs D H C G oM oM).mono (gE λh r x=>y0 x (by have:=iN a b;omega))
theorem aP{k l:Nat}{va:Value}{a:Rat}(ra:(rpQ k).Is h0 va a){vb:Value}{b:Rat}(rb:(rpQ l).Is h0 vb b)(hcd0:k+l<=10000000000):
 Calls Tryz.prog 182 #[va,vb] w0 (Ret w0 h0 (λ_ r=>r=vI (xT a b))):=by
 obtain⟨M,U,rfl,D,H,aa⟩:=qR ra;obtain⟨J,O,rfl,C,G,Z⟩:=qR rb;exact yBM hs D H C G oM oM
theorem pE{k:Nat}{va:Value}{a:Rat}(ra:(rpQ k).Is h0 va a)(hcd0:k<=10000000000):
 Calls Tryz.prog 122 #[va] w0 (Ret w0 h0 (λ_ r=>r=vI (yR a))):=by
 obtain⟨G,H,rfl,C,D,J⟩:=qR ra;exact zA8 hs C D oM
theorem s6{k l:Nat}{va:Value}{a:Rat}(ra:(rpQ k).Is h0 va a){vb:Value}{b:Rat}(rb:(rpQ l).Is h0 vb b)(hcd0:k+l<=10000000000):
 Calls Tryz.prog 159 #[va,vb] w0 (Ret w0 h0 (λ_ r=>r=vB (a=b))):=by
 obtain⟨M,U,rfl,D,H,aa⟩:=qR ra;obtain⟨J,O,rfl,C,G,Z⟩:=qR rb;exact zWB hs D H C G oM oM
theorem zTG{k l:Nat}{va:Value}{a:Rat}(ra:(rpQ k).Is h0 va a){vb:Value}{b:Rat}(rb:(rpQ l).Is h0 vb b)(hcd0:k+l<=10000000000):
 Calls Tryz.prog 123 #[va,vb] w0 (Ret w0 h0 (λh r=>∃u0,r=.tuple #[u0,vI (if b=0 then 3 else 0)]/\(rpQ (k+l)).Is h u0 (if b=0 then 0 else a/b))):=by
 obtain⟨M,U,rfl,D,H,aa⟩:=qR ra;obtain⟨J,O,rfl,C,G,Z⟩:=qR rb;exact(yBJ hs D H C G oM oM).mono (gE λh r x=>by obtain⟨u,e,y⟩:=x;exact⟨u,e,y0 y (by have:=zRF a b;omega)⟩)
theorem rZ{k l:Nat}{va:Value}{a:Rat}(ra:(rpQ k).Is h0 va a){vb:Value}{b:Rat}(rb:(rpQ l).Is h0 vb b)(hcd0:k+l<=10000000000):
 Calls Tryz.prog 45 #[va,vb] w0 (Ret w0 h0 (λh r=>(rpQ (k+l+1)).Is h r (a+b))):=by
 obtain⟨M,U,rfl,D,H,aa⟩:=qR ra;obtain⟨J,O,rfl,C,G,Z⟩:=qR rb;exact(zFC hs D H C G oM oM).mono (gE λh r x=>y0 x (by have:=lF a b;omega))
theorem gZ{k l:Nat}{va:Value}{a:Rat}(ra:(rpQ k).Is h0 va a){vb:Value}{b:Rat}(rb:(rpQ l).Is h0 vb b)(hcd0:k+l<=10000000000):
 Calls Tryz.prog 55 #[va,vb] w0 (Ret w0 h0 (λh r=>(rpQ (k+l+1)).Is h r (a-b))):=by
 obtain⟨M,U,rfl,D,H,aa⟩:=qR ra;obtain⟨J,O,rfl,C,G,Z⟩:=qR rb;exact(zVY hs D H C G oM oM).mono (gE λh r x=>y0 x (by have:=zGK a b;omega))
theorem qW{k l:Nat}{va:Value}{a:Rat}(ra:(rpQ k).Is h0 va a){vb:Value}{b:Rat}(rb:(rpQ l).Is h0 vb b)(hcd0:k+l<=10000000000):
 Calls Tryz.prog 53 #[va,vb] w0 (Ret w0 h0 (λh r=>(rpQ (k+l)).Is h r (a*b))):=by
 obtain⟨M,U,rfl,D,H,aa⟩:=qR ra;obtain⟨J,O,rfl,C,G,Z⟩:=qR rb;exact(zL3 hs D H C G oM oM).mono (gE λh r x=>y0 x (by have:=iN a b;omega))
theorem zFY{k l:Nat}{va:Value}{a:Rat}(ra:(rpQ k).Is h0 va a){vb:Value}{b:Rat}(rb:(rpQ l).Is h0 vb b)(hcd0:k+l<=10000000000):
 Calls Tryz.prog 203 #[va,vb] w0 (Ret w0 h0 (λh r=>(rpQ (k+l+2)).Is h r (zCW a b))):=by
 obtain⟨M,U,rfl,D,H,aa⟩:=qR ra;obtain⟨J,O,rfl,C,G,Z⟩:=qR rb;exact(zV0 hs D H C G oM oM).mono (gE λh r x=>y0 x (by have:=yHD a b;omega))
theorem tG{k l:Nat}{va:Value}{a:Rat}(ra:(rpQ k).Is h0 va a){vb:Value}{b:Rat}(rb:(rpQ l).Is h0 vb b)(hcd0:k+l<=10000000000):
 Calls Tryz.prog 17 #[va,vb] w0 (Ret w0 h0 (λ_ r=>r=vI (xT a b))):=by
 obtain⟨M,U,rfl,D,H,aa⟩:=qR ra;obtain⟨J,O,rfl,C,G,Z⟩:=qR rb;exact zV1 hs D H C G oM oM
theorem uD{k:Nat}{va:Value}{a:Rat}(ra:(rpQ k).Is h0 va a)(hcd0:k<=10000000000):
 Calls Tryz.prog 48 #[va] w0 (Ret w0 h0 (λ_ r=>r=vI (yR a))):=by
 obtain⟨G,H,rfl,C,D,J⟩:=qR ra;exact zCJ hs C D oM
theorem sH{k l:Nat}{va:Value}{a:Rat}(ra:(rpQ k).Is h0 va a){vb:Value}{b:Rat}(rb:(rpQ l).Is h0 vb b)(hcd0:k+l<=10000000000):
 Calls Tryz.prog 73 #[va,vb] w0 (Ret w0 h0 (λ_ r=>r=vB (a=b))):=by
 obtain⟨M,U,rfl,D,H,aa⟩:=qR ra;obtain⟨J,O,rfl,C,G,Z⟩:=qR rb;exact zSW hs D H C G oM oM
theorem zFX{k l:Nat}{va:Value}{a:Rat}(ra:(rpQ k).Is h0 va a){vb:Value}{b:Rat}(rb:(rpQ l).Is h0 vb b)(hcd0:k+l<=10000000000):
 Calls Tryz.prog 81 #[va,vb] w0 (Ret w0 h0 (λh r=>∃u0,r=.tuple #[u0,vI (if b=0 then 3 else 0)]/\(rpQ (k+l)).Is h u0 (if b=0 then 0 else a/b))):=by
 obtain⟨M,U,rfl,D,H,aa⟩:=qR ra;obtain⟨J,O,rfl,C,G,Z⟩:=qR rb;exact(zVZ hs D H C G oM oM).mono (gE λh r x=>by obtain⟨u,e,y⟩:=x;exact⟨u,e,y0 y (by have:=zRF a b;omega)⟩)
theorem oG{k:Nat}{va:Value}{a:Rat}(ra:(rpQ k).Is h0 va a)(hcd0:k<=10000000000):
 Calls Tryz.prog 87 #[va] w0 (Ret w0 h0 (λh r=>(rpQ k).Is h r (-a))):=by
 obtain⟨G,H,rfl,C,D,J⟩:=qR ra;exact(zL2 hs C D oM).mono (gE λh r x=>y0 x (by have:=zGL a;omega))
theorem zPD{k:Nat}{va:Value}{a:Rat}(ra:(rpQ k).Is h0 va a)(hcd0:k<=10000000000):
 Calls Tryz.prog 103 #[va] w0 (Ret w0 h0 (λh r=>(rpQ k).Is h r (iU a))):=by
 obtain⟨G,H,rfl,C,D,J⟩:=qR ra;exact(zV2 hs C D oM).mono (gE λh r x=>y0 x (by have:=yHE a;omega))
theorem kM{n:Int}(hn1:-9223372036854775808<=n)(hn2:n<9223372036854775808):
 Calls Tryz.prog 27 #[vI n] w0 (Ret w0 h0 (λh r=>(rpQ 2).Is h r ((n:Int):Rat))):=by
 exact(zL4 hs hn1 hn2).mono (gE λh r x=>y0 x (by exact sL n hn1 hn2))
theorem zCR{n:Int}(hn1:-9223372036854775808<=n)(hn2:n<9223372036854775808):
 Calls Tryz.prog 116 #[vI n] w0 (Ret w0 h0 (λh r=>(rpQ 2).Is h r ((n:Int):Rat))):=by
 exact(yBL hs hn1 hn2).mono (gE λh r x=>y0 x (by exact sL n hn1 hn2))
theorem iJ{n:Int}(hn1:-9223372036854775808<=n)(hn2:n<9223372036854775808){d:Int}(hd1:-9223372036854775808<=d)(hd2:d<9223372036854775808):
 Calls Tryz.prog 21 #[vI n,vI d] w0 (Ret w0 h0 (λh r=>(rpQ 2).Is h r (jU n d))):=by
 exact(dH hs hn1 hn2 hd1 hd2).mono (gE λh r x=>y0 x (by exact dS hn1 hn2 hd1 hd2))
theorem zGJ{n m:Int}(hm:0<m)(hm2:m<4611686018427387904):
 Calls Tryz.prog 44 #[vI n,vI m] w0 (Ret w0 h0 (λ_ r=>r=vI (iM n m))):=by
 have D:=zE3 n hm;refine cb2 14 (vI n) (vI m) func44 hs ?_;refine go9 ?_;refine gv (zS9 I I oM) I (zC5 (λC=>?_) λC=>?_)
 ·
  refine tZ ?_;refine zC I I ?_;rw[iM,if_pos C]
 refine go9 ?_;refine zC I I ?_;rw[iM,if_neg C]
theorem zPW{vl:Value}{xs:List Int}(hl:Is h0 vl xs):
 Calls Tryz.prog 9 #[vl] w0 (Ret w0 h0 (λ_ r=>r=vB ((↑xs.length:Int)<=500))):=by
 refine cb1 6 vl func9 hs ?_;refine go8 ?_;refine gv (zIK underlying22 I hl) I (go5 ?_);refine zC I I ?_
 rfl
theorem zTY{vl:Value}{xs:List Int}(hl:Is h0 vl xs):
 Calls Tryz.prog 11 #[vl] w0 (fW w0 h0 (λ_ r L=>∃b,r=vP b 0/\L=[.var b 72 [vl,vI ↑0]])):=by
 refine cb1 6 vl func11 hs ?_;refine go8 ?_;refine gv (wD (ps':=[(0,_)]) (vs:=[vl,vI 0]) underlying72 zYG I (zWJ underlying72) e2z (wZ (A:=[]) (B:=[_]) (C:=[_]) (cs:=[_]) (off:=0) (size:=1) I I I I hl.cells jX)) I (zG (wW (cs:=[_,_]) I I) I I I ?_);intro G H D;obtain⟨J,rfl,rfl⟩:=D;refine go4 ?_;refine qF I I ?_;exact⟨_,I,I⟩
end
theorem xW{w0 w:World}{h0 h:Mem}{b k:Nat}{vl:Value}{xs:List Int}(hl:Is h vl xs)(hk:k<=xs.length){n:Int}(hn:0<n)(hn2:n<4611686018427387904){L:List Res}(hs:St w0 h0 (.var b 72 [vl,vI ↑k]::L) h w):
 Calls Tryz.prog 13 #[vP b 0,vI n] w (rB w0 h0 h L (λg r q'=>∃k':Nat,∃z,q'=.var b 72 [vl,vI ↑k']/\k'<=xs.length/\(r=vI z/\0<=z/\z<n))):=by
 have M:=hl.lt63;refine uF (n:=35) (e:=[(0,vP b 0),(1,vI n)]) (vs:=[vP b 0,vI n]) func13 rfl rfl (bL rfl) hs e2z (go7 ?_);refine zK 10 _ [] [(0,.q),(1,.q),(2,.q),(3,.q),(4,.q),(5,.q),(6,.q),(7,.q),(8,.q),(9,.q)] yA nX zou nX (λr H=>H) (go1 ?_);refine wI I (λ_ _=>gO I) I (go3 ?_);refine wI I (λ_ _=>gO I) I (go2 ?_);refine w_q I (λh' L' hh hR=>zIK underlying22 I (hl.mono hh)) I (gc3 (λG=>?_) λG=>?_)
 ·
  refine go7 ?_;refine qF I I ?_;exact⟨_,(List.Sublist.refl _),(MLe.refl _),k,0,I,hk,I,by omega,hn⟩
 refine go5 ?_;refine gv (gO I) I (go3 ?_);refine gv (gO I) I (go1 ?_);refine wN (A:=[]) (r':=.var b 72 [vl,vI ((↑k:Int)+(1:Int))]) (zN (k:=1) (cs:=[_,_]) (vs:=[_]) I I I I yDN (bL I)) I I I (go3 ?_);refine zK 14 _ [] [(0,.q),(1,.q),(2,.q),(3,.q),(4,.q),(5,.q),(6,.q),(7,.q),(8,.q),(9,.q),(10,.q),(11,.q),(12,.c),(13,.q)] yA nX zou nX (λr H=>H) (go1 ?_);refine wI I (λ_ _=>gO I) I (go3 ?_);refine wI I (λ_ _=>gO I) I (go3 ?_);refine w_q I (λh' L' hh hR=>zMD (k) underlying22 sizeOf3 I I (hl.mono hh) oM oM) I (w_q I (λh' L' hh hR=>zO3 isAgg3 I (hl.mono hh) oM) I (go1 ?_));refine w_c I (sC (ev2 I I) call44 (λw hs=>zGJ hs oM oM) λO h1 J D=>?_);have C:=zAA ((xs).getD (k) 0) (q:=n) oM;subst D;refine go4 ?_;refine qF I I ?_;exact⟨_,(List.Sublist.refl _),J,k+1,_,I,by omega,I,C.1,C.2⟩
theorem zNQ{w0 w:World}{h0 h:Mem}{b k:Nat}{vl:Value}{xs:List Int}(hl:Is h vl xs)(hk:k<=xs.length){L:List Res}(hs:St w0 h0 (.var b 72 [vl,vI ↑k]::L) h w):
 Calls Tryz.prog 77 #[vP b 0] w (rB w0 h0 h L (λg r q'=>∃k':Nat,∃q,q'=.var b 72 [vl,vI ↑k']/\k'<=xs.length/\(lq q<=2/\vC g r q))):=by
 refine uF (n:=18) (e:=[(0,vP b 0)]) (vs:=[vP b 0]) func77 rfl rfl (bL rfl) hs ⟨rfl,trivial⟩ (go2 ?_);refine zG (vY (cs:=[vB ((0:Rat).num<0),.slice none 0 0,.slice none 0 0]) xR I (by simp only[zb];rfl)) I I I ?_;intro v2 r2 an;obtain⟨b2,rfl,rfl⟩:=an;refine go5 ?_;refine yD (A:=[_]) (vs:=[_,vI (13)]) call13 e2z (λX w hs=>xW hl zox oM oM hs) I ?_;intro v5 g5 q5 O am;obtain⟨k5,z5,rfl,bf,rfl,bc,be⟩:=am;refine go7 ?_;replace hl:=hl.mono O;refine yD (A:=[_]) (vs:=[_,vI (4)]) call13 e2z (λX w hs=>xW hl zox oM oM hs) I ?_;intro v7 g7 q7 M ak;obtain⟨k7,z7,rfl,aq,rfl,bb,bd⟩:=ak;refine gc3 (λar=>?_) λar=>?_
 ·
  refine go5 ?_;replace hl:=hl.mono M;refine yD (A:=[_]) (vs:=[_,vI (4)]) call13 e2z (λX w hs=>xW hl zox oM oM hs) I ?_;intro ay bg az aj ah;obtain⟨ba,U,rfl,ai,rfl,au,av⟩:=ah;refine gv (zR (p:=1) I I oM oM) I (cL (ev2 I I) call21 (λw hs=>dH hs oM oM oM oM) λax h1 J ae=>?_);have ap:=dS (n:=(z5-(6:Int))) (d:=((1:Int)+U)) oM oM oM oM;obtain⟨aa,ac,rfl,D,H⟩:=ae;refine wN (A:=[]) (r':=.var b2 29 [vB ((jU (z5-(6:Int)) ((1:Int)+U)).num<0),aa,ac]) (zN (k:=0) (cs:=[_,_,_]) (vs:=[_,_,_]) I I I (ocr I (ocu D (ocu H oc0))) yF (bL I)) I I I (go4 ?_);refine jK (λE S=>zV I (wR (cs:=[_,_,_]) mh0 underlying29 I yF I) E S) ?_;exact⟨_,(.cons _ (List.Sublist.refl _)),(((O.trans M).trans aj).trans J),_,_,I,ai,by omega,_,_,I,D,H⟩
 refine go6 ?_;refine cL (ev1 I) call27 (λw hs=>zL4 hs oM oM) λaw h1 J ad=>?_;obtain⟨Z,ab,rfl,C,G⟩:=ad;have ao:=sL (z5-(6:Int)) oM oM;refine wN (A:=[]) (r':=.var b2 29 [vB (((((z5-(6:Int)):Int):Rat)).num<0),Z,ab]) (zN (k:=0) (cs:=[_,_,_]) (vs:=[_,_,_]) I I I (ocr I (ocu C (ocu G oc0))) yF (bL I)) I I I (go3 ?_);refine jK (λE S=>zV I (wR (cs:=[_,_,_]) mh0 underlying29 I yF I) E S) ?_;exact⟨_,(.cons _ (List.Sublist.refl _)),((O.trans M).trans J),_,_,I,aq,by omega,_,_,I,C,G⟩
theorem zTZ{w0:World}{h0:Mem}(hs:MLe h0 (mem w0)){n:Int}(hn1:-9223372036854775808<=n)(hn2:n<9223372036854775808):
 Calls Tryz.prog 59 #[vI n] w0 (Ret w0 h0 (λg r=>lq (zQ0 n)<=2/\vC g r (zQ0 n))):=by
 refine cb1 14 (vI n) func59 hs ?_;refine go2 ?_;refine zG (vY (cs:=[vB ((0:Rat).num<0),.slice none 0 0,.slice none 0 0]) xR I (by simp only[zb];rfl)) I I I ?_;intro v2 r2 Z;obtain⟨b2,rfl,rfl⟩:=Z;refine go5 ?_;refine gv (zTA (q:=17) I I oM oM oM) I (cL (vs:=[_,vI (12)]) e2z call44 (λw hs=>zGJ hs oM oM) λv6 h1 ai U=>?_);have ab:=zAA (n.tdiv (17:Int)) (q:=(12:Int)) oM;subst U;refine gv (zR (p:=1) I I oM oM) I (go8 ?_);refine cL (ev2 I I) call44 (λw hs=>zGJ hs oM oM) λad h2 ah O=>?_;have aa:=zAA n (q:=(((1:Int)+(iM (n.tdiv (17:Int)) (12:Int)))+(1:Int))) oM;subst O;refine go1 ?_;refine cL (ev2 I I) call21 (λw hs=>dH hs oM oM oM oM) λac h3 ae M=>?_;have G:=dS (n:=(iM n (((1:Int)+(iM (n.tdiv (17:Int)) (12:Int)))+(1:Int)))) (d:=((1:Int)+(iM (n.tdiv (17:Int)) (12:Int)))) oM oM oM oM;obtain⟨H,J,rfl,C,D⟩:=M;refine wN (A:=[]) (r':=.var b2 29 [vB ((jU (iM n (((1:Int)+(iM (n.tdiv (17:Int)) (12:Int)))+(1:Int))) ((1:Int)+(iM (n.tdiv (17:Int)) (12:Int)))).num<0),H,J]) (zN (k:=0) (cs:=[_,_,_]) (vs:=[_,_,_]) I I I (ocr I (ocu C (ocu D oc0))) yF (bL I)) I I I (go3 ?_);refine yV (λE S=>zV I (wR (cs:=[_,_,_]) mh0 underlying29 I yF I) E S) ?_;exact⟨G,⟨_,_,I,C,D⟩⟩
theorem nN{w0 w:World}{h0 h:Mem}{b k:Nat}{vl:Value}{xs:List Int}(hl:Is h vl xs)(hk:k<=xs.length){L:List Res}(hs:St w0 h0 (.var b 72 [vl,vI ↑k]::L) h w):Calls Tryz.prog 77 #[vP b 0] w (rB w0 h0 h L (λg r q'=>∃k':Nat,∃q:Rat,q'=.var b 72 [vl,vI ↑k']/\k'<=xs.length/\(rpQ 2).Is g r q)):=
 (zNQ hl hk hs).mono (zON λg r q' x=>by
  obtain⟨k',q,e,h1,h2,h3⟩:=x;exact⟨k',q,e,h1,y0 h3 h2⟩)
section
variable{w0:World}{h0:Mem}(hs:MLe h0 (mem w0))
include hs
theorem zWK{qa:Rat}{vna vda:Value}(hna:Us .u32 h0 vna (zB qa.num.natAbs))(hda:Us .u32 h0 vda (zB (wU qa.den))):
 Calls Tryz.prog 146 #[.agg #[vB (qa.num<0),vna,vda]] w0 (Ret w0 h0 (λ_ r=>r=.tuple #[vI (smZ qa),vB (smB qa)])):=by
 refine cb1 33 (.agg #[vB (qa.num<0),vna,vda]) func146 hs ?_;refine go2 ?_;refine zG (wW (cs:=[_,_,_]) I I) I I I ?_;intro v1 r1 U;obtain⟨b1,rfl,rfl⟩:=U;refine qM ?_;refine gU 6 14 (vB (((0:Int)<(↑(zB (wU qa.den)).length:Int))\/((1:Int)<(↑(zB qa.num.natAbs).length:Int)))) ?_ ?_
 ·
  refine zY ((0:Int)<(↑(zB (wU qa.den)).length:Int)) (λM=>?_) (λM=>?_)
  ·
   refine gT M I (go6 ?_);refine gqU ?_;exact congrArg some (vD M)
  refine gF M I (uG ?_);refine gqU ?_;exact congrArg some (vG M)
 refine gc2 (λC=>?_) λC=>?_
 ·
  refine go8 ?_;refine wK I I I ?_;obtain⟨e1,Z⟩:=yJ4 C;rw[e1,yH Z]
 refine zC4 (λG=>?_) λG=>?_
 ·
  refine go8 ?_;refine wK I I I ?_;obtain⟨e1,Z⟩:=yJ3 C G;rw[e1,xM Z]
 obtain⟨O,ab,H⟩:=yAY C G;have aa:=zVF C;refine go6 ?_;refine gv (zX (q:=0) (0) underlying27 sizeOf124 I I hna I oM) I (go1 ?_);rw[O];refine gv (zFT (k:=.u32) underlying124 underlying2 I oM) I (zC5 (λD=>?_) λD=>?_)
 ·
  have J:=D;refine go3 ?_;refine gv (aY I oM oM) I (go8 ?_);refine wK I I I ?_;exact zH8 oM (Iff.trans oM H.symm)
 have J:=D;refine uV ?_;refine wK I I I ?_;exact zH8 oM (Iff.trans oM H.symm)
theorem tH{k:Nat}{va:Value}{a:Rat}(ra:(rpQ k).Is h0 va a):Calls Tryz.prog 146 #[va] w0 (Ret w0 h0 (λ_ r=>r=.tuple #[vI (smZ a),vB (smB a)])):=by
 obtain⟨G,H,rfl,C,D,J⟩:=qR ra;exact zWK hs C D
theorem zIU{n:Int}(hn1:-9223372036854775808<=n)(hn2:n<9223372036854775808):
 Calls Tryz.prog 148 #[vI n] w0 (Ret w0 h0 (λ_ r=>r=vI (zHK n))):=by
 refine cb1 9 (vI n) func148 hs ?_;refine tZ ?_;refine cnd (λC=>?_) λC=>?_
 ·
  refine go8 ?_;refine zC I I ?_;unfold zHK;rw[if_pos C]
 refine gc7 (λD=>?_) λD=>?_
 ·
  refine go8 ?_;refine zC I I ?_;unfold zHK;rw[if_neg C,if_pos D]
 refine go9 ?_;refine zC I I ?_;unfold zHK;rw[if_neg C,if_neg D]
theorem zCS{k:Nat}{vp:Value}{p:Tq}(rp:(tPt k).Is h0 vp p){i:Nat}{j:Nat}(hcd0:i<3)(hcd1:j<3):
 Calls Tryz.prog 213 #[vp,vI ↑i,vI ↑j] w0 (Ret w0 h0 (λh r=>r=.tuple #[vI (smZ (p.at i)),vI (smZ (p.at j)),vB (smB (p.at i)/\smB (p.at j))])):=by
 refine cb3 33 vp (vI ↑i) (vI ↑j) func213 hs ?_;refine go2 ?_;refine nB rp λG ae C=>(go8 ?_);refine gv ((yG (sz:=3) i underlying31 sizeOf29 I I I oM).cv (show _=vP G ((i*3+0)) from congrArg (vP G) oM)) I (lX (xB yE (Pc.ta pH i oM) C) λab O=>(cL (ev1 I) call146 (λw hs=>tH hs O) λaa h1 ad M=>?_));obtain rfl:=M;refine uG ?_;refine gv ((yG (sz:=3) j underlying31 sizeOf29 I I I oM).cv (show _=vP G ((j*3+0)) from congrArg (vP G) oM)) I (lX (xB yE (Pc.ta pH j oM) C) λZ J=>(cL (ev1 I) call146 (λw hs=>tH hs J) λU h2 ac H=>?_));obtain rfl:=H;refine uV ?_;refine gU 3 32 (vB ((smB (p.at i))/\(smB (p.at j)))) ?_ ?_
 ·
  refine zY (smB (p.at i)) (λD=>?_) (λD=>?_)
  ·
   refine gT D I (go4 ?_);refine gqU ?_;exact congrArg some (xD D)
  refine gF D I (go3 ?_);refine gqU ?_;exact congrArg some (xE D)
 refine go6 ?_;refine uN I I I I ?_
 rfl
theorem zDV{k:Nat}{va:Value}{a:Tq}(ra:(tPt k).Is h0 va a){vb:Value}{b:Tq}(rb:(tPt k).Is h0 vb b){vc:Value}{c:Tq}(rc:(tPt k).Is h0 vc c){i:Nat}{j:Nat}(hcd0:i<3)(hcd1:j<3)(hcd2:k<=1000000000):
 Calls Tryz.prog 206 #[va,vb,vc,vI ↑i,vI ↑j] w0 (Ret w0 h0 (λ_ r=>r=vI (orZ (pr a i j) (pr b i j) (pr c i j)))):=by
 refine jO (n:=100) (e:=[(0,va),(1,vb),(2,vc),(3,vI ↑i),(4,vI ↑j)]) (vs:=[va,vb,vc,vI ↑i,vI ↑j]) func206 rfl rfl (bL rfl) hs e5 (go2 ?_);refine nB ra λM df C=>(nB rb λb6 de U=>(nB rc λb7 dd O=>(go5 ?_)));refine lX (xB zM pH C) λcj bj=>(go2 ?_);refine cL (ev3 I I I) call213 (λw hs=>zCS (i:=i) (j:=j) hs bj oM oM) λci h1 db bi=>?_;obtain rfl:=bi;refine qM ?_;refine lX (xB zM pH U) λch bh=>(go2 ?_);refine cL (ev3 I I I) call213 (λw hs=>zCS (i:=i) (j:=j) hs bh oM oM) λcg h2 da bg=>?_;obtain rfl:=bg;refine qM ?_;refine lX (xB zM pH O) λcf bf=>(go2 ?_);refine cL (ev3 I I I) call213 (λw hs=>zCS (i:=i) (j:=j) hs bf oM oM) λce h3 cz be=>?_;obtain rfl:=be;refine sO ?_;refine gU 3 48 (vB ((smB (a.at i)/\smB (a.at j))/\(smB (b.at i)/\smB (b.at j)))) ?_ ?_
 ·
  refine zY (smB (a.at i)/\smB (a.at j)) (λD=>?_) (λD=>?_)
  ·
   refine gT D I (go4 ?_);refine gqU ?_;exact congrArg some (xD D)
  refine gF D I (go3 ?_);refine gqU ?_;exact congrArg some (xE D)
 refine gU 3 51 (vB (((smB (a.at i)/\smB (a.at j))/\(smB (b.at i)/\smB (b.at j)))/\(smB (c.at i)/\smB (c.at j)))) ?_ ?_
 ·
  refine zY ((smB (a.at i)/\smB (a.at j))/\(smB (b.at i)/\smB (b.at j))) (λD=>?_) (λD=>?_)
  ·
   refine gT D I (go4 ?_);refine gqU ?_;exact congrArg some (xD D)
  refine gF D I (go3 ?_);refine gqU ?_;exact congrArg some (xE D)
 refine gc2 (λG=>?_) λG=>?_
 ·
  obtain⟨⟨⟨ao,an⟩,am,ak⟩,J,H⟩:=G;have cp:=(sY ao).2;have co:=(sY an).2;have cn:=(sY am).2;have cm:=(sY ak).2;have cl:=(sY J).2;have ck:=(sY H).2;have kp:=zWE (u:=smZ (b.at i)-smZ (a.at i)) (v:=smZ (c.at j)-smZ (a.at j)) oM oM oM oM;have kq:=zWE (u:=smZ (b.at j)-smZ (a.at j)) (v:=smZ (c.at i)-smZ (a.at i)) oM oM oM oM;refine go8 ?_;refine gv (gP I I oM oM) I (go6 ?_);refine gv (gP I I oM oM) I (go1 ?_);refine cL (ev1 I) call148 (λw hs=>zIU hs oM oM) λaq h4 bk bd=>?_;obtain rfl:aq=vI (zHK ((((smZ (b.at i))-(smZ (a.at i)))*((smZ (c.at j))-(smZ (a.at j))))-(((smZ (b.at j))-(smZ (a.at j)))*((smZ (c.at i))-(smZ (a.at i)))))):=bd;refine go5 ?_;refine zC I I ?_;exact congrArg vI (zWV (a:=pr a i j) (b:=pr b i j) (c:=pr c i j) ⟨ao,an⟩ ⟨am,ak⟩ ⟨J,H⟩)
 refine go3 ?_;refine zK 16 _ [(15,(20,29,[.bool false,.slice none 0 0,.slice none 0 0]))] [(0,.q),(1,.q),(2,.q),(3,.q),(4,.q),(5,.q),(7,.q),(8,.q),(9,.q),(10,.q),(11,.q),(12,.q),(6,.c),(13,.c),(14,.c),(15,.a),(16,.t)] yA (jM.cons I I (uR xR I I) jM.nil) (wJ zou) (uU I I kU) (λr hr=>hr) (go1 ?_);refine wI I (λ_ _=>(yG (sz:=3) i underlying31 sizeOf29 I I I oM).cv (show _=vP b6 ((i*3+0)) from congrArg (vP b6) oM)) I (wX I (xB yE (Pc.ta pH i oM) U) λcd bc=>(go1 ?_));refine wI I (λ_ _=>(yG (sz:=3) i underlying31 sizeOf29 I I I oM).cv (show _=vP M ((i*3+0)) from congrArg (vP M) oM)) I (wX I (xB yE (Pc.ta pH i oM) C) λcc bb=>(go1 ?_));refine wI I (λ_ _=>(yG (sz:=3) j underlying31 sizeOf29 I I I oM).cv (show _=vP b7 ((j*3+0)) from congrArg (vP b7) oM)) I (wX I (xB yE (Pc.ta pH j oM) O) λca ba=>(go1 ?_));refine wI I (λ_ _=>(yG (sz:=3) j underlying31 sizeOf29 I I I oM).cv (show _=vP M ((j*3+0)) from congrArg (vP M) oM)) I (wX I (xB yE (Pc.ta pH j oM) C) λbz az=>?_);refine w_c I (sC (ev2 I I) call121 (λw hs=>fS hs bc bb oM) λcb h4 bk ae=>?_);replace ae:=Rp.Is.le ae (Le.q (l:=2*k+1) oM);refine w_c I (sC (ev2 I I) call121 (λw hs=>fS hs ba.up az.up oM) λbx h5 cy ad=>?_);replace ad:=Rp.Is.le ad (Le.q (l:=2*k+1) oM);refine w_c I (sC (ev2 I I) call153 (λw hs=>kK hs ae.up ad oM) λbw h6 cw ac=>?_);replace ac:=Rp.Is.le ac (Le.q (l:=4*k+2) oM);refine w_a I I (λdh=>?_);have aj:(rpQ 1).R h6 [.bool false,.slice none 0 0,.slice none 0 0] (0:Rat):=(yI dC);have ah:=(Le.q (l:=4*k+2) oM).R aj;refine yK (A:=[]) I (uB sizeOf29 pH ah ac) λbn ai=>(go3 ?_);refine zK 18 _ [] [(0,.q),(1,.q),(2,.q),(3,.q),(4,.q),(5,.q),(6,.q),(8,.q),(9,.q),(10,.q),(11,.q),(12,.q),(13,.q),(7,.c),(14,.c),(15,.c),(16,.c),(17,.q)] yA nX (wJ zou) nX (λr hr=>hr) (wX I (xB yE pH ai) λbv ay=>(go1 ?_));refine wI I (λ_ _=>(yG (sz:=3) j underlying31 sizeOf29 I I I oM).cv (show _=vP b6 ((j*3+0)) from congrArg (vP b6) oM)) I (wX I (xB yE (Pc.ta pH j oM) U) λbu ax=>(go1 ?_));refine wI I (λ_ _=>(yG (sz:=3) j underlying31 sizeOf29 I I I oM).cv (show _=vP M ((j*3+0)) from congrArg (vP M) oM)) I (wX I (xB yE (Pc.ta pH j oM) C) λbt aw=>(go1 ?_));refine wI I (λ_ _=>(yG (sz:=3) i underlying31 sizeOf29 I I I oM).cv (show _=vP b7 ((i*3+0)) from congrArg (vP b7) oM)) I (wX I (xB yE (Pc.ta pH i oM) O) λbr av=>(go1 ?_));refine wI I (λ_ _=>(yG (sz:=3) i underlying31 sizeOf29 I I I oM).cv (show _=vP M ((i*3+0)) from congrArg (vP M) oM)) I (wX I (xB yE (Pc.ta pH i oM) C) λbq au=>?_);refine w_c I (sC (ev2 I I) call121 (λw hs=>fS hs ax aw oM) λbs h7 cu ab=>?_);replace ab:=Rp.Is.le ab (Le.q (l:=2*k+1) oM);refine w_c I (sC (ev2 I I) call121 (λw hs=>fS hs av.up au.up oM) λbp h8 ct aa=>?_);replace aa:=Rp.Is.le aa (Le.q (l:=2*k+1) oM);refine w_c I (sC (ev2 I I) call153 (λw hs=>kK hs ab.up aa oM) λbo h9 cq Z=>?_);replace Z:=Rp.Is.le Z (Le.q (l:=4*k+2) oM);refine w_c I (sC (ev2 I I) call182 (λw hs=>aP hs ay.up Z oM) λap dc bm ar=>?_);obtain rfl:ap=vI (xT (((b.at i)-(a.at i))*((c.at j)-(a.at j))) (((b.at j)-(a.at j))*((c.at i)-(a.at i)))):=ar;have bl:=jA (((b.at i)-(a.at i))*((c.at j)-(a.at j))) (((b.at j)-(a.at j))*((c.at i)-(a.at i)));refine go4 ?_;refine zC I I ?_;exact congrArg vI (yGW (pr a i j) (pr b i j) (pr c i j))
theorem zBI{k:Nat}{va:Value}{a:Rat}(ra:(rpQ k).Is h0 va a){vb:Value}{b:Rat}(rb:(rpQ k).Is h0 vb b){vx:Value}{x:Rat}(rx:(rpQ k).Is h0 vx x)(hcd0:k<=1000000000):
 Calls Tryz.prog 212 #[va,vb,vx] w0 (Ret w0 h0 (λ_ r=>r=vB (jF a b x))):=by
 refine cb3 29 va vb vx func212 hs ?_;refine go2 ?_;refine nB ra λb3 ao M=>(nB rb λb4 an J=>(nB rx λb5 am D=>(go4 ?_)));refine zK 8 _ [] [(0,.q),(1,.q),(3,.q),(4,.q),(2,.c),(5,.c),(6,.q),(7,.q)] yA nX zou nX (λr hr=>hr) (wX I (xB yE pH M) λv9 r9=>(wX I (xB yE pH D) λai ab=>(wX I (xB yE pH D) λah Z=>(wX I (xB yE pH J) λae U=>?_))));refine w_c I (sC (ev2 I I) call182 (λw hs=>aP hs r9 ab oM) λH h1 ak aa=>?_);obtain rfl:H=vI (xT a x):=aa;have ad:=jA a x;refine w_c I (sC (ev2 I I) call182 (λw hs=>aP hs Z.up U.up oM) λG h2 aj O=>?_);obtain rfl:G=vI (xT x b):=O;have ac:=jA x b;refine go8 ?_;refine gU 4 20 (vB (((xT a x)<=(0:Int))/\((xT x b)<=(0:Int)))) ?_ ?_
 ·
  refine zY ((xT a x)<=(0:Int)) (λC=>?_) (λC=>?_)
  ·
   refine gT C I (go6 ?_);refine gqU ?_;exact congrArg some (xD C)
  refine gF C I (go4 ?_);refine gqU ?_;exact congrArg some (xE C)
 refine gU 8 28 (vB ((((xT a x)<=(0:Int))/\((xT x b)<=(0:Int)))\/(((0:Int)<=(xT a x))/\((0:Int)<=(xT x b))))) ?_ ?_
 ·
  refine zY (((xT a x)<=(0:Int))/\((xT x b)<=(0:Int))) (λC=>?_) (λC=>?_)
  ·
   refine gT C I (go8 ?_);refine gqU ?_;exact congrArg some (vD C)
  refine gF C I (go4 ?_);refine gU 4 27 (vB (((0:Int)<=(xT a x))/\((0:Int)<=(xT x b)))) ?_ ?_
  ·
   refine zY ((0:Int)<=(xT a x)) (λC=>?_) (λC=>?_)
   ·
    refine go1 ?_;refine gT C I (go7 ?_);refine gqU ?_;exact congrArg some (xD C)
   refine go1 ?_;refine gF C I (go5 ?_);refine gqU ?_;exact congrArg some (xE C)
  refine go2 ?_;refine gqU ?_;exact congrArg some (vG C)
 refine go4 ?_;refine zC I I ?_;exact kF zZS
theorem yBY{k:Nat}{va:Value}{a:Tq}(ra:(tPt k).Is h0 va a){vb:Value}{b:Tq}(rb:(tPt k).Is h0 vb b){vp:Value}{p:Tq}(rp:(tPt k).Is h0 vp p){i:Nat}{j:Nat}(hcd0:i<3)(hcd1:j<3)(hcd2:k<=1000000000):
 Calls Tryz.prog 205 #[va,vb,vp,vI ↑i,vI ↑j] w0 (Ret w0 h0 (λ_ r=>r=vB (onS (pr a i j) (pr b i j) (pr p i j)))):=by
 refine jO (n:=42) (e:=[(0,va),(1,vb),(2,vp),(3,vI ↑i),(4,vI ↑j)]) (vs:=[va,vb,vp,vI ↑i,vI ↑j]) func205 rfl rfl (bL rfl) hs e5 (go2 ?_);refine nB ra λU bi J=>(nB rb λO bh H=>(nB rp λM bg G=>(go4 ?_)));refine zK 32 _ [] [(0,.q),(1,.q),(2,.q),(3,.q),(4,.q),(5,.q),(6,.q),(7,.q),(8,.q),(9,.c),(10,.q),(11,.q),(12,.q),(13,.q),(14,.q),(15,.q),(16,.q),(17,.q),(18,.q),(19,.q),(20,.c),(21,.q),(22,.q),(23,.q),(24,.q),(25,.q),(26,.q),(27,.q),(28,.c),(29,.q),(30,.q),(31,.q)] yA nX (wJ zou) nX (λr hr=>hr) (go1 ?_);refine wI I (λ_ _=>(yG (sz:=3) i underlying31 sizeOf29 I I I oM).cv (show _=vP U ((i*3+0)) from congrArg (vP U) oM)) I (wX I (xB yE (Pc.ta pH i oM) J) λbc aq=>(go1 ?_));refine wI I (λ_ _=>(yG (sz:=3) i underlying31 sizeOf29 I I I oM).cv (show _=vP O ((i*3+0)) from congrArg (vP O) oM)) I (wX I (xB yE (Pc.ta pH i oM) H) λbb ap=>(go1 ?_));refine wI I (λ_ _=>(yG (sz:=3) i underlying31 sizeOf29 I I I oM).cv (show _=vP M ((i*3+0)) from congrArg (vP M) oM)) I (wX I (xB yE (Pc.ta pH i oM) G) λba ao=>?_);refine w_c I (sC (ev3 I I I) call212 (λw hs=>zBI hs aq ap ao oM) λab h1 bf an=>?_);obtain rfl:ab=vB (jF (a.at i) (b.at i) (p.at i)):=an;refine go1 ?_;refine jH (jF (a.at i) (b.at i) (p.at i)) (λD=>?_) (λD=>?_)
 ·
  rw[xM D];refine yS I I I (λh' L' hh hR=>yZ I) I (yS I I I (λh' L' hh hR=>(yG (sz:=3) j underlying31 sizeOf29 I I I oM).cv (show _=vP U ((j*3+0)) from congrArg (vP U) oM)) I (oX I (xB yE (Pc.ta pH j oM) J) λaz am=>(yS I I I (λh' L' hh hR=>yZ I) I (yS I I I (λh' L' hh hR=>(yG (sz:=3) j underlying31 sizeOf29 I I I oM).cv (show _=vP O ((j*3+0)) from congrArg (vP O) oM)) I (oX I (xB yE (Pc.ta pH j oM) H) λay ak=>(yS I I I (λh' L' hh hR=>yZ I) I (yS I I I (λh' L' hh hR=>(yG (sz:=3) j underlying31 sizeOf29 I I I oM).cv (show _=vP M ((j*3+0)) from congrArg (vP M) oM)) I (oX I (xB yE (Pc.ta pH j oM) G) λax aj=>?_))))))));refine w_c I (zA6 I I (sC (ev3 I I I) call212 (λw hs=>zBI hs am ak aj oM) λaa h2 be ai=>?_));obtain rfl:aa=vB (jF (a.at j) (b.at j) (p.at j)):=ai;refine go2 ?_;refine jH (jF (a.at j) (b.at j) (p.at j)) (λC=>?_) (λC=>?_)
  ·
   rw[xM C];refine oX I (xB zM pH J) λaw ah=>(oX I (xB zM pH H) λav ae=>(oX I (xB zM pH G) λau ad=>(yS I I I (λh' L' hh hR=>yZ I) I (yS I I I (λh' L' hh hR=>yZ I) I ?_))));refine w_c I (zA6 I I (sC (vs:=[_,_,_,_,_]) e5 call206 (λw hs=>zDV (i:=i) (j:=j) hs ah ae ad oM oM oM) λZ h3 bd ac=>?_));obtain rfl:Z=vI (orZ (pr a i j) (pr b i j) (pr p i j)):=ac;have ar:=tP (pr a i j) (pr b i j) (pr p i j);refine go6 ?_;refine zC I I ?_
   first|exact kF (by unfold onS;simp only[pr,<-fQ] at *;grind)|exact(xM (by unfold onS;simp only[pr,<-fQ] at *;grind)).symm|exact(yH (by unfold onS;simp only[pr,<-fQ] at *;grind)).symm
  rw[yH C];refine go5 ?_;refine w_c I (lW I I I I (go6 ?_));refine zC I I ?_
  first|exact kF (by unfold onS;simp only[pr,<-fQ] at *;grind)|exact(xM (by unfold onS;simp only[pr,<-fQ] at *;grind)).symm|exact(yH (by unfold onS;simp only[pr,<-fQ] at *;grind)).symm
 rw[yH D];refine go9 ?_;refine w_c I (lW I I I I (go7 ?_));refine w_c I (lW I I I I (go6 ?_));refine zC I I ?_
 first|exact kF (by unfold onS;simp only[pr,<-fQ] at *;grind)|exact(xM (by unfold onS;simp only[pr,<-fQ] at *;grind)).symm|exact(yH (by unfold onS;simp only[pr,<-fQ] at *;grind)).symm
theorem zMQ{k:Nat}{vl:Value}{l:(List Tq)}(rl:(tLs k).Is h0 vl l){vp:Value}{p:Tq}(rp:(tPt k).Is h0 vp p){i:Nat}{j:Nat}(hcd0:i<3)(hcd1:j<3)(hcd2:k<=100000)(hcd3:l.length<=1000):
 Calls Tryz.prog 183 #[vl,vp,vI ↑i,vI ↑j] w0 (Ret w0 h0 (λ_ r=>r=vI (fG l (pr p i j) i j))):=by
 refine jO (n:=78) (e:=[(0,vl),(1,vp),(2,vI ↑i),(3,vI ↑j)]) (vs:=[vl,vp,vI ↑i,vI ↑j]) func183 rfl rfl (bL rfl) hs e4z (go2 ?_);refine nB rp λb5 bo Z=>(nR ?_);refine gcL (ι:=Nat×Mem) (λ(m,ma)=>(MLe h0 ma/\(m<=l.length/\∀q,q<m->¬onS (vV l i j q) (vS l i j q) (pr p i j)),[(0,vl),(2,vI ↑i),(3,vI ↑j),(5,vP b5 0),(9,vB (kC l (pr p i j) i j m)),(16,vl),(17,vI (↑(l).length:Int)),(18,vI ↑m)],[.var b5 31 bo],ma,l.length-m)) (0,h0) ?_ ?_ (he:=⟨I,I,I,I,congrArg some (yH id).symm,I,I,I,trivial⟩)
 · exact⟨mle,by omega,λq hq=>by omega⟩
 rintro⟨m,ma⟩ ⟨bp,ah,M⟩
 refine yW ?_;refine gc6 (λai=>?_) λai=>?_
 ·
  refine go7 ?_;refine lX (xI zT m underlying35 zM rl) λch bj=>(lX (xA zM bj) λcg bi=>(nA (ρ:=(tPt 1)) (X:=zT) yM (xO (yI dC)) λak bs ae=>(go1 ?_)));have ac:=(Le.t (Le.q (l:=k+1) oM)).R ae;refine zW (A:=[]) (uB sizeOf31 pH ac (bi.le (Le.t (Le.q (l:=k+1) oM)))) λbq J=>(go9 ?_);refine gv (wC I I oM oM) I (lX (xI zT ((m+1)%l.length) underlying35 zM rl (hi:=by exact Nat.mod_lt _ oM)) λcf bh=>(lX (xA zM bh) λce bg=>(nA (ρ:=(tPt 1)) (X:=zT) yM (xO (yI dC)) λaj br ad=>?_)));have ab:=(Le.t (Le.q (l:=k+1) oM)).R ad;refine zW (A:=[]) (uB sizeOf31 pH ab (bg.le (Le.t (Le.q (l:=k+1) oM)))) λbn H=>(go5 ?_);refine lX (xB zM pH J) λcd bf=>(lX (xB zM pH H) λcc be=>(lX (xB zM pH Z) λcb bd=>(go2 ?_)));refine cL (vs:=[_,_,_,_,_]) e5 call205 (λw hs=>yBY (i:=i) (j:=j) hs bf be (bd.le (Le.t (Le.q (l:=k+1) oM))) oM oM oM) λap h1 cl bc=>?_;obtain rfl:ap=vB (onS (pr (l.getD m zT) i j) (pr (l.getD ((m+1)%l.length) zT) i j) (pr p i j)):=bc;refine gc2 (λG=>?_) λG=>?_
  ·
   refine uV ?_;refine zC I I ?_;exact congrArg vI (zYC oM G)
  refine go3 ?_;refine zK 18 _ [] [(0,.q),(1,.q),(2,.q),(3,.q),(4,.q),(5,.q),(8,.q),(9,.q),(10,.q),(11,.q),(12,.q),(13,.q),(6,.c),(7,.q),(14,.c),(15,.q),(16,.q),(17,.q)] yA nX (wJ zou) nX (λr hr=>hr) (go1 ?_);refine wI I (λ_ _=>(yG (sz:=3) j underlying31 sizeOf29 I I I oM).cv (show _=vP ak ((j*3+0)) from congrArg (vP ak) oM)) I (wX I (xB yE (Pc.ta pH j oM) J) λca bb=>(go1 ?_));refine wI I (λ_ _=>(yG (sz:=3) j underlying31 sizeOf29 I I I oM).cv (show _=vP b5 ((j*3+0)) from congrArg (vP b5) oM)) I (wX I (xB yE (Pc.ta pH j oM) Z) λbz ba=>(go1 ?_));refine wI I (λ_ _=>(yG (sz:=3) j underlying31 sizeOf29 I I I oM).cv (show _=vP aj ((j*3+0)) from congrArg (vP aj) oM)) I (wX I (xB yE (Pc.ta pH j oM) H) λbx ay=>(go1 ?_));refine wI I (λ_ _=>(yG (sz:=3) j underlying31 sizeOf29 I I I oM).cv (show _=vP b5 ((j*3+0)) from congrArg (vP b5) oM)) I (wX I (xB yE (Pc.ta pH j oM) Z) λbw ax=>?_);refine w_c I (sC (ev2 I I) call182 (λw hs=>aP hs bb ba oM) λao h2 ck az=>?_);obtain rfl:ao=vI (xT ((l.getD m zT).at j) (p.at j)):=az;have bm:=jA ((l.getD m zT).at j) (p.at j);refine go1 ?_;refine w_c I (sC (ev2 I I) call182 (λw hs=>aP hs ay.up ax.up oM) λan h3 cj aw=>?_);obtain rfl:an=vI (xT ((l.getD ((m+1)%l.length) zT).at j) (p.at j)):=aw;have bl:=jA ((l.getD ((m+1)%l.length) zT).at j) (p.at j);refine uG ?_;refine gv (aZ underlying4 I I) I (gc2 (λU=>?_) λU=>?_)
  ·
   have aa:(vV l i j m).2<=(pr p i j).2↔(vS l i j m).2<=(pr p i j).2:=by have h:=U;rw[kA,kA] at h;exact h
   refine go8 ?_;refine yO (A:=[]) (yO (A:=[]) ?_);refine gqL ((m+1),h3) ?_ ?_ (he:=⟨I,I,I,I,congrArg (λz=>some (vB z)) (zW4 aa),I,I,I,trivial⟩)
   · exact⟨mle,by omega,zBD M G⟩
   omega
  have aa:¬((vV l i j m).2<=(pr p i j).2↔(vS l i j m).2<=(pr p i j).2):=by have h:=U;rw[kA,kA] at h;exact h
  refine go4 ?_;refine lX (xB zM pH J) λbv av=>(lX (xB zM pH H) λbu au=>(lX (xB zM pH Z) λbt ar=>(go2 ?_)));refine cL (vs:=[_,_,_,_,_]) e5 call206 (λw hs=>zDV (i:=i) (j:=j) hs av au (ar.le (Le.t (Le.q (l:=k+1) oM))) oM oM oM) λam h4 ci aq=>?_;obtain rfl:am=vI (orZ (pr (l.getD m zT) i j) (pr (l.getD ((m+1)%l.length) zT) i j) (pr p i j)):=aq;have bk:=tP (pr (l.getD m zT) i j) (pr (l.getD ((m+1)%l.length) zT) i j) (pr p i j);refine go6 ?_;refine gU 4 66 (vB (((xT ((l.getD m zT).at j) (p.at j))<=(0:Int))/\((0:Int)<(orZ (pr (l.getD m zT) i j) (pr (l.getD ((m+1)%l.length) zT) i j) (pr p i j))))) ?_ ?_
  ·
   refine zY ((xT ((l.getD m zT).at j) (p.at j))<=(0:Int)) (λC=>?_) (λC=>?_)
   ·
    refine gT C I (go6 ?_);refine gqU ?_;exact congrArg some (xD C)
   refine gF C I (go4 ?_);refine gqU ?_;exact congrArg some (xE C)
  refine gU 7 73 (vB ((((xT ((l.getD m zT).at j) (p.at j))<=(0:Int))/\((0:Int)<(orZ (pr (l.getD m zT) i j) (pr (l.getD ((m+1)%l.length) zT) i j) (pr p i j))))\/(((xT ((l.getD ((m+1)%l.length) zT).at j) (p.at j))<=(0:Int))/\((orZ (pr (l.getD m zT) i j) (pr (l.getD ((m+1)%l.length) zT) i j) (pr p i j))<(0:Int))))) ?_ ?_
  ·
   refine zY (((xT ((l.getD m zT).at j) (p.at j))<=(0:Int))/\((0:Int)<(orZ (pr (l.getD m zT) i j) (pr (l.getD ((m+1)%l.length) zT) i j) (pr p i j)))) (λC=>?_) (λC=>?_)
   ·
    refine gT C I (go7 ?_);refine gqU ?_;exact congrArg some (vD C)
   refine gF C I (go2 ?_);refine gU 4 72 (vB (((xT ((l.getD ((m+1)%l.length) zT).at j) (p.at j))<=(0:Int))/\((orZ (pr (l.getD m zT) i j) (pr (l.getD ((m+1)%l.length) zT) i j) (pr p i j))<(0:Int)))) ?_ ?_
   ·
    refine zY ((xT ((l.getD ((m+1)%l.length) zT).at j) (p.at j))<=(0:Int)) (λC=>?_) (λC=>?_)
    ·
     refine go1 ?_;refine gT C I (go7 ?_);refine gqU ?_;exact congrArg some (xD C)
    refine go1 ?_;refine gF C I (go5 ?_);refine gqU ?_;exact congrArg some (xE C)
   refine go2 ?_;refine gqU ?_;exact congrArg some (vG C)
  refine gc2 (λD=>?_) λD=>?_
  ·
   rw[kA,kA] at D;refine qM ?_;refine yO (A:=[]) (yO (A:=[]) ?_);refine gqL ((m+1),h4) ?_ ?_ (he:=⟨I,I,I,I,congrArg (λz=>some (vB z)) (zW5 aa D),I,I,I,trivial⟩)
   · exact⟨mle,by omega,zBD M G⟩
   omega
  rw[kA,kA] at D;refine go7 ?_;refine yO (A:=[]) (yO (A:=[]) ?_);refine gqL ((m+1),h4) ?_ ?_ (he:=⟨I,I,I,I,congrArg (λz=>some (vB z)) (zW3 D),I,I,I,trivial⟩)
  · exact⟨mle,by omega,zBD M G⟩
  omega
 refine zC4 (λO=>?_) λO=>?_
 ·
  refine go7 ?_;refine zC I I ?_;exact congrArg vI (zYD oM ah M O)
 refine go8 ?_;refine zC I I ?_;exact congrArg vI (zRJ oM ah M O)
end
end Go.Proofs.YtpkaegemlpaenaaGreat
namespace Bk
open Go Go.RowKit
theorem Is.up{h h':Mem}{v:Value}{xs:List Int}(r:Is h v xs)(hm:MLe h h':=by exact mle):Is h' v xs:=r.mono hm
end Bk
namespace Go.Proofs.YtpkaegemlpaenaaGreat
open Bk Go Tryz
set_option maxRecDepth 10000
set_option maxHeartbeats 1000000
attribute [local irreducible] GL GC GQ W OpV
section
variable{w0:World}{h0:Mem}(hs:MLe h0 (mem w0))
include hs
theorem zW7{k l:Nat}{va:Value}{a:Tq}(ra:(tPt k).Is h0 va a){vb:Value}{b:Tq}(rb:(tPt l).Is h0 vb b)(hcd0:k+l<=1000000000):
 Calls Tryz.prog 14 #[va,vb] w0 (Ret w0 h0 (λh r=>(tPt (k+3*l+3)).Is h r (T3.mk (a.x+b.x) (a.y+b.y) (a.z+b.z)))):=by
 refine cb2 20 va vb func14 hs ?_;refine go2 ?_;refine nB ra λb2 bm ar=>(nB rb λb3 bl ac=>(nA (ρ:=(tPt (k+3*l+3))) (X:=zT) yM (xO (yI oM)) λb4 bk bb=>(go9 ?_)));refine fU (go4 ?_);refine gv (OpV.tr dC (yJ (q:=3) I I)) I (go7 ?_);refine zK 9 _ [] [(0,.q),(1,.q),(2,.q),(3,.q),(4,.q),(5,.q),(6,.q),(7,.c),(8,.q),(9,.t)] yA nX zou nX (λr hr=>hr) (go3 ?_);refine wX I (xB yE (Pc.tx pH) ar) λba am=>(go2 ?_);refine wX I (xB yE (Pc.tx pH) ac) λax ai=>?_;refine w_c I (sC (ev2 I I) call45 (λw hs=>rZ hs am ai oM) λZ h1 bj G=>?_)
 change (rpQ (k+l+1)).Is h1 Z (a.x+b.x) at G
 refine go1 ?_;have ap:=(Le.t (Le.q (l:=k+l+1) oM)).R ar;refine yK (A:=[_,_]) I (uB sizeOf29 (Pc.tx pH) ap G) λbg M=>(go5 ?_);refine gv ((zR (q:=1) I I oM oM).cv (show _=vI (1) from I)) I (go2 ?_);refine wE (go4 ?_);refine gv (OpV.tr dC (yJ (q:=3) I I)) I (go7 ?_);refine zK 9 _ [] [(0,.q),(1,.q),(2,.q),(3,.q),(4,.q),(5,.q),(6,.q),(7,.c),(8,.q),(9,.t)] yA nX zou nX (λr hr=>hr) (go3 ?_);refine wX I (xB yE (Pc.ty pH) M) λaz ak=>(go2 ?_);refine wX I (xB yE (Pc.ty pH) ac) λaw ah=>?_;refine w_c I (sC (ev2 I I) call45 (λw hs=>rZ hs ak ah oM) λU h2 bi D=>?_)
 change (rpQ ((k+l+1)+l+1)).Is h2 U (a.y+b.y) at D
 replace D:=Rp.Is.le D (Le.q (l:=k+2*l+2) oM);refine go1 ?_;have ao:=(Le.t (Le.q (l:=k+2*l+2) oM)).R M;refine yK (A:=[_,_]) I (uB sizeOf29 (Pc.ty pH) ao D) λbf J=>(go5 ?_);refine gv ((zR (q:=1) I I oM oM).cv (show _=vI (2) from I)) I (go2 ?_);refine wE (go4 ?_);refine gv (OpV.tr dC (yJ (q:=3) I I)) I (go7 ?_);refine zK 9 _ [] [(0,.q),(1,.q),(2,.q),(3,.q),(4,.q),(5,.q),(6,.q),(7,.c),(8,.q),(9,.t)] yA nX zou nX (λr hr=>hr) (go3 ?_);refine wX I (xB yE (Pc.tz pH) J) λay aj=>(go2 ?_);refine wX I (xB yE (Pc.tz pH) ac) λav ae=>?_;refine w_c I (sC (ev2 I I) call45 (λw hs=>rZ hs aj ae oM) λO h3 bh C=>?_)
 change (rpQ ((k+2*l+2)+l+1)).Is h3 O (a.z+b.z) at C
 replace C:=Rp.Is.le C (Le.q (l:=k+3*l+3) oM);refine go1 ?_;have an:=(Le.t (Le.q (l:=k+3*l+3) oM)).R J;refine yK (A:=[_,_]) I (uB sizeOf29 (Pc.tz pH) an C) λbe aq=>(go5 ?_);refine gv ((zR (q:=1) I I oM oM).cv (show _=vI (3) from I)) I (go2 ?_);refine wE (go4 ?_);refine gv (OpV.fa dC (yJ (q:=3) I I)) I (uG ?_);refine lX (xB zM pH aq) λau ad=>(zW (A:=[]) (uB sizeOf31 pH bb ad) λbc ab=>(go3 ?_));refine wT (kJ (t:=4) zM mh0 I ab) ?_;intro bd H aa;refine yV (λE S=>zV I H E S) ?_;exact aa
theorem zMN{k l:Nat}{va:Value}{a:Tq}(ra:(tPt k).Is h0 va a){vb:Value}{b:Tq}(rb:(tPt l).Is h0 vb b)(hcd0:k+l<=1000000000):
 Calls Tryz.prog 22 #[va,vb] w0 (Ret w0 h0 (λh r=>(tPt (k+3*l+3)).Is h r (T3.mk (a.x-b.x) (a.y-b.y) (a.z-b.z)))):=by
 refine cb2 20 va vb func22 hs ?_;refine go2 ?_;refine nB ra λb2 bm ar=>(nB rb λb3 bl ai=>(nA (ρ:=(tPt (k+3*l+3))) (X:=zT) yM (xO (yI oM)) λb4 bk bb=>(go9 ?_)));refine fU (go4 ?_);refine gv (OpV.tr dC (yJ (q:=3) I I)) I (go7 ?_);refine zK 9 _ [] [(0,.q),(1,.q),(2,.q),(3,.q),(4,.q),(5,.q),(6,.q),(7,.c),(8,.q),(9,.t)] yA nX zou nX (λr hr=>hr) (go3 ?_);refine wX I (xB yE (Pc.tx pH) ar) λba aq=>(go2 ?_);refine wX I (xB yE (Pc.tx pH) ai) λax an=>?_;refine w_c I (sC (ev2 I I) call55 (λw hs=>gZ hs aq an oM) λZ h1 bj J=>?_)
 change (rpQ (k+l+1)).Is h1 Z (a.x-b.x) at J
 refine go1 ?_;have ac:=(Le.t (Le.q (l:=k+l+1) oM)).R ar;refine yK (A:=[_,_]) I (uB sizeOf29 (Pc.tx pH) ac J) λbf H=>(go5 ?_);refine gv ((zR (q:=1) I I oM oM).cv (show _=vI (1) from I)) I (go2 ?_);refine wE (go4 ?_);refine gv (OpV.tr dC (yJ (q:=3) I I)) I (go7 ?_);refine zK 9 _ [] [(0,.q),(1,.q),(2,.q),(3,.q),(4,.q),(5,.q),(6,.q),(7,.c),(8,.q),(9,.t)] yA nX zou nX (λr hr=>hr) (go3 ?_);refine wX I (xB yE (Pc.ty pH) H) λaz ap=>(go2 ?_);refine wX I (xB yE (Pc.ty pH) ai) λaw am=>?_;refine w_c I (sC (ev2 I I) call55 (λw hs=>gZ hs ap am oM) λU h2 bi D=>?_)
 change (rpQ ((k+l+1)+l+1)).Is h2 U (a.y-b.y) at D
 replace D:=Rp.Is.le D (Le.q (l:=k+2*l+2) oM);refine go1 ?_;have ab:=(Le.t (Le.q (l:=k+2*l+2) oM)).R H;refine yK (A:=[_,_]) I (uB sizeOf29 (Pc.ty pH) ab D) λbe G=>(go5 ?_);refine gv ((zR (q:=1) I I oM oM).cv (show _=vI (2) from I)) I (go2 ?_);refine wE (go4 ?_);refine gv (OpV.tr dC (yJ (q:=3) I I)) I (go7 ?_);refine zK 9 _ [] [(0,.q),(1,.q),(2,.q),(3,.q),(4,.q),(5,.q),(6,.q),(7,.c),(8,.q),(9,.t)] yA nX zou nX (λr hr=>hr) (go3 ?_);refine wX I (xB yE (Pc.tz pH) G) λay ao=>(go2 ?_);refine wX I (xB yE (Pc.tz pH) ai) λav ak=>?_;refine w_c I (sC (ev2 I I) call55 (λw hs=>gZ hs ao ak oM) λO h3 bh C=>?_)
 change (rpQ ((k+2*l+2)+l+1)).Is h3 O (a.z-b.z) at C
 replace C:=Rp.Is.le C (Le.q (l:=k+3*l+3) oM);refine go1 ?_;have aa:=(Le.t (Le.q (l:=k+3*l+3) oM)).R G;refine yK (A:=[_,_]) I (uB sizeOf29 (Pc.tz pH) aa C) λbd ah=>(go5 ?_);refine gv ((zR (q:=1) I I oM oM).cv (show _=vI (3) from I)) I (go2 ?_);refine wE (go4 ?_);refine gv (OpV.fa dC (yJ (q:=3) I I)) I (uG ?_);refine lX (xB zM pH ah) λau aj=>(zW (A:=[]) (uB sizeOf31 pH bb aj) λbc ae=>(go3 ?_));refine wT (kJ (t:=4) zM mh0 I ae) ?_;intro bg M ad;refine yV (λE S=>zV I M E S) ?_;exact ad
theorem zF2{l k:Nat}{vq:Value}{q:Rat}(rq:(rpQ l).Is h0 vq q){va:Value}{a:Tq}(ra:(tPt k).Is h0 va a)(hcd0:k+l<=1000000000):
 Calls Tryz.prog 20 #[vq,va] w0 (Ret w0 h0 (λh r=>(tPt (k+3*l+1)).Is h r (T3.mk (q*a.x) (q*a.y) (q*a.z)))):=by
 refine cb2 18 vq va func20 hs ?_;refine go2 ?_;refine nB rq λb2 bm ao=>(nB ra λb3 bl ar=>(nA (ρ:=(tPt (k+3*l+1))) (X:=zT) yM (xO (yI oM)) λb4 bk bb=>(go9 ?_)));refine fU (go4 ?_);refine gv (OpV.tr dC (yJ (q:=3) I I)) I (go7 ?_);refine zK 7 _ [] [(0,.q),(1,.q),(2,.q),(3,.q),(4,.q),(5,.c),(6,.q),(7,.t)] yA nX zou nX (λr hr=>hr) (go1 ?_);refine wX I (xB yE pH ao) λba aq=>(go2 ?_);refine wX I (xB yE (Pc.tx pH) ar) λaz ap=>?_;refine w_c I (sC (ev2 I I) call53 (λw hs=>qW hs aq ap oM) λae h1 bj G=>?_)
 change (rpQ (l+k)).Is h1 ae (q*a.x) at G
 replace G:=Rp.Is.le G (Le.q (l:=k+l) oM);refine go1 ?_;have aj:=(Le.t (Le.q (l:=k+l) oM)).R ar;refine yK (A:=[_]) I (uB sizeOf29 (Pc.tx pH) aj G) λbf J=>(go5 ?_);refine gv ((zR (q:=1) I I oM oM).cv (show _=vI (1) from I)) I (go2 ?_);refine wE (go4 ?_);refine gv (OpV.tr dC (yJ (q:=3) I I)) I (go7 ?_);refine zK 7 _ [] [(0,.q),(1,.q),(2,.q),(3,.q),(4,.q),(5,.c),(6,.q),(7,.t)] yA nX zou nX (λr hr=>hr) (go1 ?_);refine wX I (xB yE pH ao) λay ac=>(go2 ?_);refine wX I (xB yE (Pc.ty pH) J) λaw aa=>?_;refine w_c I (sC (ev2 I I) call53 (λw hs=>qW hs ac aa oM) λO h2 bi D=>?_)
 change (rpQ (l+(k+l))).Is h2 O (q*a.y) at D
 replace D:=Rp.Is.le D (Le.q (l:=k+2*l) oM);refine go1 ?_;have ai:=(Le.t (Le.q (l:=k+2*l) oM)).R J;refine yK (A:=[_]) I (uB sizeOf29 (Pc.ty pH) ai D) λbe H=>(go5 ?_);refine gv ((zR (q:=1) I I oM oM).cv (show _=vI (2) from I)) I (go2 ?_);refine wE (go4 ?_);refine gv (OpV.tr dC (yJ (q:=3) I I)) I (go7 ?_);refine zK 7 _ [] [(0,.q),(1,.q),(2,.q),(3,.q),(4,.q),(5,.c),(6,.q),(7,.t)] yA nX zou nX (λr hr=>hr) (go1 ?_);refine wX I (xB yE pH ao) λax ab=>(go2 ?_);refine wX I (xB yE (Pc.tz pH) H) λav Z=>?_;refine w_c I (sC (ev2 I I) call53 (λw hs=>qW hs ab Z oM) λM h3 bh C=>?_)
 change (rpQ (l+(k+2*l))).Is h3 M (q*a.z) at C
 replace C:=Rp.Is.le C (Le.q (l:=k+3*l) oM);refine go1 ?_;have ah:=(Le.t (Le.q (l:=k+3*l) oM)).R H;refine yK (A:=[_]) I (uB sizeOf29 (Pc.tz pH) ah C) λbd an=>(go5 ?_);refine gv ((zR (q:=1) I I oM oM).cv (show _=vI (3) from I)) I (go2 ?_);refine wE (go4 ?_);refine gv (OpV.fa dC (yJ (q:=3) I I)) I (uG ?_);refine lX (xB zM pH an) λau U=>(zW (A:=[]) (uB sizeOf31 pH bb (U.le (Le.t (Le.q (l:=k+3*l+1) oM)))) λbc am=>(go3 ?_));refine wT (kJ (t:=4) zM mh0 I am) ?_;intro bg ad ak;refine yV (λE S=>zV I ad E S) ?_;exact ak
theorem fC{x:Int}(hx1:-9223372036854775808<=x)(hx2:x<9223372036854775808){y:Int}(hy1:-9223372036854775808<=y)(hy2:y<9223372036854775808){z:Int}(hz1:-9223372036854775808<=z)(hz2:z<9223372036854775808):
 Calls Tryz.prog 12 #[vI x,vI y,vI z] w0 (Ret w0 h0 (λh r=>(tPt 2).Is h r (T3.mk ((x:Int):Rat) ((y:Int):Rat) ((z:Int):Rat)))):=by
 refine cb3 14 (vI x) (vI y) (vI z) func12 hs ?_;refine go2 ?_;refine nA (ρ:=(tPt 1)) (X:=zT) yM (xO (yI dC)) λb6 aj J=>(go5 ?_);refine cL (ev1 I) call27 (λw hs=>kM hs oM oM) λv8 h1 ai r8=>(go1 ?_);refine cL (ev1 I) call27 (λw hs=>kM hs oM oM) λad h2 ah U=>(go1 ?_);refine cL (ev1 I) call27 (λw hs=>kM hs oM oM) λac h3 ae O=>(lX (xV (ρ:=(tPt 2)) (wB (ps':=[(0,_),(1,_),(2,_)]) underlying31 yM I I sizeOf29 e6z I (xO (yI dC)) (zD I (Pc.tx (Pc.here _)) r8.up (zD I (Pc.ty (Pc.here _)) U.up (zD I (Pc.tz (Pc.here _)) O zO))))) λab M=>?_);have D:=(Le.t (Le.q (l:=2) dC)).R J;refine zW (A:=[]) (uB sizeOf31 pH D M) λZ H=>(go3 ?_);refine wT (kJ (t:=6) zM mh0 I H) ?_;intro aa C G;refine yV (λE S=>zV I C E S) ?_;exact G
end
end Go.Proofs.YtpkaegemlpaenaaGreat
namespace Bk
open Go Go.RowKit
open Classical
abbrev Pl:=Pt×Rat
theorem tD{x:Rat}:yR x=1↔0<x:=by
 have h2:=yX x;rw[<-dB];omega
theorem gN{x:Rat}:yR x= -1↔x<0:=by
 have h2:=yX x;rw[<-jQ];omega
theorem tU{a b:Pt}:a=b↔a.x=b.x/\a.y=b.y/\a.z=b.z:=by cases a;cases b;exact T3.mk.injEq ..▸Iff.rfl
noncomputable def axI(n:Pt):Nat:=if 0<n.z then 0 else if n.z<0 then 1 else if 0<n.y then 2 else if n.y<0 then 0 else if 0<n.x then 1 else if n.x<0 then 2 else 1
noncomputable def axJ(n:Pt):Nat:=if 0<n.z then 1 else if n.z<0 then 0 else if 0<n.y then 0 else if n.y<0 then 2 else if 0<n.x then 2 else if n.x<0 then 1 else 2
noncomputable def axK(n:Pt):Nat:=if n.z≠0 then 2 else if n.y≠0 then 1 else 0
theorem zB8(n:Pt):(0<n.z/\axI n=0/\axJ n=1/\axK n=2)\/(n.z<0/\axI n=1/\axJ n=0/\axK n=2)\/(n.z=0/\0<n.y/\axI n=2/\axJ n=0/\axK n=1)\/(n.z=0/\n.y<0/\axI n=0/\axJ n=2/\axK n=1)\/
 (n.z=0/\n.y=0/\0<n.x/\axI n=1/\axJ n=2/\axK n=0)\/(n.z=0/\n.y=0/\n.x<0/\axI n=2/\axJ n=1/\axK n=0)\/(n.z=0/\n.y=0/\n.x=0/\axI n=1/\axJ n=2/\axK n=0):=by
 have C:∀a:Rat,0<a\/(a<0/\¬0<a)\/(a=0/\¬0<a/\¬a<0):=λa=>by grind
 unfold axI axJ axK
 rcases C n.z with h|⟨h,h'⟩|⟨h,h',h''⟩
 · left;simp only[if_pos h,if_pos (show n.z≠0 by grind)];exact⟨h,trivial,trivial,trivial⟩
 · right;left;simp only[if_neg h',if_pos h,if_pos (show n.z≠0 by grind)];exact⟨h,trivial,trivial,trivial⟩
 · simp only[if_neg h',if_neg h'',if_neg (show ¬n.z≠0 by grind)]
   rcases C n.y with k|⟨k,k'⟩|⟨k,k',k''⟩
   · right;right;left;simp only[if_pos k,if_pos (show n.y≠0 by grind)];exact⟨h,k,trivial,trivial,trivial⟩
   · right;right;right;left;simp only[if_neg k',if_pos k,if_pos (show n.y≠0 by grind)];exact⟨h,k,trivial,trivial,trivial⟩
   · simp only[if_neg k',if_neg k'',if_neg (show ¬n.y≠0 by grind)]
     rcases C n.x with l|⟨l,l'⟩|⟨l,l',l''⟩
     · right;right;right;right;left;simp only[if_pos l];exact⟨h,k,l,trivial,trivial,trivial⟩
     · right;right;right;right;right;left;simp only[if_neg l',if_pos l];exact⟨h,k,l,trivial,trivial,trivial⟩
     · right;right;right;right;right;right;simp only[if_neg l',if_neg l''];exact⟨h,k,l,trivial,trivial,trivial⟩
theorem zDG(n:Pt):axI n+axJ n<=3/\axI n<3/\axJ n<3/\axK n=3-axI n-axJ n:=by
 rcases zB8 n with h|h|h|h|h|h|h<;>omega
theorem zZ2(n:Pt):axI n<3:=(zDG n).2.1
theorem zZ1(n:Pt):axJ n<3:=(zDG n).2.2.1
theorem zSF(n:Pt):n.at (axK n)=0↔n=T3.mk (0:Rat) 0 0:=by
 obtain⟨x,y,z⟩:=n;rw[T3.mk.injEq]
 rcases zB8 ⟨x,y,z⟩ with h|h|h|h|h|h|h<;>simp only at h<;>obtain⟨h,h1⟩:=h
 all_goals first|rw[h1.2.2]|rw[h1.2.2.2]|rw[h1.2.2.2.2]
 all_goals simp only[T3.at]
 all_goals grind
noncomputable def qJ(pl:Pl)(p:Pt):Pt:=T3.mk (p.at (axI pl.1)) (p.at (axJ pl.1)) (0:Rat)
noncomputable def zX4(pl:Pl)(q:Pt):Rat:=if pl.1.at (axK pl.1)=0 then 0 else(pl.2-(pl.1.at (axI pl.1)*q.x+pl.1.at (axJ pl.1)*q.y))/pl.1.at (axK pl.1)
noncomputable def u4(pl:Pl)(q:Pt):Pt:=if pl.1.at (axK pl.1)=0 then T3.mk (0:Rat) 0 0 else(((T3.mk (0:Rat) 0 0).set (axI pl.1) q.x).set (axJ pl.1) q.y).set (axK pl.1) (zX4 pl q)
def xH(a b:Pt):Rat:=a.x*b.x+a.y*b.y+a.z*b.z
def xQ(a b:Pt):Pt:=T3.mk (a.y*b.z-a.z*b.y) (a.z*b.x-a.x*b.z) (a.x*b.y-a.y*b.x)
def uL(a b:Pt):Pt:=T3.mk (a.x-b.x) (a.y-b.y) (a.z-b.z)
theorem yEE(a b c:Pt):uW [a,b,c] 0 1 3=(b.x-a.x)*(c.y-a.y)-(b.y-a.y)*(c.x-a.x):=by
 simp[uW,gp,T3.at];grind
theorem zH7{ni nj nk d ai aj ak bi bj bk ci cj ck:Rat}(ha:nk*ak=d-(ni*ai+nj*aj))(hb:nk*bk=d-(ni*bi+nj*bj))(hc:nk*ck=d-(ni*ci+nj*cj)):
 nk*(((bj-aj)*(ck-ak)-(bk-ak)*(cj-aj))*ni+((bk-ak)*(ci-ai)-(bi-ai)*(ck-ak))*nj+((bi-ai)*(cj-aj)-(bj-aj)*(ci-ai))*nk)=(ni*ni+nj*nj+nk*nk)*((bi-ai)*(cj-aj)-(bj-aj)*(ci-ai)):=by
 grind
theorem zLU(a:Rat):xT a 0=yR a:=by rw[zG8,show a-0=a by grind]
theorem iA{c:Rat}(hc:0<c)(x:Rat):yR (c*x)=yR x:=by
 have h:=zZE x 0 c;rw[Rat.zero_mul,zLU,zLU,tD.2 hc,Int.mul_one,Rat.mul_comm] at h;exact h
theorem zIE{c e x y:Rat}(hc:0<c)(he:0<e)(h:c*x=e*y):yR x=yR y:=by
 rw[<-iA hc x,<-iA he y,h]
theorem zVB{i j k:Rat}(hk:k≠0):0<i*i+j*j+k*k:=by
 have h1:0<=i*i:=by rcases @Rat.le_total 0 i with h|h;exact zod h h;have:=zod (a:=-i) (b:=-i) zo1 zo1;grind
 have h2:0<=j*j:=by rcases @Rat.le_total 0 j with h|h;exact zod h h;have:=zod (a:=-j) (b:=-j) zo1 zo1;grind
 have h3:0<k*k:=by
  rcases @Rat.le_total 0 k with h|h
  · exact Rat.mul_pos zo1 zo1
  · have:=Rat.mul_pos (a:=-k) (b:=-k) zo1 zo1;grind
 grind
theorem zEP{n d m q:Rat}(h:¬n=0):n*((d-m)/n)=d-m:=by
 rw[Rat.mul_comm,Rat.div_mul_cancel h]
theorem zEZ{ni nj nk d ai aj ak bi bj bk ci cj ck:Rat}(hk:0<nk)(ha:nk*ak=d-(ni*ai+nj*aj))(hb:nk*bk=d-(ni*bi+nj*bj))(hc:nk*ck=d-(ni*ci+nj*cj)){X:Rat}
    (hX:X=((bj-aj)*(ck-ak)-(bk-ak)*(cj-aj))*ni+((bk-ak)*(ci-ai)-(bi-ai)*(ck-ak))*nj+((bi-ai)*(cj-aj)-(bj-aj)*(ci-ai))*nk):
    yR ((bi-ai)*(cj-aj)-(bj-aj)*(ci-ai))=yR X:=by
 rw[hX];exact(zIE hk (zVB zo1) (zH7 ha hb hc)).symm
theorem zE0{ni nj nk d ai aj ak bi bj bk ci cj ck:Rat}(hk:nk<0)(ha:nk*ak=d-(ni*ai+nj*aj))(hb:nk*bk=d-(ni*bi+nj*bj))(hc:nk*ck=d-(ni*ci+nj*cj)){X:Rat}
    (hX:X= -(((bj-aj)*(ck-ak)-(bk-ak)*(cj-aj))*ni+((bk-ak)*(ci-ai)-(bi-ai)*(ck-ak))*nj+((bi-ai)*(cj-aj)-(bj-aj)*(ci-ai))*nk)):
    yR ((bi-ai)*(cj-aj)-(bj-aj)*(ci-ai))=yR X:=by
 refine(zIE (c:=-nk) zo1 (zVB (i:=ni) (j:=nj) (k:=nk) zo1) ?_).symm;rw[hX,<-zH7 ha hb hc];grind
theorem zUZ(pl:Pl)(p q r:Pt)(h:¬pl.1.at (axK pl.1)=0):
 yR (uW [qJ pl (u4 pl p),qJ pl (u4 pl q),qJ pl (u4 pl r)] 0 1 3)=yR (xH (xQ (uL (u4 pl q) (u4 pl p)) (uL (u4 pl r) (u4 pl p))) pl.1):=by
 rw[yEE];have O:=zEP (d:=pl.2) (m:=pl.1.at (axI pl.1)*p.x+pl.1.at (axJ pl.1)*p.y) (q:=0) h;have M:=zEP (d:=pl.2) (m:=pl.1.at (axI pl.1)*q.x+pl.1.at (axJ pl.1)*q.y) (q:=0) h;have J:=zEP (d:=pl.2) (m:=pl.1.at (axI pl.1)*r.x+pl.1.at (axJ pl.1)*r.y) (q:=0) h;unfold u4 zX4 qJ;rw[if_neg h,if_neg h,if_neg h,if_neg h,if_neg h,if_neg h];generalize (pl.2-(pl.1.at (axI pl.1)*p.x+pl.1.at (axJ pl.1)*p.y))/pl.1.at (axK pl.1)=u at *;generalize (pl.2-(pl.1.at (axI pl.1)*q.x+pl.1.at (axJ pl.1)*q.y))/pl.1.at (axK pl.1)=v at *;generalize (pl.2-(pl.1.at (axI pl.1)*r.x+pl.1.at (axJ pl.1)*r.y))/pl.1.at (axK pl.1)=w at *;obtain⟨⟨x,y,z⟩,d⟩:=pl;obtain⟨p1,p2,p3⟩:=p;obtain⟨q1,Z,U⟩:=q;obtain⟨r1,r2,r3⟩:=r
 rcases zB8 ⟨x,y,z⟩ with e|e|e|e|e|e|e
 · obtain⟨H,G,D,C⟩:=e
   simp only[G,D,C,T3.at,T3.set,xH,xQ,uL] at *;exact zEZ H O M J zo1
 · obtain⟨H,G,D,C⟩:=e
   simp only[G,D,C,T3.at,T3.set,xH,xQ,uL] at *;exact zE0 H O M J zo1
 · obtain⟨h1,H,G,D,C⟩:=e
   simp only[G,D,C,T3.at,T3.set,xH,xQ,uL] at *;exact zEZ H O M J zo1
 · obtain⟨h1,H,G,D,C⟩:=e
   simp only[G,D,C,T3.at,T3.set,xH,xQ,uL] at *;exact zE0 H O M J zo1
 · obtain⟨h1,h2,H,G,D,C⟩:=e
   simp only[G,D,C,T3.at,T3.set,xH,xQ,uL] at *;exact zEZ H O M J zo1
 · obtain⟨h1,h2,H,G,D,C⟩:=e
   simp only[G,D,C,T3.at,T3.set,xH,xQ,uL] at *;exact zE0 H O M J zo1
 · obtain⟨h1,h2,h3,G,D,C⟩:=e
   rw[C] at h;exact absurd h3 h
theorem zSG(n:Pt):(axI n=0/\axJ n=1/\axK n=2)\/(axI n=1/\axJ n=0/\axK n=2)\/(axI n=2/\axJ n=0/\axK n=1)\/(axI n=0/\axJ n=2/\axK n=1)\/(axI n=1/\axJ n=2/\axK n=0)\/(axI n=2/\axJ n=1/\axK n=0):=by
 rcases zB8 n with h|h|h|h|h|h|h<;>omega
theorem zCZ{s:Pl}{p:Pt}(h:¬s.1.at (axK s.1)=0)(hs:yR (xH s.1 p-s.2)=0):u4 s (qJ s p)=p:=by
 rw[uS] at hs;have C:=zEP (d:=s.2) (m:=s.1.at (axI s.1)*p.at (axI s.1)+s.1.at (axJ s.1)*p.at (axJ s.1)) (q:=0) h;unfold u4 zX4 qJ;rw[if_neg h,if_neg h];simp only;generalize (s.2-(s.1.at (axI s.1)*p.at (axI s.1)+s.1.at (axJ s.1)*p.at (axJ s.1)))/s.1.at (axK s.1)=u at *;obtain⟨⟨x,y,z⟩,d⟩:=s;obtain⟨a,b,c⟩:=p;have hz:∀{n u v:Rat},¬n=0->n*u=n*v->u=v:=λ{n u v} h e=>by
  have h1:n*(u-v)=0:=by grind
  rcases zoe.1 h1 with h2|h2
  · exact absurd h2 h
  · grind
 rcases zSG ⟨x,y,z⟩ with⟨e1,e2,e3⟩|⟨e1,e2,e3⟩|⟨e1,e2,e3⟩|⟨e1,e2,e3⟩|⟨e1,e2,e3⟩|⟨e1,e2,e3⟩<;>simp only[e1,e2,e3,T3.at,T3.set,xH] at *<;>rw[T3.mk.injEq]<;>simp only[true_and,and_true]<;>exact hz h zo1
end Bk
namespace Bk
open Classical
def i3(x y z:Int):Pt:=T3.mk ((x:Int):Rat) ((y:Int):Rat) ((z:Int):Rat)
abbrev bdI(z:Int)(n:Nat):Prop:=z.natAbs<=n
def smN(e:Pl):Prop:=∃a b c d:Int,(bdI a 2/\bdI b 2/\bdI c 2/\bdI d 30)/\e=(i3 a b c,(d:Rat)/2)
def u5(q:Rat)(n:Nat):Prop:=∃z:Int,bdI z n/\q=(z:Rat)/2
def spP(p:Pt):Prop:=u5 p.x 9/\u5 p.y 9/\u5 p.z 9
theorem zBU{z:Int}{n m:Nat}(h:bdI z n)(hm:2*n<=m):u5 ((z:Int):Rat) m:=by
 refine⟨2*z,by unfold bdI at *;omega,?_⟩;rw[Rat.intCast_mul];have C:((2:Int):Rat)=2:=I;rw[C];grind
theorem zNF{z:Int}{n:Nat}(h:bdI z n):u5 (jU z 2) n:=⟨z,h,rfl⟩
theorem iZ{p:Pt}{i:Nat}{q:Rat}(hi:i<3)(h:∀u,u<i->u5 (p.at u) 9)(hq:u5 q 9):∀u,u<i+1->u5 ((p.set i q).at u) 9:=by
 intro u D
 by_cases e:u=i
 · subst e
   match u,hi with
   |0,_=>exact hq
   |1,_=>exact hq
   |2,_=>exact hq
 · have h1:u<i:=by omega
   have h2:=h u h1;have C:(i=1/\u=0)\/(i=2/\u=0)\/(i=2/\u=1):=by omega
   rcases C with⟨rfl,rfl⟩|⟨rfl,rfl⟩|⟨rfl,rfl⟩<;>exact h2
theorem yJ2{p:Pt}(h:∀u,u<3->u5 (p.at u) 9):spP p:=⟨h 0 zow,h 1 zow,h 2 zow⟩
abbrev rows7:List (T3 Int):=[T3.mk 1 0 0,T3.mk 0 1 0,T3.mk 0 0 1,T3.mk 1 1 0,T3.mk (-1) 0 0,T3.mk 1 (-1) 2,T3.mk 0 2 1]
end Bk
namespace Go.Proofs.YtpkaegemlpaenaaGreat
open Bk Go Tryz
set_option maxRecDepth 10000
set_option maxHeartbeats 1000000
attribute [local irreducible] GL GC GQ W OpV
section
variable{w0:World}{h0:Mem}(hs:MLe h0 (mem w0))
include hs
theorem zTT{k:Nat}{vn:Value}{n:Tq}(rn:(tPt k).Is h0 vn n)(hcd0:k<=1000000000):
 Calls Tryz.prog 106 #[vn] w0 (Ret w0 h0 (λh r=>r=.tuple #[vI (↑(axI n):Int),vI (↑(axJ n):Int)])):=by
 refine cb1 29 vn func106 hs ?_;refine go2 ?_;refine nB rn λb1 ar U=>(qM ?_);refine fU (go4 ?_);refine gv (OpV.tr dC (rJ (q:=0) I I)) I (uG ?_);refine gv ((zR (q:=1) I I oM oM).cv (show _=vI (3) from I)) I (gv ((wC (q:=3) I I oM oM).cv (show _=vI (0) from I)) I (go1 ?_));refine gv ((zR (q:=2) I I oM oM).cv (show _=vI (4) from I)) I (gv ((wC (q:=3) I I oM oM).cv (show _=vI (1) from I)) I (go8 ?_));refine lX (xB yE (Pc.tz pH) U) λan ae=>(cL (ev1 I) call122 (λw hs=>pE hs ae oM) λO h1 aq ab=>?_);obtain rfl:O=vI (yR n.z):=ab;have aj:=yX n.z;refine gc9 (λD=>?_) λD=>?_
 ·
  refine rA ?_;refine wK I I I ?_;have H:axI n=0:=by unfold axI;simp only[tD,gN] at *;grind
  have G:axJ n=1:=by unfold axJ;simp only[tD,gN] at *;grind
  rw[H,G];rfl
 refine gc6 (λC=>?_) λC=>?_
 ·
  refine rA ?_;refine wK I I I ?_;have H:axI n=1:=by unfold axI;simp only[tD,gN] at *;grind
  have G:axJ n=0:=by unfold axJ;simp only[tD,gN] at *;grind
  rw[H,G];rfl
 refine go6 ?_;refine gv ((jD (q:=1) I I oM oM).cv (show _=vI (1) from I)) I (go2 ?_);refine wE (go4 ?_);refine gv (OpV.tr dC (rJ (q:=0) I I)) I (uG ?_);refine gv ((zR (q:=1) I I oM oM).cv (show _=vI (2) from I)) I (gv ((wC (q:=3) I I oM oM).cv (show _=vI (2) from I)) I (go1 ?_));refine gv ((zR (q:=2) I I oM oM).cv (show _=vI (3) from I)) I (gv ((wC (q:=3) I I oM oM).cv (show _=vI (0) from I)) I (go8 ?_));refine lX (xB yE (Pc.ty pH) U) λam ad=>(cL (ev1 I) call122 (λw hs=>pE hs ad oM) λM h2 ap aa=>?_);obtain rfl:M=vI (yR n.y):=aa;have ai:=yX n.y;refine gc9 (λD=>?_) λD=>?_
 ·
  refine rA ?_;refine wK I I I ?_;have H:axI n=2:=by unfold axI;simp only[tD,gN] at *;grind
  have G:axJ n=0:=by unfold axJ;simp only[tD,gN] at *;grind
  rw[H,G];rfl
 refine gc6 (λC=>?_) λC=>?_
 ·
  refine rA ?_;refine wK I I I ?_;have H:axI n=0:=by unfold axI;simp only[tD,gN] at *;grind
  have G:axJ n=2:=by unfold axJ;simp only[tD,gN] at *;grind
  rw[H,G];rfl
 refine go6 ?_;refine gv ((jD (q:=1) I I oM oM).cv (show _=vI (0) from I)) I (go2 ?_);refine wE (go4 ?_);refine gv (OpV.tr dC (rJ (q:=0) I I)) I (uG ?_);refine gv ((zR (q:=1) I I oM oM).cv (show _=vI (1) from I)) I (gv ((wC (q:=3) I I oM oM).cv (show _=vI (1) from I)) I (go1 ?_));refine gv ((zR (q:=2) I I oM oM).cv (show _=vI (2) from I)) I (gv ((wC (q:=3) I I oM oM).cv (show _=vI (2) from I)) I (go8 ?_));refine lX (xB yE (Pc.tx pH) U) λak ac=>(cL (ev1 I) call122 (λw hs=>pE hs ac oM) λJ h3 ao Z=>?_);obtain rfl:J=vI (yR n.x):=Z;have ah:=yX n.x;refine gc9 (λD=>?_) λD=>?_
 ·
  refine rA ?_;refine wK I I I ?_;have H:axI n=1:=by unfold axI;simp only[tD,gN] at *;grind
  have G:axJ n=2:=by unfold axJ;simp only[tD,gN] at *;grind
  rw[H,G];rfl
 refine gc6 (λC=>?_) λC=>?_
 ·
  refine rA ?_;refine wK I I I ?_;have H:axI n=2:=by unfold axI;simp only[tD,gN] at *;grind
  have G:axJ n=1:=by unfold axJ;simp only[tD,gN] at *;grind
  rw[H,G];rfl
 refine go6 ?_;refine gv ((jD (q:=1) I I oM oM).cv (show _=vI (-1) from I)) I (go2 ?_);refine wE (go4 ?_);refine gv (OpV.fa dC (rJ (q:=0) I I)) I (rA ?_);refine wK I I I ?_;have H:axI n=1:=by unfold axI;simp only[tD,gN] at *;grind
 have G:axJ n=2:=by unfold axJ;simp only[tD,gN] at *;grind
 rw[H,G];rfl
theorem zIO{k l:Nat}{va:Value}{a:Tq}(ra:(tPt k).Is h0 va a){vb:Value}{b:Tq}(rb:(tPt l).Is h0 vb b)(hcd0:k+l<=1000000000):
 Calls Tryz.prog 35 #[va,vb] w0 (Ret w0 h0 (λ_ r=>r=vB (a=b))):=by
 refine cb2 24 va vb func35 hs ?_;refine go2 ?_;refine nB ra λb2 aa H=>(nB rb λb3 Z G=>(go6 ?_));refine lX (xB yE (Pc.tx pH) H) λv6 r6=>(go1 ?_);refine lX (xB yE (Pc.tx pH) G) λv8 r8=>(cL (ev2 I I) call73 (λw hs=>sH hs r6 r8 oM) λv9 h1 ar r9=>?_);obtain rfl:v9=vB (a.x=b.x):=r9;refine qB (ι:=Mem) 7 (λJ=>MLe h1 J) (λ_=>[(16,vB ((a.x=b.x)/\(a.y=b.y))),(2,vP b2 0),(3,vP b3 0)]) (λ_=>[.var b3 31 Z,.var b2 31 aa]) (λJ=>J) ?_ ?_
 ·
  refine zY (a.x=b.x) (λD=>?_) (λD=>?_)
  ·
   refine gT D I (go3 ?_);refine lX (xB yE (Pc.ty pH) H) λaq am=>(go3 ?_);refine lX (xB yE (Pc.ty pH) G) λap ak=>(go1 ?_);refine cL (ev2 I I) call73 (λw hs=>sH hs am ak oM) λad h2 M aj=>?_;obtain rfl:ad=vB (a.y=b.y):=aj;refine go2 ?_;refine zS h2 M ⟨?_,I,I,trivial⟩ I I;exact congrArg some (xD D)
  refine gF D I (go7 ?_);refine zS h1 (MLe.refl _) ⟨?_,I,I,trivial⟩ I I;exact congrArg some (xE D)
 intro C U;refine tY ?_;refine qB (ι:=Mem) 7 (λJ=>MLe C J) (λ_=>[(23,vB (((a.x=b.x)/\(a.y=b.y))/\(a.z=b.z)))]) (λ_=>[.var b3 31 Z,.var b2 31 aa]) (λJ=>J) ?_ ?_
 ·
  refine zY ((a.x=b.x)/\(a.y=b.y)) (λD=>?_) (λD=>?_)
  ·
   refine gT D I (go3 ?_);refine lX (xB yE (Pc.tz pH) H) λao ai=>(go3 ?_);refine lX (xB yE (Pc.tz pH) G) λan ah=>(go1 ?_);refine cL (ev2 I I) call73 (λw hs=>sH hs ai ah oM) λac h2 M ae=>?_;obtain rfl:ac=vB (a.z=b.z):=ae;refine go2 ?_;refine zS h2 M ⟨?_,trivial⟩ I I;exact congrArg some (xD D)
  refine gF D I (go7 ?_);refine zS C (MLe.refl _) ⟨?_,trivial⟩ I I;exact congrArg some (xE D)
 intro ab O;refine tY ?_;refine go4 ?_;refine zC I I ?_
 first|exact kF (by rw[tU];grind)|exact(xM (by rw[tU];grind)).symm|exact(yH (by rw[tU];grind)).symm
theorem dP{k:Nat}{va:Value}{a:Tq}(ra:(tPt k).Is h0 va a)(hcd0:k<=1000000):
 Calls Tryz.prog 80 #[va] w0 (Ret w0 h0 (λ_ r=>r=vB (a=zT))):=by
 refine cb1 6 va func80 hs ?_;refine go2 ?_;refine nB ra λM J C=>(go5 ?_);refine lX (xB zM pH C) λv3 r3=>(lX (xV (ρ:=(tPt 1)) (wB (ps':=[]) underlying31 yM I I sizeOf29 trivial I (xO (yI dC)) zO)) λv4 r4=>(cL (ev2 I I) call35 (λw hs=>zIO hs r3 r4 oM) λD h1 H G=>?_));obtain rfl:D=vB (a=zT):=G;refine go4 ?_;refine zC I I ?_
 rfl
theorem cE{k l:Nat}{va:Value}{a:Tq}(ra:(tPt k).Is h0 va a){vb:Value}{b:Tq}(rb:(tPt l).Is h0 vb b)(hcd0:k+l<=1000000000):
 Calls Tryz.prog 56 #[va,vb] w0 (Ret w0 h0 (λh r=>(rpQ (3*k+3*l+9)).Is h r (xH a b))):=by
 refine cb2 21 va vb func56 hs ?_;refine go2 ?_;refine nB ra λb2 ce am=>(nB rb λb3 cd ak=>(nA (ρ:=(rpQ (3*k+3*l+9))) (X:=(0:Rat)) xR (yI oM) λb4 cc bo=>(go4 ?_)));refine nA (ρ:=(rpQ 1)) (X:=(0:Rat)) xR (yI dC) λb5 cb bd=>(go9 ?_);refine fU (go4 ?_);refine gv (OpV.tr dC (yJ (q:=3) I I)) I (go7 ?_);refine zK 9 _ [] [(0,.q),(1,.q),(2,.q),(3,.q),(4,.q),(5,.q),(6,.q),(7,.c),(8,.c),(9,.t)] yA nX zou nX (λr hr=>hr) (wX I (xB yE pH bd) λbn ay=>(go2 ?_));refine wX I (xB yE (Pc.tx pH) am) λbk av=>(go2 ?_);refine wX I (xB yE (Pc.tx pH) ak) λbh aq=>?_;refine w_c I (sC (ev2 I I) call53 (λw hs=>qW hs av aq oM) λah h1 ca M=>?_)
 change (rpQ (k+l)).Is h1 ah (a.x*b.x) at M
 refine w_c I (sC (ev2 I I) call45 (λw hs=>rZ hs ay.up M oM) λac h2 bz G=>?_)
 change (rpQ (1+(k+l)+1)).Is h2 ac ((0:Rat)+(a.x*b.x)) at G
 replace G:=Rp.Is.le G (Le.q (l:=k+l+2) oM);have bb:=(Le.q (l:=k+l+2) oM).R bd;refine yK (A:=[]) I (uB sizeOf29 pH bb G) λbt Z=>(go5 ?_);refine gv ((zR (q:=1) I I oM oM).cv (show _=vI (1) from I)) I (go2 ?_);refine wE (go4 ?_);refine gv (OpV.tr dC (yJ (q:=3) I I)) I (go7 ?_);refine zK 9 _ [] [(0,.q),(1,.q),(2,.q),(3,.q),(4,.q),(5,.q),(6,.q),(7,.c),(8,.c),(9,.t)] yA nX zou nX (λr hr=>hr) (wX I (xB yE pH Z) λbm ax=>(go2 ?_));refine wX I (xB yE (Pc.ty pH) am) λbj au=>(go2 ?_);refine wX I (xB yE (Pc.ty pH) ak) λbg ap=>?_;refine w_c I (sC (ev2 I I) call53 (λw hs=>qW hs au ap oM) λae h3 bx J=>?_)
 change (rpQ (k+l)).Is h3 ae (a.y*b.y) at J
 refine w_c I (sC (ev2 I I) call45 (λw hs=>rZ hs ax.up J oM) λab h4 bw D=>?_)
 change (rpQ ((k+l+2)+(k+l)+1)).Is h4 ab (((0:Rat)+(a.x*b.x))+(a.y*b.y)) at D
 replace D:=Rp.Is.le D (Le.q (l:=2*k+2*l+3) oM);have ba:=(Le.q (l:=2*k+2*l+3) oM).R Z;refine yK (A:=[]) I (uB sizeOf29 pH ba D) λbs U=>(go5 ?_);refine gv ((zR (q:=1) I I oM oM).cv (show _=vI (2) from I)) I (go2 ?_);refine wE (go4 ?_);refine gv (OpV.tr dC (yJ (q:=3) I I)) I (go7 ?_);refine zK 9 _ [] [(0,.q),(1,.q),(2,.q),(3,.q),(4,.q),(5,.q),(6,.q),(7,.c),(8,.c),(9,.t)] yA nX zou nX (λr hr=>hr) (wX I (xB yE pH U) λbl aw=>(go2 ?_));refine wX I (xB yE (Pc.tz pH) am) λbi ar=>(go2 ?_);refine wX I (xB yE (Pc.tz pH) ak) λbf ao=>?_;refine w_c I (sC (ev2 I I) call53 (λw hs=>qW hs ar ao oM) λad h5 bv H=>?_)
 change (rpQ (k+l)).Is h5 ad (a.z*b.z) at H
 refine w_c I (sC (ev2 I I) call45 (λw hs=>rZ hs aw.up H oM) λaa h6 bu C=>?_)
 change (rpQ ((2*k+2*l+3)+(k+l)+1)).Is h6 aa ((((0:Rat)+(a.x*b.x))+(a.y*b.y))+(a.z*b.z)) at C
 replace C:=Rp.Is.le C (Le.q (l:=3*k+3*l+4) oM);have az:=(Le.q (l:=3*k+3*l+4) oM).R U;refine yK (A:=[]) I (uB sizeOf29 pH az C) λbr bc=>(go5 ?_);refine gv ((zR (q:=1) I I oM oM).cv (show _=vI (3) from I)) I (go2 ?_);refine wE (go4 ?_);refine gv (OpV.fa dC (yJ (q:=3) I I)) I (uG ?_);refine lX (xB yE pH bc) λbe an=>(zW (A:=[_]) (uB sizeOf29 pH bo (an.le (Le.q (l:=3*k+3*l+9) oM))) λbp aj=>(go3 ?_));refine wT (kJ (t:=4) yE mh1 I aj) ?_;intro bq O ai;refine yV (λE S=>zV I O E S) ?_;exact(Rp.Is.cast ai (by unfold xH;grind))
theorem zF3{k l:Nat}{va:Value}{a:Tq}(ra:(tPt k).Is h0 va a){vb:Value}{b:Tq}(rb:(tPt l).Is h0 vb b)(hcd0:k+l<=1000000000):
 Calls Tryz.prog 102 #[va,vb] w0 (Ret w0 h0 (λh r=>(tPt (2*k+2*l+3)).Is h r (xQ a b))):=by
 refine cb2 37 va vb func102 hs ?_;refine go2 ?_;refine nB ra λb2 cq Z=>(nB rb λb3 cp U=>(nA (ρ:=(tPt (2*k+2*l+3))) (X:=zT) yM (xO (yI oM)) λb4 co bx=>(go4 ?_)));refine nA (ρ:=(tPt (2*k+2*l+3))) (X:=zT) yM (xO (yI oM)) λb5 cn bw=>(go9 ?_);refine fU (go4 ?_);refine gv (OpV.tr dC (yJ (q:=3) I I)) I (uG ?_);refine gv ((zR (q:=1) I I oM oM).cv (show _=vI (1) from I)) I (gv ((wC (q:=3) I I oM oM).cv (show _=vI (1) from I)) I (go1 ?_));refine gv ((zR (q:=2) I I oM oM).cv (show _=vI (2) from I)) I (gv ((wC (q:=3) I I oM oM).cv (show _=vI (2) from I)) I (go4 ?_));refine zK 17 _ [] [(0,.q),(1,.q),(2,.q),(3,.q),(4,.q),(5,.q),(6,.q),(8,.q),(9,.q),(10,.q),(11,.q),(12,.q),(13,.q),(7,.c),(14,.c),(15,.c),(16,.q),(17,.t)] yA nX (wJ zou) nX (λr hr=>hr) (go3 ?_);refine wX I (xB yE (Pc.ty pH) Z) λbv bi=>(go2 ?_);refine wX I (xB yE (Pc.tz pH) U) λbu bh=>(go2 ?_);refine wX I (xB yE (Pc.tz pH) Z) λbt bg=>(go2 ?_);refine wX I (xB yE (Pc.ty pH) U) λbs bf=>?_;refine w_c I (sC (ev2 I I) call53 (λw hs=>qW hs bi bh oM) λaz h1 cm ab=>?_)
 change (rpQ (k+l)).Is h1 az (a.y*b.z) at ab
 refine w_c I (sC (ev2 I I) call53 (λw hs=>qW hs bg.up bf.up oM) λay h2 cl aa=>?_)
 change (rpQ (k+l)).Is h2 ay (a.z*b.y) at aa
 refine w_c I (sC (ev2 I I) call55 (λw hs=>gZ hs ab.up aa oM) λax h3 ck G=>?_)
 change (rpQ ((k+l)+(k+l)+1)).Is h3 ax ((a.y*b.z)-(a.z*b.y)) at G
 replace G:=Rp.Is.le G (Le.q (l:=2*k+2*l+1) oM);refine go1 ?_;refine yK (A:=[]) I (uB sizeOf29 (Pc.tx pH) bw (G.le (Le.q (l:=2*k+2*l+3) oM))) λcc be=>(go5 ?_);refine gv ((zR (q:=1) I I oM oM).cv (show _=vI (1) from I)) I (go2 ?_);refine wE (go4 ?_);refine gv (OpV.tr dC (yJ (q:=3) I I)) I (uG ?_);refine gv ((zR (q:=1) I I oM oM).cv (show _=vI (2) from I)) I (gv ((wC (q:=3) I I oM oM).cv (show _=vI (2) from I)) I (go1 ?_));refine gv ((zR (q:=2) I I oM oM).cv (show _=vI (3) from I)) I (gv ((wC (q:=3) I I oM oM).cv (show _=vI (0) from I)) I (go4 ?_));refine zK 17 _ [] [(0,.q),(1,.q),(2,.q),(3,.q),(4,.q),(5,.q),(6,.q),(8,.q),(9,.q),(10,.q),(11,.q),(12,.q),(13,.q),(7,.c),(14,.c),(15,.c),(16,.q),(17,.t)] yA nX (wJ zou) nX (λr hr=>hr) (go3 ?_);refine wX I (xB yE (Pc.tz pH) Z) λbr av=>(go2 ?_);refine wX I (xB yE (Pc.tx pH) U) λbp ar=>(go2 ?_);refine wX I (xB yE (Pc.tx pH) Z) λbn ap=>(go2 ?_);refine wX I (xB yE (Pc.tz pH) U) λbl an=>?_;refine w_c I (sC (ev2 I I) call53 (λw hs=>qW hs av ar oM) λaj h4 cj O=>?_)
 change (rpQ (k+l)).Is h4 aj (a.z*b.x) at O
 refine w_c I (sC (ev2 I I) call53 (λw hs=>qW hs ap.up an.up oM) λah h5 ci J=>?_)
 change (rpQ (k+l)).Is h5 ah (a.x*b.z) at J
 refine w_c I (sC (ev2 I I) call55 (λw hs=>gZ hs O.up J oM) λad h6 ch D=>?_)
 change (rpQ ((k+l)+(k+l)+1)).Is h6 ad ((a.z*b.x)-(a.x*b.z)) at D
 replace D:=Rp.Is.le D (Le.q (l:=2*k+2*l+1) oM);refine go1 ?_;refine yK (A:=[]) I (uB sizeOf29 (Pc.ty pH) be (D.le (Le.q (l:=2*k+2*l+3) oM))) λcb bd=>(go5 ?_);refine gv ((zR (q:=1) I I oM oM).cv (show _=vI (2) from I)) I (go2 ?_);refine wE (go4 ?_);refine gv (OpV.tr dC (yJ (q:=3) I I)) I (uG ?_);refine gv ((zR (q:=1) I I oM oM).cv (show _=vI (3) from I)) I (gv ((wC (q:=3) I I oM oM).cv (show _=vI (0) from I)) I (go1 ?_));refine gv ((zR (q:=2) I I oM oM).cv (show _=vI (4) from I)) I (gv ((wC (q:=3) I I oM oM).cv (show _=vI (1) from I)) I (go4 ?_));refine zK 17 _ [] [(0,.q),(1,.q),(2,.q),(3,.q),(4,.q),(5,.q),(6,.q),(8,.q),(9,.q),(10,.q),(11,.q),(12,.q),(13,.q),(7,.c),(14,.c),(15,.c),(16,.q),(17,.t)] yA nX (wJ zou) nX (λr hr=>hr) (go3 ?_);refine wX I (xB yE (Pc.tx pH) Z) λbq au=>(go2 ?_);refine wX I (xB yE (Pc.ty pH) U) λbo aq=>(go2 ?_);refine wX I (xB yE (Pc.ty pH) Z) λbm ao=>(go2 ?_);refine wX I (xB yE (Pc.tx pH) U) λbk am=>?_;refine w_c I (sC (ev2 I I) call53 (λw hs=>qW hs au aq oM) λai h7 cg M=>?_)
 change (rpQ (k+l)).Is h7 ai (a.x*b.y) at M
 refine w_c I (sC (ev2 I I) call53 (λw hs=>qW hs ao.up am.up oM) λae h8 cf H=>?_)
 change (rpQ (k+l)).Is h8 ae (a.y*b.x) at H
 refine w_c I (sC (ev2 I I) call55 (λw hs=>gZ hs M.up H oM) λac h9 ce C=>?_)
 change (rpQ ((k+l)+(k+l)+1)).Is h9 ac ((a.x*b.y)-(a.y*b.x)) at C
 replace C:=Rp.Is.le C (Le.q (l:=2*k+2*l+1) oM);refine go1 ?_;refine yK (A:=[]) I (uB sizeOf29 (Pc.tz pH) bd (C.le (Le.q (l:=2*k+2*l+3) oM))) λca bc=>(go5 ?_);refine gv ((zR (q:=1) I I oM oM).cv (show _=vI (3) from I)) I (go2 ?_);refine wE (go4 ?_);refine gv (OpV.fa dC (yJ (q:=3) I I)) I (uG ?_);refine lX (xB zM pH bc) λbj ak=>(zW (A:=[_]) (uB sizeOf31 pH bx ak) λbz bb=>(go3 ?_));refine wT (kJ (t:=4) zM mh1 I bb) ?_;intro cd aw ba;refine yV (λE S=>zV I aw E S) ?_;exact ba
end
theorem iL{w0 w:World}{h0 h:Mem}{b k:Nat}{vl:Value}{xs:List Int}(hl:Is h vl xs)(hk:k<=xs.length){n:Int}(hn:0<n)(hn2:n<4611686018427387904){L:List Res}(hs:St w0 h0 (.var b 72 [vl,vI ↑k]::L) h w):
 Calls Tryz.prog 38 #[vP b 0,vI n] w (rB w0 h0 h L (λg r q'=>∃k':Nat,∃p:Prop,q'=.var b 72 [vl,vI ↑k']/\k'<=xs.length/\r=vB p)):=by
 have G:=hl.lt63;refine uF (n:=11) (e:=[(0,vP b 0),(1,vI n)]) (vs:=[vP b 0,vI n]) func38 rfl rfl (bL rfl) hs e2z (go9 ?_);refine yD (A:=[]) (vs:=[_,_]) call13 e2z (λX w hs=>xW hl zox oM oM hs) I ?_;intro U g7 Z D C;obtain⟨k7,O,rfl,M,rfl,H,J⟩:=C;refine go7 ?_;refine qF I I ?_;exact⟨_,(List.Sublist.refl _),D,_,_,I,by omega,I⟩
theorem zMT{w0 w:World}{h0 h:Mem}{b k:Nat}{vl:Value}{xs:List Int}(hl:Is h vl xs)(hk:k<=xs.length){L:List Res}(hs:St w0 h0 (.var b 72 [vl,vI ↑k]::L) h w):
 Calls Tryz.prog 16 #[vP b 0] w (rB w0 h0 h L (λg r q'=>∃k':Nat,∃m:T3 Rat,q'=.var b 72 [vl,vI ↑k']/\k'<=xs.length/\spP m/\(tPt 2).Is g r m)):=by
 have bf:=hl.lt63;refine uF (n:=22) (e:=[(0,vP b 0)]) (vs:=[vP b 0]) func16 rfl rfl (bL rfl) hs ⟨rfl,trivial⟩ (go2 ?_);refine nA (ρ:=(tPt 2)) (X:=zT) yM (xO (yI dC)) λb2 az an=>(go4 ?_);refine nA (ρ:=(tPt 2)) (X:=zT) yM (xO (yI dC)) λU ay am=>(go9 ?_);refine gcL (ι:=Nat×T3 Rat×List Value×Nat×Mem) (λ(i,m0,D,C,ma)=>(MLe h ma/\((tPt 2).R ma D m0/\C<=xs.length/\i<=3/\∀u,u<i->u5 (m0.at u) 9),[(0,vP b 0),(2,vP b2 0),(3,vP U 0),(4,vI ↑i)],(.var U 31 D::.var b2 31 az::.var b 72 [vl,vI ↑C]::L),ma,3-i)) (0,(T3.mk 0 0 0),ay,k,h) ?_ ?_
 · exact⟨mle,am,oM,by omega,λu h=>by omega⟩
 rintro⟨i,m0,D,C,ma⟩ ⟨ae,J,av,hi,hh⟩
 refine yW ?_;refine gc7 (λaw=>?_) λaw=>?_
 ·
  refine go8 ?_;refine yD (A:=[_,_]) (vs:=[_,vI (5)]) call13 e2z (λX w hs=>xW hl.up zox oM oM hs) I ?_;intro bs cb bv bl ad;obtain⟨bw,Z,rfl,bi,rfl,bc,be⟩:=ad;refine cL (ev1 I) call27 (λw hs=>kM hs oM oM) λbr h1 bz aq=>(gv ((yG (sz:=3) i underlying31 sizeOf29 I I I oM).cv (show _=vP U ((i*3+0)) from congrArg (vP U) oM)) I (zW (A:=[]) (uB sizeOf29 (Pc.ta pH i oM) J aq) λaj H=>(go5 ?_)));refine yD (A:=[_,_]) (vs:=[_,vI (4)]) call38 e2z (λX w hs=>iL hl.up zox oM oM hs) I ?_;intro bq ax bu bk ac;obtain⟨au,cc,rfl,bh,rfl⟩:=ac;refine gc2 (λah=>?_) λah=>?_
  ·
   refine go3 ?_;refine yD (A:=[_,_]) (vs:=[_,vI (9)]) call13 e2z (λX w hs=>xW hl.up zox oM oM hs) I ?_;intro bp ca bt bj ab;obtain⟨ar,ak,rfl,bg,rfl,bb,bd⟩:=ab;refine cL (vs:=[_,vI (2)]) e2z call21 (λw hs=>iJ hs oM oM dC dC) λbo h2 bx ap=>(gv ((yG (sz:=3) i underlying31 sizeOf29 I I I oM).cv (show _=vP U ((i*3+0)) from congrArg (vP U) oM)) I (zW (A:=[]) (uB sizeOf29 (Pc.ta pH i oM) H ap) λai aa=>(go8 ?_)));refine gqL ((i+1),((m0.set i ((Z:Int):Rat)).set i (jU ak (2:Int))),ai,ar,h2) ?_ ?_
   · exact⟨mle,aa,oM,by omega,by first|exact iZ oM hh (zBU (n:=4) oM dC)|exact iZ oM (λu hu=>iZ oM hh (zBU (n:=4) oM dC) u oM) (zNF oM)⟩
   omega
  refine go8 ?_;refine gqL ((i+1),(m0.set i ((Z:Int):Rat)),aj,au,ax) ?_ ?_
  · exact⟨mle,H.up,oM,by omega,by first|exact iZ oM hh (zBU (n:=4) oM dC)|exact iZ oM (λu hu=>iZ oM hh (zBU (n:=4) oM dC) u oM) (zNF oM)⟩
  omega
 refine go7 ?_;refine lX (xB zM pH J) λbn ao=>(zW (A:=[_]) (uB sizeOf31 pH an ao) λbm O=>(go3 ?_));refine wT (kJ (t:=2) zM mh1 I O) ?_;intro ba G M;refine jK (λE S=>zV I G E S) ?_;exact⟨_,(.cons _ (.cons _ (List.Sublist.refl _))),ae,_,_,I,by omega,yJ2 (λu hu=>hh u oM),M⟩
section
variable{w0:World}{h0:Mem}(hs:MLe h0 (mem w0))
include hs
theorem zTI{m l:Nat}{vs:Value}{s:Pq}(rs:(tPl m l).Is h0 vs s)(hcd0:m<=1000000000):
 Calls Tryz.prog 152 #[vs] w0 (Ret w0 h0 (λh r=>r=.tuple #[vI (↑(axI s.1):Int),vI (↑(axJ s.1):Int),vI (↑(axK s.1):Int)])):=by
 refine cb1 29 vs func152 hs ?_;refine go2 ?_;refine nB rs λb1 av G=>(nR ?_);refine lX (xB yE (Pc.fst (Pc.tz pH)) G) λar ak=>(cL (ev1 I) call48 (λw hs=>uD hs ak oM) λae h1 au aj=>?_);obtain rfl:ae=vI (yR s.1.z):=aj;have an:=yX s.1.z;refine gc3 (λac=>?_) λac=>?_
 ·
  refine qM ?_;refine lX (xB yE (Pc.fst (Pc.ty pH)) G) λaq ai=>(cL (ev1 I) call48 (λw hs=>uD hs ai oM) λad h2 ap ah=>?_);obtain rfl:ad=vI (yR s.1.y):=ah;have am:=yX s.1.y;refine gc3 (λab=>?_) λab=>?_
  ·
   refine uV ?_;refine lX (xB yE (Pc.fst (Pc.tx pH)) G) λaa J=>(cL (ev1 I) call48 (λw hs=>uD hs J oM) λD h3 ao H=>?_);obtain rfl:D=vI (yR s.1.x):=H;have M:=yX s.1.x;refine gc3 (λC=>?_) λC=>?_
   ·
    refine yCK ?_;refine uN I I I I ?_;have Z:axI s.1=2:=by unfold axI;simp only[uS,jQ] at *;grind
    have U:axJ s.1=1:=by unfold axJ;simp only[uS,jQ] at *;grind
    have O:axK s.1=0:=by unfold axK;simp only[uS,jQ] at *;grind
    rw[Z,U,O];rfl
   refine sO ?_;refine uN I I I I ?_;have Z:axI s.1=1:=by unfold axI;simp only[uS,jQ] at *;grind
   have U:axJ s.1=2:=by unfold axJ;simp only[uS,jQ] at *;grind
   have O:axK s.1=0:=by unfold axK;simp only[uS,jQ] at *;grind
   rw[Z,U,O];rfl
  refine go8 ?_;refine lX (xB yE (Pc.fst (Pc.ty pH)) G) λaa J=>(cL (ev1 I) call48 (λw hs=>uD hs J oM) λD h3 ao H=>?_);obtain rfl:D=vI (yR s.1.y):=H;have M:=yX s.1.y;refine gc3 (λC=>?_) λC=>?_
  ·
   refine yCK ?_;refine uN I I I I ?_;have Z:axI s.1=0:=by unfold axI;simp only[uS,jQ] at *;grind
   have U:axJ s.1=2:=by unfold axJ;simp only[uS,jQ] at *;grind
   have O:axK s.1=1:=by unfold axK;simp only[uS,jQ] at *;grind
   rw[Z,U,O];rfl
  refine sO ?_;refine uN I I I I ?_;have Z:axI s.1=2:=by unfold axI;simp only[uS,jQ] at *;grind
  have U:axJ s.1=0:=by unfold axJ;simp only[uS,jQ] at *;grind
  have O:axK s.1=1:=by unfold axK;simp only[uS,jQ] at *;grind
  rw[Z,U,O];rfl
 refine go8 ?_;refine lX (xB yE (Pc.fst (Pc.tz pH)) G) λaa J=>(cL (ev1 I) call48 (λw hs=>uD hs J oM) λD h2 ap H=>?_);obtain rfl:D=vI (yR s.1.z):=H;have M:=yX s.1.z;refine gc3 (λC=>?_) λC=>?_
 ·
  refine yCK ?_;refine uN I I I I ?_;have Z:axI s.1=1:=by unfold axI;simp only[uS,jQ] at *;grind
  have U:axJ s.1=0:=by unfold axJ;simp only[uS,jQ] at *;grind
  have O:axK s.1=2:=by unfold axK;simp only[uS,jQ] at *;grind
  rw[Z,U,O];rfl
 refine sO ?_;refine uN I I I I ?_;have Z:axI s.1=0:=by unfold axI;simp only[uS,jQ] at *;grind
 have U:axJ s.1=1:=by unfold axJ;simp only[uS,jQ] at *;grind
 have O:axK s.1=2:=by unfold axK;simp only[uS,jQ] at *;grind
 rw[Z,U,O];rfl
theorem zBG{m l k:Nat}{vs:Value}{s:Pq}(rs:(tPl m l).Is h0 vs s){vp:Value}{p:Tq}(rp:(tPt k).Is h0 vp p)(hcd0:k<=1000000000)(hcd1:m<=1000000000):
 Calls Tryz.prog 112 #[vs,vp] w0 (Ret w0 h0 (λh r=>(tPt (k+1)).Is h r (qJ s p))):=by
 refine cb2 21 vs vp func112 hs ?_;refine go2 ?_;refine nB rs λb2 ao O=>(nB rp λJ an H=>(nA (ρ:=(tPt (k+1))) (X:=zT) yM (xO (yI oM)) λb4 am M=>(go4 ?_)));refine lX (xB bG pH O) λv9 r9=>(cL (ev1 I) call152 (λw hs=>zTI hs r9 oM) λaj h1 ak ab=>?_);obtain rfl:=ab;refine uG ?_;refine zK 7 _ [] [(0,.q),(1,.q),(2,.q),(3,.q),(4,.q),(5,.q),(6,.q),(7,.t)] yA nX zou nX (λr hr=>hr) (go1 ?_);refine wI I (λ_ _=>(yG (sz:=3) (axI s.1) underlying31 sizeOf29 I I zo3 (by exact zZ2 _)).cv (show _=vP J (((axI s.1)*3+0)) from congrArg (vP J) oM)) I (wX I (xB yE (Pc.ta pH (axI s.1) (by exact zZ2 _)) H) λai aa=>(go1 ?_));refine wI I (λ_ _=>(yG (sz:=3) (axJ s.1) underlying31 sizeOf29 I I zo3 (by exact zZ1 _)).cv (show _=vP J (((axJ s.1)*3+0)) from congrArg (vP J) oM)) I (wX I (xB yE (Pc.ta pH (axJ s.1) (by exact zZ1 _)) H) λah Z=>(wX I (xV (ρ:=(tPt (k+1))) (wB (ps':=[(0,_),(1,_)]) underlying31 yM I I sizeOf29 e4z I (xO (yI oM)) (zD I (Pc.tx (Pc.here _)) (aa.le (Le.q (l:=k+1) oM)) (zD I (Pc.ty (Pc.here _)) (Z.le (Le.q (l:=k+1) oM)) zO)))) λae U=>(yK (A:=[]) I (uB sizeOf31 pH M U) λac G=>(go3 ?_))));refine wT (kJ (t:=4) zM mh0 I G) ?_;intro ad C D;refine yV (λE S=>zV I C E S) ?_;exact D
theorem zTJ{m l k:Nat}{vs:Value}{s:Pq}(rs:(tPl m l).Is h0 vs s){vp:Value}{p:Tq}(rp:(tPt k).Is h0 vp p)(hcd0:k<=1000000)(hcd1:l<=1000000)(hcd2:m<=1000000):
 Calls Tryz.prog 23 #[vs,vp] w0 (Ret w0 h0 (λ_ r=>r=vI (yR (xH s.1 p-s.2)))):=by
 refine cb2 13 vs vp func23 hs ?_;refine go2 ?_;refine nB rs λb2 ah D=>(nB rp λb3 ae H=>(go4 ?_));refine zK 9 _ [] [(0,.q),(1,.q),(2,.q),(4,.q),(5,.q),(3,.c),(6,.c),(7,.c),(8,.q)] yA nX zou nX (λr hr=>hr) (go1 ?_);refine wX I (xB zM (Pc.fst pH) D) λv6 r6=>(wX I (xB zM pH H) λv7 r7=>(go1 ?_));refine wX I (xB yE (Pc.snd pH) D) λaa O=>?_;refine w_c I (sC (ev2 I I) call56 (λw hs=>cE hs r6 r7 oM) λv8 h1 ad J=>?_);replace J:=Rp.Is.le J (Le.q (l:=3*k+3*m+9) oM);refine w_c I (sC (ev2 I I) call55 (λw hs=>gZ hs J O.up oM) λZ h2 ac C=>?_);replace C:=Rp.Is.le C (Le.q (l:=3*k+l+3*m+10) oM);refine w_c I (sC (ev1 I) call48 (λw hs=>uD hs C oM) λG h3 ab M=>?_);obtain rfl:G=vI (yR ((xH s.1 p)-s.2)):=M;have U:=yX ((xH s.1 p)-s.2);refine go4 ?_;refine zC I I ?_
 rfl
end
end Go.Proofs.YtpkaegemlpaenaaGreat
namespace Bk
open Classical
def lpP(x:List Int):Prop:=(3<=x.length/\x.length<=64)/\∀i,i<x.length->(0<=(x.getD i 0)/\(x.getD i 0)<512)/\∀k,k<i->¬(x.getD i 0)=(x.getD k 0)
def vfP(L:List (List Int)):Prop:=(1<=L.length/\L.length<=16)/\∀l,l<L.length->lpP ((L.getD l []))
def vaP(F:List (List (List Int))):Prop:=F.length<=256/\∀f,f<F.length->vfP ((F.getD f []))
abbrev E5:=Int×Int×Int×Int×Int
def edX(x:List Int)(f l:Nat):Nat->List E5:=uZ λi=>((x.getD i 0),(x.getD ((i+1)%x.length) 0),(f:Int),(l:Int),(i:Int))
def edL(L:List (List Int))(f:Nat):Nat->List E5:=tS λl=>edX ((L.getD l [])) f l ((L.getD l [])).length
def edF(F:List (List (List Int))):Nat->List E5:=tS λf=>edL ((F.getD f [])) f ((F.getD f [])).length
def edZ(F:List (List (List Int))):List E5:=edF F F.length
abbrev e0:E5:=((0:Int),(0:Int),(0:Int),(0:Int),(0:Int))
def yCY(e:E5)(a b:Int):Prop:=e.1=a/\e.2.1=b
noncomputable def zAT(E:List E5)(a b:Int):Nat->Int
  |0=>0
  |m+1=>if yCY ((E.getD m ((0:Int),(0:Int),(0:Int),(0:Int),(0:Int)))) a b then zAT E a b m+1 else zAT E a b m
theorem zAS(E:List E5)(a b:Int):∀m,0<=zAT E a b m/\zAT E a b m<=m
  |0=>by unfold zAT;omega
  |m+1=>by
   have h:=zAS E a b m;unfold zAT
   split<;>omega
theorem tm_t{E:List E5}{a b:Int}{m:Nat}(h:yCY ((E.getD m ((0:Int),(0:Int),(0:Int),(0:Int),(0:Int)))) a b):zAT E a b m+1=zAT E a b (m+1):=(if_pos h).symm
theorem tm_f{E:List E5}{a b:Int}{m:Nat}(h:¬yCY ((E.getD m ((0:Int),(0:Int),(0:Int),(0:Int),(0:Int)))) a b):zAT E a b m=zAT E a b (m+1):=(if_neg h).symm
noncomputable def tmZ(E:List E5)(a b:Int):Int:=zAT E a b E.length
def yK7(E:List E5)(i:Nat):Prop:=tmZ E ((E.getD i ((0:Int),(0:Int),(0:Int),(0:Int),(0:Int)))).2.1 ((E.getD i ((0:Int),(0:Int),(0:Int),(0:Int),(0:Int)))).1<tmZ E ((E.getD i ((0:Int),(0:Int),(0:Int),(0:Int),(0:Int)))).1 ((E.getD i ((0:Int),(0:Int),(0:Int),(0:Int),(0:Int)))).2.1
noncomputable def yIS(E:List E5):Nat->List E5:=cM (yK7 E) λi=>((30:Int),(-1:Int),((E.getD i ((0:Int),(0:Int),(0:Int),(0:Int),(0:Int)))).2.2.1,((E.getD i ((0:Int),(0:Int),(0:Int),(0:Int),(0:Int)))).2.2.2.1,((E.getD i ((0:Int),(0:Int),(0:Int),(0:Int),(0:Int)))).2.2.2.2)
noncomputable def clZ(F:List (List (List Int))):List E5:=if vaP F then yIS (edZ F) (edZ F).length else[((1:Int),(-1:Int),(-1:Int),(-1:Int),(-1:Int))]
theorem zNM(x:List Int)(f l m:Nat):(edX x f l m).length=m:=yY _ _
theorem zG3{L:List (List Int)}(h:∀l,l<L.length->((L.getD l [])).length<=64)(f:Nat):∀m,m<=L.length->(edL L f m).length<=64*m
  |0,_=>Nat.le_refl _
  |m+1,hm=>by
   have h1:=zG3 h f m zot;have h2:=h m zot
   show List.length (edL L f m++edX (L.getD m []) f m (L.getD m []).length)<=_
   rw[lAz,zNM];omega
theorem zB1{F:List (List (List Int))}(h:∀f,f<F.length->((F.getD f [])).length<=16/\∀l,l<((F.getD f [])).length->((((F.getD f [])).getD l [])).length<=64):∀m,m<=F.length->(edF F m).length<=1024*m
  |0,_=>Nat.le_refl _
  |m+1,hm=>by
   have h1:=zB1 h m zot;have h2:=h m zot;have h3:=zG3 h2.2 m _ (Nat.le_refl _)
   show List.length (edF F m++edL (F.getD m []) m (F.getD m []).length)<=_
   rw[lAz];omega
end Bk
namespace Bk
open Go Go.RowKit
def yLT(w0:World)(h0:Mem)(h:Mem)(L:List Res)(G:Mem->Value->Res->Res->Prop):Ending->World->Prop:=
 fW w0 h0 (λg v K=>∃q' o,(o::q'::L).Sublist K/\MLe h g/\G g v q' o)
section
variable {P:Program}{n:Nat}{w0:World}{h0:Mem}{e:List (Nat×Value)}{L:List Res}{h:Mem}{Q:Exit->Act->World->Prop}
variable {ty:TypeId}{ps:String}{af:Array Edge}
end
end Bk
namespace Go.Proofs.YtpkaegemlpaenaaGreat
open Bk Go Tryz
set_option maxRecDepth 10000
set_option maxHeartbeats 1000000
attribute [local irreducible] GL GC GQ W OpV
section
variable{w0:World}{h0:Mem}(hs:MLe h0 (mem w0))
include hs
theorem iK{vL:Value}{L:(List (List Int))}(rL:tII.Is h0 vL L):
 Calls Tryz.prog 178 #[vL] w0 (Ret w0 h0 (λ_ r=>r=vB (vfP L))):=by
 refine cb1 65 vL func178 hs ?_;refine qM ?_;refine gU 5 14 (vB (((↑(L).length:Int)<(1:Int))\/((16:Int)<(↑(L).length:Int)))) ?_ ?_
 ·
  refine zY ((↑(L).length:Int)<(1:Int)) (λC=>?_) (λC=>?_)
  ·
   refine gT C I (go5 ?_);refine gqU ?_;exact congrArg some (vD C)
  refine gF C I (go8 ?_);refine gqU ?_;exact congrArg some (vG C)
 refine gc2 (λah=>?_) λah=>?_
 ·
  refine go7 ?_;refine zC I I ?_;exact(yH (λe=>by have:=e.1;omega)).symm
 refine go9 ?_;refine gcL (ι:=Nat×Mem) (λ(l,O)=>(MLe h0 O/\(l<=L.length/\∀u,u<l->lpP (L.getD u [])),[(0,vL),(3,vI ↑l)],[],O,L.length-l)) (0,h0) ?_ ?_
 · exact⟨mle,by omega,λu h=>by omega⟩
 rintro⟨l,O⟩ ⟨ba,bo,U⟩
 refine yW ?_;refine gc9 (λae=>?_) λae=>?_
 ·
  refine go8 ?_;refine lX (xI [] l underlying51 fK rL) λbn ar=>(lX (xA fK ar) λJ G=>(go9 ?_));refine gU 5 32 (vB (((↑((L.getD l [])).length:Int)<(3:Int))\/((64:Int)<(↑((L.getD l [])).length:Int)))) ?_ ?_
  ·
   refine zY ((↑((L.getD l [])).length:Int)<(3:Int)) (λC=>?_) (λC=>?_)
   ·
    refine gT C I (go5 ?_);refine gqU ?_;exact congrArg some (vD C)
   refine gF C I (go8 ?_);refine gqU ?_;exact congrArg some (vG C)
  refine gc2 (λad=>?_) λad=>?_
  ·
   refine uV ?_;refine zC I I ?_;exact(yH (λe=>by have:=(e.2 l oM).1;omega)).symm
  refine go8 ?_;refine gcL (ι:=Nat×Mem) (λ(i,H)=>(MLe O H/\(i<=(L.getD l []).length/\∀u,u<i->(0<=(L.getD l []).getD u 0/\(L.getD l []).getD u 0<512)/\∀k,k<u->¬(L.getD l []).getD u 0=(L.getD l []).getD k 0),[(0,vL),(3,vI ↑l),(4,J),(5,vI ↑i)],[],H,(L.getD l []).length-i)) (0,O) ?_ ?_
  · exact⟨mle,by omega,λu h=>by omega⟩
  rintro⟨i,H⟩ ⟨az,bq,hi2⟩
  refine yW ?_;refine gc9 (λac=>?_) λac=>?_
  ·
   refine go9 ?_;refine lX (xI (0:Int) i underlying22 ty3 G) λbm aq=>(lX (xA ty3 aq) λbl ap=>?_);obtain⟨rfl,be,ax⟩:=kS ap;refine go1 ?_;refine gU 7 50 (vB ((((L.getD l []).getD i (0:Int))<(0:Int))\/((512:Int)<=((L.getD l []).getD i (0:Int))))) ?_ ?_
   ·
    refine zY (((L.getD l []).getD i (0:Int))<(0:Int)) (λC=>?_) (λC=>?_)
    ·
     refine gT C I (go7 ?_);refine gqU ?_;exact congrArg some (vD C)
    refine gF C I (go5 ?_);refine lX (xI (0:Int) i underlying22 ty3 G) λbk ao=>(go1 ?_);refine lX (xA ty3 ao) λbj an=>?_;obtain⟨rfl,bd,aw⟩:=kS an;refine go4 ?_;refine gqU ?_;exact congrArg some (vG C)
   refine gc2 (λab=>?_) λab=>?_
   ·
    refine zAG ?_;refine zC I I ?_;exact(yH (λe=>by have:=((e.2 l oM).2 i oM).1;omega)).symm
   refine go8 ?_;refine gcL (ι:=Nat×Mem) (λ(k,M)=>(MLe H M/\(k<=i/\∀v,v<k->¬(L.getD l []).getD i 0=(L.getD l []).getD v 0),[(0,vL),(3,vI ↑l),(4,J),(5,vI ↑i),(6,vI ↑k)],[],M,i-k)) (0,H) ?_ ?_
   · exact⟨mle,by omega,λu h=>by omega⟩
   rintro⟨k,M⟩ ⟨ay,bp,Z⟩
   refine yW ?_;refine gc8 (λaa=>?_) λaa=>?_
   ·
    refine go5 ?_;refine zK 9 _ [] [(0,.q),(1,.q),(2,.q),(3,.q),(4,.q),(5,.q),(6,.q),(7,.q),(8,.q)] yA nX zou nX (λr hr=>hr) (go2 ?_);refine wX I (xI (0:Int) i underlying22 ty3 G) λbi am=>(wX I (xA ty3 am) λbh ak=>?_);obtain⟨rfl,bc,av⟩:=kS ak;refine go2 ?_;refine wX I (xI (0:Int) k underlying22 ty3 G) λbg aj=>(wX I (xA ty3 aj) λbf ai=>?_);obtain⟨rfl,bb,au⟩:=kS ai;refine gc3 (λD=>?_) λD=>?_
    ·
     refine zYO ?_;refine zC I I ?_;exact(yH (λe=>((e.2 l oM).2 i oM).2 k oM D)).symm
    refine go8 ?_;refine gqL ((k+1),M) ?_ ?_
    · exact⟨mle,by omega,wQ (Q:=λv=>¬(L.getD l []).getD i 0=(L.getD l []).getD v 0) Z D⟩
    omega
   refine qM ?_;refine gqL ((i+1),M) ?_ ?_
   · exact⟨mle,by omega,wQ (Q:=λu=>(0<=(L.getD l []).getD u 0/\(L.getD l []).getD u 0<512)/\∀k,k<u->¬(L.getD l []).getD u 0=(L.getD l []).getD k 0) hi2 ⟨by omega,λk hk=>Z k oM⟩⟩
   omega
  refine qM ?_;refine gqL ((l+1),H) ?_ ?_
  · exact⟨mle,by omega,wQ (Q:=λu=>lpP (L.getD u [])) U ⟨by omega,λu hu=>hi2 u oM⟩⟩
  omega
 refine qM ?_;refine zC I I ?_;exact(xM ⟨by omega,λu hu=>U u oM⟩).symm
theorem zPE{vF:Value}{F:(List (List (List Int)))}(rF:(rpS tII).Is h0 vF F):
 Calls Tryz.prog 180 #[vF] w0 (Ret w0 h0 (λ_ r=>r=vB (vaP F))):=by
 refine cb1 19 vF func180 hs ?_;refine sO ?_;refine cnd (λZ=>?_) λZ=>?_
 ·
  refine go7 ?_;refine zC I I ?_;exact(yH (λe=>by have:=e.1;omega)).symm
 refine go9 ?_;refine gcL (ι:=Nat×Mem) (λ(f,U)=>(MLe h0 U/\(f<=F.length/\∀u,u<f->vfP (F.getD u [])),[(0,vF),(3,vI ↑f)],[],U,F.length-f)) (0,h0) ?_ ?_
 · exact⟨mle,by omega,λu h=>by omega⟩
 rintro⟨f,U⟩ ⟨aa,ae,D⟩
 refine yW ?_;refine gc9 (λG=>?_) λG=>?_
 ·
  refine go8 ?_;refine lX (xI [] f underlying165 pW rF) λac O=>(lX (xA pW O) λab M=>(cL (ev1 I) call178 (λw hs=>iK hs M) λH h1 ad J=>?_));obtain rfl:H=vB (vfP (F.getD f [])):=J;refine gc3 (λC=>?_) λC=>?_
  ·
   refine qM ?_;refine zC I I ?_;exact(yH (λe=>C (e.2 f oM))).symm
  refine go8 ?_;refine gqL ((f+1),h1) ?_ ?_
  · exact⟨mle,by omega,wQ (Q:=λu=>vfP (F.getD u [])) D (Classical.not_not.1 C)⟩
  omega
 refine qM ?_;refine zC I I ?_;exact(xM ⟨by omega,λu hu=>D u oM⟩).symm
theorem zF0{vF:Value}{F:(List (List (List Int)))}(rF:(rpS tII).Is h0 vF F)(hcd0:F.length<=1000)(hcd1:∀f,f<F.length->(F.getD f []).length<=16/\∀l,l<(F.getD f []).length->((F.getD f []).getD l []).length<=64):
 Calls Tryz.prog 135 #[vF] w0 (Ret w0 h0 (λh r=>(rpS tE5).Is h r (edZ F))):=by
 refine cb1 56 vF func135 hs ?_;refine nR ?_;refine xG 168 5 ?_;have ae:=RL.nil (ρ:=rpP rpI (rpP rpI (rpP rpI (rpP rpI rpI)))) (h:=h0);refine gcL (ι:=Nat×List (Int×Int×Int×Int×Int)×Value×List Value×Mem) (λ(f,D0,H,M,ma)=>(MLe h0 ma/\(RL tE5 ma M D0/\f<=F.length/\D0=edF F f),[(0,vF),(3,H),(4,vI ↑f)],[.gs 168 5 H D0.length M],ma,F.length-f)) (0,[],(.slice none 0 0),[],h0) ?_ ?_
 · exact⟨mle,ae,by omega,I⟩
 rintro⟨f,D0,H,M,ma⟩ ⟨bi,Z,cj,ao⟩
 refine yW ?_;refine gc9 (λam=>?_) λam=>?_
 ·
  refine uG ?_;refine gcL (ι:=Nat×List (Int×Int×Int×Int×Int)×Value×List Value×Mem) (λ(l,D1,C,D,mb)=>(MLe ma mb/\(RL tE5 mb D D1/\l<=(F.getD f []).length/\D1=edF F f++edL (F.getD f []) f l),[(0,vF),(3,C),(4,vI ↑f),(5,vI ↑l)],[.gs 168 5 C D1.length D],mb,(F.getD f []).length-l)) (0,D0,H,M,ma) ?_ ?_
  · exact⟨mle,Z,by omega,by rw[ao];exact(List.append_nil _).symm⟩
  rintro⟨l,D1,C,D,mb⟩ ⟨bh,U,ch,an⟩
  refine yW ?_;refine go6 ?_;refine lX (xI [] f underlying165 pW rF) λbw bc=>(lX (xA pW bc) λbv bx=>(gc4 (λak=>?_) λak=>?_))
  ·
   refine go8 ?_;refine lX (xI [] f underlying165 pW rF) λbu bb=>(lX (xA pW bb) λbt ba=>(go1 ?_));refine lX (xI [] l underlying51 fK ba) λbs az=>(lX (xA fK az) λar ac=>(go9 ?_));refine gcL (ι:=Nat×List (Int×Int×Int×Int×Int)×Value×List Value×Mem) (λ(i,D2,G,J,mc)=>(MLe mb mc/\(RL tE5 mc J D2/\i<=((F.getD f []).getD l []).length/\D2=edF F f++edL (F.getD f []) f l++edX ((F.getD f []).getD l []) f l i),[(0,vF),(3,G),(4,vI ↑f),(5,vI ↑l),(6,ar),(7,vI ↑i)],[.gs 168 5 G D2.length J],mc,((F.getD f []).getD l []).length-i)) (0,D1,C,D,mb) ?_ ?_
   · exact⟨mle,U,by omega,by rw[an];exact(List.append_nil _).symm⟩
   rintro⟨i,D2,G,J,mc⟩ ⟨bg,O,ci,ad⟩
   refine yW ?_;have cg:=zB1 hcd1 f oM;have cf:=(hcd1 f oM).1;have ce:=zG3 (hcd1 f oM).2 f l oM;have cd:=(hcd1 f oM).2 l oM;have cc:=zNM ((F.getD f []).getD l []) f l i;have cb:D2.length<=1100000:=by rw[ad,lAz,lAz];omega
   refine gc9 (λaj=>?_) λaj=>?_
   ·
    refine go4 ?_;refine qG (A:=[]) 20 [] [(0,.q),(1,.q),(2,.q),(3,.q),(4,.q),(5,.q),(6,.q),(7,.q),(8,.q),(9,.q),(10,.q),(11,.q),(12,.q),(13,.q),(14,.q),(15,.q),(16,.q),(17,.c),(18,.c),(19,.q)] yA nX (wJ zou) nX (go3 ?_);refine wX I (xI (0:Int) i underlying22 ty3 ac) λbr ay=>(wX I (xA ty3 ay) λbq ax=>?_);obtain⟨rfl,bk,bf⟩:=kS ax;refine go4 ?_;refine w_q I (λh' L' hh hR=>uY underlying22 I (ac.up.mono hh)) I (wI I (λ_ _=>wC I I oM oM) I (wX I (xI (0:Int) ((i+1)%((F.getD f []).getD l []).length) underlying22 ty3 ac (hi:=by exact Nat.mod_lt _ oM)) λbp aw=>(wX I (xA ty3 aw) λbo av=>?_)));obtain⟨rfl,bj,be⟩:=kS av;refine go3 ?_;refine wX I (xV (ρ:=tE5) (xZ (ps':=[(0,_),(1,_),(2,_),(3,_),(4,_)]) underlying168 zER I I (zS4 underlying168) e10 I (yC wL (yC wL (yC wL (yC wL wL)))) (zD I (Pc.fst (Pc.here _)) (wH oM oM) (zD I (Pc.snd (Pc.fst (Pc.here _))) (wH oM oM) (zD I (Pc.snd (Pc.snd (Pc.fst (Pc.here _)))) (wH oM oM) (zD I (Pc.snd (Pc.snd (Pc.snd (Pc.fst (Pc.here _))))) (wH oM oM) (zD I (Pc.snd (Pc.snd (Pc.snd (Pc.snd (Pc.here _))))) (wH oM oM) zO))))))) λbn au=>?_;refine w_c I (jN (λX=>zL (ρ:=tE5) (m:=1) (xs:=[((((F.getD f []).getD l []).getD i (0:Int)),((((F.getD f []).getD l []).getD ((i+1)%((F.getD f []).getD l []).length) (0:Int)),((↑f:Int),((↑l:Int),(↑i:Int)))))]) (ps':=[(0,_)]) underlying163 zER I I I (yC wL (yC wL (yC wL (yC wL wL)))) e2z (zD I (Pc.arr (Pc.here _) e50 0 dC) au zO) zoi nP) I ?_)
    rintro bm ca ⟨bl,rfl,ai⟩
    refine w_c I (xS (A:=[]) (ρ:=tE5) ai dK ?_);intro h1 bd ab;refine fF (A:=[]) (λX=>zU (ρ:=tE5) (bytes:=40) underlying163 zER I I I I nP I I O.up ab bO bO) I (xJ zoy) ?_
    rintro aq bz ⟨ap,rfl,ah⟩
    refine go9 ?_;refine gqL ((i+1),(D2++[((((F.getD f []).getD l []).getD i (0:Int)),((((F.getD f []).getD l []).getD ((i+1)%((F.getD f []).getD l []).length) (0:Int)),((↑f:Int),((↑l:Int),(↑i:Int)))))]),aq,ap,h1) ?_ ?_
    · exact⟨mle,ah,by omega,by rw[ad,List.append_assoc];rfl⟩
    omega
   have ei:i=((F.getD f []).getD l []).length:=by omega
   refine qM ?_;refine gqL ((l+1),D2,G,J,mc) ?_ ?_
   · exact⟨mle,O.up,by omega,by rw[ad,ei,List.append_assoc];rfl⟩
   omega
  have el:l=(F.getD f []).length:=by omega
  refine qM ?_;refine gqL ((f+1),D1,C,D,mb) ?_ ?_
  · exact⟨mle,U,by omega,by rw[an,el];rfl⟩
  omega
 have ef:f=F.length:=by omega
 refine uV ?_;refine wS (A:=[]) (ρ:=tE5) Z ?_;intro h1 bd aa;refine zC I I ?_;exact(Rp.Is.cast aa (by rw[ao,ef];rfl))
theorem zFZ{vE:Value}{E:(List (Int×(Int×(Int×(Int×Int)))))}(rE:(rpS tE5).Is h0 vE E){a:Int}(ha1:-9223372036854775808<=a)(ha2:a<9223372036854775808){b:Int}(hb1:-9223372036854775808<=b)(hb2:b<9223372036854775808)(hcd0:E.length<=1000000):
 Calls Tryz.prog 181 #[vE,vI a,vI b] w0 (Ret w0 h0 (λ_ r=>r=vI (tmZ E a b))):=by
 refine cb3 34 vE (vI a) (vI b) func181 hs ?_;refine nR ?_;refine gcL (ι:=Nat×Mem) (λ(m,D)=>(MLe h0 D/\(m<=E.length),[(0,vE),(1,vI a),(2,vI b),(7,vI (zAT E a b m)),(8,vI ↑m)],[],D,E.length-m)) (0,h0) ?_ ?_
 · exact⟨mle,oM⟩
 rintro⟨m,D⟩ ⟨ae,G⟩
 refine yW ?_;have ar:=G;have aq:=zAS E a b m;refine gc9 (λJ=>?_) λJ=>?_
 ·
  refine go8 ?_;refine lX (xI e50 m underlying163 w4 rE) λap ab=>(lX (xF underlying168 sizeOf3 (Pc.fst pH) ab) λao aa=>(lX (xA ty3 aa) λan Z=>?_));obtain⟨rfl,ai,ad⟩:=kS Z;refine go2 ?_;refine gU 9 30 (vB ((((E.getD m e50).1)=a)/\((((E.getD m e50).2).1)=b))) ?_ ?_
  ·
   refine zY (((E.getD m e50).1)=a) (λH=>?_) (λH=>?_)
   ·
    refine gT H I (go5 ?_);refine lX (xI e50 m underlying163 w4 rE) λam U=>(go1 ?_);refine lX (xF underlying168 sizeOf3 (Pc.snd (Pc.fst pH)) U) λak O=>(go1 ?_);refine lX (xA ty3 O) λaj M=>?_;obtain⟨rfl,ah,ac⟩:=kS M;refine go6 ?_;refine gqU ?_;exact congrArg some (xD H)
   refine gF H I (go9 ?_);refine gqU ?_;exact congrArg some (xE H)
  refine gc2 (λC=>?_) λC=>?_
  ·
   refine uV ?_;refine gqL ((m+1),D) ?_ ?_ (he:=⟨I,I,I,congrArg (λz=>some (vI z)) (tm_t C),I,trivial⟩)
   · exact⟨mle,oM⟩
   omega
  refine go8 ?_;refine gqL ((m+1),D) ?_ ?_ (he:=⟨I,I,I,congrArg (λz=>some (vI z)) (tm_f C),I,trivial⟩)
  · exact⟨mle,oM⟩
  omega
 refine uV ?_;refine zC I I ?_;have em:m=E.length:=by omega
 subst em
 rfl
theorem zMI{vF:Value}{F:(List (List (List Int)))}(rF:(rpS tII).Is h0 vF F):
 Calls Tryz.prog 145 #[vF] w0 (Ret w0 h0 (λh r=>(rpS tE5).Is h r (clZ F))):=by
 refine cb1 64 vF func145 hs ?_;refine go9 ?_;refine cL (ev1 I) call180 (λw hs=>zPE hs rF) λv7 h1 dw r7=>?_;obtain rfl:v7=vB (vaP F):=r7;refine gc3 (λac=>?_) λac=>?_
 ·
  refine go2 ?_;refine lX (xV (ρ:=tE5) (xZ (ps':=[(0,_),(1,_),(2,_),(3,_),(4,_)]) underlying200 jR I I (zCM underlying200) e10 I (yC wL (yC wL (yC wL (yC wL wL)))) (zD I (Pc.fst (Pc.here _)) (wH dC dC) (zD I (Pc.snd (Pc.fst (Pc.here _))) (wH dC dC) (zD I (Pc.snd (Pc.snd (Pc.fst (Pc.here _)))) (wH dC dC) (zD I (Pc.snd (Pc.snd (Pc.snd (Pc.fst (Pc.here _))))) (wH dC dC) (zD I (Pc.snd (Pc.snd (Pc.snd (Pc.snd (Pc.here _))))) (wH dC dC) zO))))))) λv9 r9=>(zG (zL (ρ:=tE5) (m:=1) (xs:=[((1:Int),((-1:Int),((-1:Int),((-1:Int),(-1:Int)))))]) (ps':=[(0,_)]) underlying133 jR I I I (yC wL (yC wL (yC wL (yC wL wL)))) e2z (zD I (Pc.arr (Pc.here _) e50 0 dC) r9 zO) zoi nP) I I I ?_)
  rintro dn dr ⟨cl,rfl,ai⟩
  refine go5 ?_;refine wS (A:=[]) (ρ:=tE5) ai ?_;intro h2 bt aa;refine zC I I ?_;exact(Rp.Is.cast aa (by exact(if_neg ac).symm))
 refine uG ?_;have O:vaP F:=Classical.not_not.1 ac;have ad:∀f,f<F.length->(F.getD f []).length<=16/\∀l,l<(F.getD f []).length->((F.getD f []).getD l []).length<=64:=λf hf=>⟨(O.2 f hf).1.2,λl hl=>((O.2 f hf).2 l hl).1.2⟩;have dz:F.length<=256:=O.1;have dy:=zB1 ad F.length (Nat.le_refl _);have dx:(edZ F).length<=262144:=by show(edF F F.length).length<=_;omega
 refine cL (ev1 I) call135 (λw hs=>zF0 hs rF.up (by first|omega|exact ad) (by first|omega|exact ad)) λap h2 bt G=>(uG ?_);refine xG 200 5 ?_;have ab:=RL.nil (ρ:=rpP rpI (rpP rpI (rpP rpI (rpP rpI rpI)))) (h:=h2);refine gcL (ι:=Nat×List (Int×Int×Int×Int×Int)×Value×List Value×Mem) (λ(i,D,C,H,ma)=>(MLe h2 ma/\(RL tE5 ma H D/\i<=(edZ F).length/\D=yIS (edZ F) i),[(3,C),(4,ap),(5,vI ↑i)],[.gs 200 5 C D.length H],ma,(edZ F).length-i)) (0,[],(.slice none 0 0),[],h2) ?_ ?_
 · exact⟨mle,ab,by omega,I⟩
 rintro⟨i,D,C,H,ma⟩ ⟨cc,J,dt,hD⟩
 refine yW ?_;have ea:D.length<=i:=by rw[hD];exact pX _ _ i
 refine gc9 (λaj=>?_) λaj=>?_
 ·
  refine go5 ?_;refine zK 25 _ [] [(0,.q),(1,.q),(2,.q),(3,.q),(4,.q),(5,.q),(6,.q),(7,.q),(8,.q),(9,.q),(10,.q),(12,.q),(13,.q),(14,.q),(15,.q),(16,.q),(17,.q),(18,.q),(19,.q),(20,.q),(21,.q),(22,.q),(11,.c),(23,.c),(24,.q)] yA nX (wJ zou) nX (λr hr=>hr) (go3 ?_);refine wX I (xI e50 i underlying163 w4 G) λdm bp=>(wX I (xF underlying168 sizeOf3 (Pc.fst pH) bp) λdl bo=>(wX I (xA ty3 bo) λdk bn=>?_));obtain⟨rfl,cj,cb⟩:=kS bn;refine go2 ?_;refine wX I (xI e50 i underlying163 w4 G) λdj bm=>(wX I (xF underlying168 sizeOf3 (Pc.snd (Pc.fst pH)) bm) λdi bl=>(wX I (xA ty3 bl) λdh bk=>?_));obtain⟨rfl,ci,ca⟩:=kS bk;refine go3 ?_;refine wX I (xI e50 i underlying163 w4 G) λdf bi=>(wX I (xF underlying168 sizeOf3 (Pc.snd (Pc.fst pH)) bi) λde bh=>(wX I (xA ty3 bh) λdd bg=>?_));obtain⟨rfl,ch,bz⟩:=kS bg;refine go2 ?_;refine wX I (xI e50 i underlying163 w4 G) λdc bf=>(wX I (xF underlying168 sizeOf3 (Pc.fst pH) bf) λdb be=>(wX I (xA ty3 be) λda bd=>?_));obtain⟨rfl,cg,bx⟩:=kS bd;refine w_c I (sC (ev3 I I I) call181 (λw hs=>zFZ hs G.up oM oM oM oM oM) λao h3 bs bj=>?_);obtain rfl:ao=vI (tmZ (edZ F) (((edZ F).getD i e50).1) ((((edZ F).getD i e50).2).1)):=bj;have br:=zAS (edZ F) (((edZ F).getD i e50).1) ((((edZ F).getD i e50).2).1) (edZ F).length;refine w_c I (sC (ev3 I I I) call181 (λw hs=>zFZ hs G.up oM oM oM oM oM) λan h4 dv bc=>?_);obtain rfl:an=vI (tmZ (edZ F) ((((edZ F).getD i e50).2).1) (((edZ F).getD i e50).1)):=bc;have bq:=zAS (edZ F) ((((edZ F).getD i e50).2).1) (((edZ F).getD i e50).1) (edZ F).length;refine gc3 (λM=>?_) λM=>?_
  ·
   refine qG (A:=[]) 20 [] [(0,.q),(1,.q),(2,.q),(3,.q),(4,.q),(5,.q),(6,.q),(7,.q),(8,.q),(9,.q),(10,.q),(11,.q),(12,.q),(13,.q),(14,.q),(15,.q),(16,.q),(17,.c),(18,.c),(19,.q)] yA nX (wJ zou) nX (go3 ?_);refine wX I (xI e50 i underlying163 w4 G) λcz bb=>(wX I (xF underlying168 sizeOf3 (Pc.snd (Pc.snd (Pc.fst pH))) bb) λcy ba=>(wX I (xA ty3 ba) λcw az=>?_));obtain⟨rfl,cf,bw⟩:=kS az;refine go2 ?_;refine wX I (xI e50 i underlying163 w4 G) λcv ay=>(wX I (xF underlying168 sizeOf3 (Pc.snd (Pc.snd (Pc.snd (Pc.fst pH)))) ay) λcu ax=>(wX I (xA ty3 ax) λct aw=>?_));obtain⟨rfl,ce,bv⟩:=kS aw;refine go2 ?_;refine wX I (xI e50 i underlying163 w4 G) λcq av=>(wX I (xF underlying168 sizeOf3 (Pc.snd (Pc.snd (Pc.snd (Pc.snd pH)))) av) λcp au=>(wX I (xA ty3 au) λco ar=>?_));obtain⟨rfl,cd,bu⟩:=kS ar;refine wX I (xV (ρ:=tE5) (xZ (ps':=[(0,_),(1,_),(2,_),(3,_),(4,_)]) underlying200 jR I I (zCM underlying200) e10 I (yC wL (yC wL (yC wL (yC wL wL)))) (zD I (Pc.fst (Pc.here _)) (wH dC dC) (zD I (Pc.snd (Pc.fst (Pc.here _))) (wH dC dC) (zD I (Pc.snd (Pc.snd (Pc.fst (Pc.here _)))) (wH oM oM) (zD I (Pc.snd (Pc.snd (Pc.snd (Pc.fst (Pc.here _))))) (wH oM oM) (zD I (Pc.snd (Pc.snd (Pc.snd (Pc.snd (Pc.here _))))) (wH oM oM) zO))))))) λcn aq=>?_;refine w_c I (jN (λX=>zL (ρ:=tE5) (m:=1) (xs:=[((30:Int),((-1:Int),((((((edZ F).getD i e50).2).2).1),(((((((edZ F).getD i e50).2).2).2).1),((((((edZ F).getD i e50).2).2).2).2)))))]) (ps':=[(0,_)]) underlying133 jR I I I (yC wL (yC wL (yC wL (yC wL wL)))) e2z (zD I (Pc.arr (Pc.here _) e50 0 dC) aq zO) zoi nP) I ?_)
   rintro cm dq ⟨ck,rfl,ah⟩
   refine w_c I (xS (A:=[]) (ρ:=tE5) ah dK ?_);intro h5 du Z;refine fF (A:=[]) (λX=>zU (ρ:=tE5) (bytes:=40) underlying133 jR I I I I nP I I J.up Z bO bO) I (xJ zoy) ?_
   rintro am dp ⟨ak,rfl,ae⟩
   refine go9 ?_;refine gqL ((i+1),(D++[((30:Int),((-1:Int),((((((edZ F).getD i e50).2).2).1),(((((((edZ F).getD i e50).2).2).2).1),((((((edZ F).getD i e50).2).2).2).2)))))]),am,ak,h5) ?_ ?_
   · exact⟨mle,ae,by omega,by rw[hD];exact zA2 M⟩
   omega
  refine go8 ?_;refine gqL ((i+1),D,C,H,h4) ?_ ?_
  · exact⟨mle,J.up,by omega,by rw[hD];exact zA3 M⟩
  omega
 refine uV ?_;refine wS (A:=[]) (ρ:=tE5) J.up ?_;intro h3 bs U;refine zC I I ?_;exact(Rp.Is.cast U (by rw[hD,show i=(edZ F).length by omega];exact(if_pos O).symm))
end
end Go.Proofs.YtpkaegemlpaenaaGreat
namespace Bk
open Classical
def zH2(a b:Pt):Pt:=T3.mk (a.x+b.x) (a.y+b.y) (a.z+b.z)
def moved(l l':List Pt)(v:Pt):Prop:=l'.length=l.length/\∀q,q<l.length->gp l' q=zH2 (gp l q) v
def sh(a v:P2):P2:=(a.1+v.1,a.2+v.2)
def reved(l z:List Pt):Prop:=z.length=l.length/\∀q,q<l.length->gp z q=gp l (l.length-1-q)
def sN(n m:Nat):Nat:=if m+1=n then m else n-2-m
def movTo(l y:List Pt)(v:Pt)(m:Nat):Prop:=y.length=m/\∀q,q<m->gp y q=zH2 (gp l q) v
def revTo(l z:List Pt)(m:Nat):Prop:=z.length=m/\∀q,q<m->gp z q=gp l (l.length-1-q)
def hgt(pl:Pl)(p:Pt):Rat:=xH pl.1 p-pl.2
noncomputable def sdZ(pl:Pl)(p:Pt):Int:=yR (hgt pl p)
theorem bJ(pl:Pl)(p:Pt):-1<=sdZ pl p/\sdZ pl p<=1:=yX _
def lerp(t:Rat)(a b:Pt):Pt:=T3.mk (a.x+t*(b.x-a.x)) (a.y+t*(b.y-a.y)) (a.z+t*(b.z-a.z))
noncomputable def yLE(pl:Pl)(a b:Pt):Rat:=if hgt pl a-hgt pl b=0 then 0 else hgt pl a/(hgt pl a-hgt pl b)
noncomputable def btw(pl:Pl)(a b:Pt):Pt:=lerp (yLE pl a b) a b
abbrev nx(l:List Pt)(m:Nat):Pt:=gp l ((m+1)%l.length)
def xP(pl:Pl)(l:List Pt)(m:Nat):Prop:=sdZ pl (gp l m)*sdZ pl (nx l m)<0
noncomputable def yJC(pl:Pl)(l:List Pt):Nat->List Pt
  |0=>[]
  |m+1=>yJC pl l m++(if sdZ pl (gp l m)<=0 then[gp l m] else[])++(if xP pl l m then[btw pl (gp l m) (nx l m)] else[])
noncomputable def yH2(pl:Pl)(l:List Pt):Nat->List Pt
  |0=>[]
  |m+1=>yH2 pl l m++(if 0<=sdZ pl (gp l m) then[gp l m] else[])++(if xP pl l m then[btw pl (gp l m) (nx l m)] else[])
def yEC(pl:Pl)(l:List Pt):Nat->Prop
  |0=>False
  |m+1=>yEC pl l m\/sdZ pl (gp l m)<0
def zZ4(pl:Pl)(l:List Pt):Nat->Prop
  |0=>False
  |m+1=>zZ4 pl l m\/0<sdZ pl (gp l m)
noncomputable def cutB(pl:Pl)(l:List Pt):List Pt:=if yEC pl l l.length\/¬zZ4 pl l l.length then yJC pl l l.length else[]
noncomputable def cutF(pl:Pl)(l:List Pt):List Pt:=if zZ4 pl l l.length then yH2 pl l l.length else[]
section
variable {pl:Pl}{l B:List Pt}{m:Nat}
noncomputable def bkH(pl:Pl)(l:List Pt)(m:Nat):List Pt:=yJC pl l m++(if sdZ pl (gp l m)<=0 then[gp l m] else[])
noncomputable def frH(pl:Pl)(l:List Pt)(m:Nat):List Pt:=yH2 pl l m++(if 0<=sdZ pl (gp l m) then[gp l m] else[])
end
def cQ(l:List Pt):Prop:=aG l 0 1->¬uW l 0 1 l.length=0
theorem zC7{l:List Pt}(h:¬uW l 0 1 l.length=0):cQ l:=λ_=>h
abbrev PI:=Int×Int
def crI(u v w:PI):Int:=(v.1-u.1)*(w.2-u.2)-(v.2-u.2)*(w.1-u.1)
def sgI(n:Int):Int:=if 0<n then 1 else if n<0 then -1 else 0
def orI(u v w:PI):Int:=sgI (crI u v w)
def lxI(u v:PI):Bool:=decide (u.1<v.1\/(u.1=v.1/\u.2<v.2))
def apI(a b c d:Int):Bool:=decide ((a<c/\a<d/\b<c/\b<d)\/(c<a/\d<a/\c<b/\d<b))
def alS(a b c d:PI):Int:=
 if lxI (if lxI d b then d else b) (if lxI a c then c else a) then 0 else if lxI (if lxI a c then c else a) (if lxI d b then d else b) then 3
 else if((if lxI a c then c else a)=a\/(if lxI a c then c else a)=b)/\((if lxI a c then c else a)=c\/(if lxI a c then c else a)=d) then 1 else 2
def alI(a b c d:PI):Int:=alS (if lxI b a then b else a) (if lxI b a then a else b) (if lxI d c then d else c) (if lxI d c then c else d)
def toI(a b c d:PI):Int:=
 if apI a.1 b.1 c.1 d.1\/apI a.2 b.2 c.2 d.2 then 0
 else if orI a b c=0/\orI a b d=0/\orI c d a=0/\orI c d b=0 then alI a b c d
 else if 0<orI a b c*orI a b d\/0<orI c d a*orI c d b then 0
 else if(orI a b c=0\/orI a b d=0)/\(orI c d a=0\/orI c d b=0) then 1 else 2
def af(x y r:Int)(u:PI):P2:=(((x+r*u.1:Int):Rat),((y+r*u.2:Int):Rat))
def rg(k:Nat):PI:=([(2,0),(2,1),(1,2),(-1,2),(-2,0),(-2,-1),(0,-2),(1,-1)]:List PI).getD k (0,0)
def gi(s:List Nat)(m:Nat):PI:=rg (s.getD m 0)
def arI(s:List Nat):Nat->Int
  |0=>0
  |m+1=>arI s m+((gi s m).1*(gi s ((m+1)%s.length)).2-(gi s ((m+1)%s.length)).1*(gi s m).2)
def waI(n p q:Nat):Int:=if q=p+1\/(p=0/\q+1=n) then 1 else 0
def badI(s:List Nat):Bool:=(List.range s.length).any λq=>(List.range q).any λp=>!decide (toI (gi s p) (gi s ((p+1)%s.length)) (gi s q) (gi s ((q+1)%s.length))=waI s.length p q)
def okI(s:List Nat):Bool:=decide (s.length<3)||!decide (arI s s.length=0)||badI s
def swI:List Nat->List Nat
  |a::b::l=>b::a::l
  |l=>l
def yJZ:List Nat->List (List Nat)
  |[]=>[[]]
  |a::l=>yJZ l++(yJZ l).map (a::·)
def rp3(x y r:Int)(k:Nat):Pt:=T3.mk (((x+r*(rg k).1:Int)):Rat) (((y+r*(rg k).2:Int)):Rat) (0:Rat)
noncomputable def rgK(t:Prop)(i:Nat):Nat:=if t then 7-i else i
def rgF(x y r:Int)(t:Prop)(i:Nat)(l:List Pt):Prop:=∃s:List Nat,s.Sublist ((List.range i).map (rgK t))/\l=s.map (rp3 x y r)
def rvP(l0 l:List Pt)(i:Nat):Prop:=l.length=l0.length/\∀q,q<l0.length->gp l q=if q<i\/l0.length<=q+i then gp l0 (l0.length-1-q) else gp l0 q
theorem zZB{a b:List Pt}{p q:Nat}:2<=mX (vV a 0 1 p) (vS a 0 1 p) (vV b 0 1 q) (vS b 0 1 q)↔j0 a b 0 1 p q:=by
 unfold j0;rw[zLL];omega
theorem zUJ{a b:List Pt}{p q:Nat}(h:j0 a b 0 1 p q):j0 b a 0 1 q p:=by
 unfold j0 at *;rw[zE2];exact h
theorem eD{a b:List Pt}(h:gS a b 0 1):gS b a 0 1:=by
 obtain⟨p,q,D,C,h⟩:=h;exact⟨q,p,C,D,zUJ h⟩
theorem yDW(a b:Pt):pr (T3.mk (zCW a.x b.x) (zCW a.y b.y) (0:Rat)) 0 1=zPV (pr a 0 1) (pr b 0 1):=rfl
theorem zYX{l:List Pt}(hf:cQ l)(hs:aG l 0 1):¬yR (arZ l 0 1)=0:=λe=>hf hs (uS.1 e)
theorem yCQ{L:List (List Pt)}(h:∀x,x∈L->cQ x)(m:Nat):cQ (gl L m):=by
 show cQ (L.getD m [])
 rw[zoa]
 rcases Nat.lt_or_ge m L.length with h1|h1
 · rw[zoc h1]
   exact h _ (List.getElem_mem h1)
 · rw[List.getElem?_eq_none h1]
   exactλe=>absurd e.1 zow
theorem yGU{L:List (List Pt)}{m:Nat}(h:yR (uW (gl L m) 0 1 (gl L m).length)<0):tW L 0 1 m L.length=pZ L 0 1 m:=by
 have h1:yR (arZ (gl L m) 0 1)<0:=h;unfold pZ;rw[if_neg zot]
theorem zWI{L:List (List Pt)}{m:Nat}(hf:∀x,x∈L->cQ x)(hs:aG (gl L m) 0 1)(h:¬yR (uW (gl L m) 0 1 (gl L m).length)<0):0<yR (arZ (gl L m) 0 1):=by
 have h1:¬yR (arZ (gl L m) 0 1)<0:=h;have h2:=zYX (yCQ hf m) hs;omega
theorem yGT{L:List (List Pt)}{m:Nat}(hf:∀x,x∈L->cQ x)(hs:aG (gl L m) 0 1)(h:¬yR (uW (gl L m) 0 1 (gl L m).length)<0):-1=pZ L 0 1 m:=by
 unfold pZ;rw[if_pos (zWI hf hs h)]
theorem zI6{O:List Int}{m:Nat}{f:Nat->Int}{p:Int}(hl:O.length=m)(h:∀q,q<m->O.getD q 0=f q)(hp:p=f m):(O++[p]).length=m+1/\∀q,q<m+1->(O++[p]).getD q 0=f q:=by
 refine⟨by rw[lAz,hl];rfl,λq C=>?_⟩;rw[zoa]
 by_cases e:q=m
 · subst e
   rw[List.getElem?_append_right zot,hl,Nat.sub_self];exact hp
 · rw[List.getElem?_append_left zot,<-zoa]
   exact h q zot
theorem yG2{L:List (List Pt)}{a:Nat}(h:0<yR (arZ (gl L a) 0 1)):¬eM L 0 1 a/\∀b,b<L.length->¬zCG L 0 1 a b:=by
 refine⟨λe=>e.1 h,λb _ e=>?_⟩;have h1:=e.1.1.2;have h2:pZ L 0 1 a= -1:=by unfold pZ;rw[if_pos h]
 omega
theorem yH0{L:List (List Pt)}{m:Nat}(hf:∀x,x∈L->cQ x)(hs:aG (gl L m) 0 1)(h:0<=yR (uW (gl L m) 0 1 (gl L m).length)):0<yR (arZ (gl L m) 0 1):=zWI hf hs zot
theorem zRH{L:List (List Pt)}{a:Nat}{o:Int}(h:¬0<=yR (uW (gl L a) 0 1 (gl L a).length))(ho:o=pZ L 0 1 a)(h1:o<0):eM L 0 1 a:=by
 have h2:yR (arZ (gl L a) 0 1)<0:=Int.not_le.1 h;refine⟨by omega,?_⟩;rw[ho] at h1;unfold pZ at h1;rw[if_neg zot] at h1;exact h1
theorem zBJ{L:List (List Pt)}{a:Nat}{o:Int}(ho:o=pZ L 0 1 a)(h1:¬o<0):¬eM L 0 1 a:=λe=>by
 rw[ho] at h1;unfold pZ at h1;rw[if_neg e.1] at h1;exact h1 e.2
abbrev Fc:=(Pt×Rat)×List (List Int)×List Nat
abbrev En:=Int×Int×Rat
abbrev Sd:=List Pt×List Fc×List En
abbrev zS7:Pt×Rat:=(zT,(0:Rat))
abbrev zA:Fc:=(zS7,([]:List (List Int)),([]:List Nat))
def nmL(n:Nat)(x:List Int):Prop:=∀k,k<x.length->0<=(x.getD k 0)/\(x.getD k 0)<n
def nmP(s:Sd)(f:Nat):Prop:=∀l,l<((s.2.1.getD f zA).2.1).length->nmL s.1.length ((((s.2.1.getD f zA).2.1).getD l []))
def vN(s:Sd):List (List (List Int)):=uZ (λf=>(s.2.1.getD f zA).2.1) s.2.1.length
theorem sV(s:Sd):(vN s).length=s.2.1.length:=yY _ _
theorem mK{s:Sd}{f:Nat}(h:f<s.2.1.length):((vN s).getD f [])=(s.2.1.getD f zA).2.1:=uT _ _ h
def zFK(ps:List Pt)(x:List Int):Nat->List Pt:=uZ λk=>gp ps ((x.getD k 0)).toNat
def zG6(s:Sd)(f:Nat):Nat->List (List Pt):=uZ λl=>zFK s.1 ((((s.2.1.getD f zA).2.1).getD l [])) ((((s.2.1.getD f zA).2.1).getD l [])).length
noncomputable def vT(s:Sd)(f:Int):List (List Pt):=if(0<=f/\f<s.2.1.length)/\nmP s f.toNat then zG6 s f.toNat ((s.2.1.getD f.toNat zA).2.1).length else[]
theorem yC2{s:Sd}{f:Int}(h:∀f,f<s.2.1.length->(s.2.1.getD f zA).2.1.length<=10000/\∀l,l<(s.2.1.getD f zA).2.1.length->((s.2.1.getD f zA).2.1.getD l []).length<=10000):(vT s f).length<=10000/\∀l,((vT s f).getD l []).length<=10000:=by
 unfold vT
 split
 · rename_i hf
   have h1:=h f.toNat zot;have h2:(zG6 s f.toNat (s.2.1.getD f.toNat zA).2.1.length).length=(s.2.1.getD f.toNat zA).2.1.length:=yY _ _;refine⟨by omega,λl=>?_⟩
   rcases Nat.lt_or_ge l (s.2.1.getD f.toNat zA).2.1.length with h3|h3
   · unfold zG6
     rw[uT _ _ h3];unfold zFK;rw[yY];exact h1.2 l h3
   · rw[zoa,List.getElem?_eq_none zot];exact Nat.zero_le _
 · exact⟨Nat.zero_le _,λl=>Nat.zero_le _⟩
noncomputable def flA(pl:Pl)(l:List Pt):Nat->List Pt:=uZ λi=>qJ pl (gp l i)
noncomputable def flL(pl:Pl)(L:List (List Pt)):Nat->List (List Pt):=uZ λi=>flA pl (gl L i) (gl L i).length
noncomputable def gR(s:Sd)(f:Nat):List (List Pt):=flL ((s.2.1.getD f zA)).1 (vT s f) (vT s f).length
def dg(kind face loop edge:Int):E5:=(kind,(-1:Int),face,loop,edge)
def szP(s:Sd)(f:Nat):Prop:=¬vfP ((s.2.1.getD f zA).2.1)\/¬nmP s f
def zN3(s:Sd):Prop:=(512<s.1.length\/256<s.2.1.length)\/1024<s.2.2.length
noncomputable def yFQ(s:Sd):Nat->List E5:=cM (szP s) λf=>dg 1 f (-1) (-1)
noncomputable def szZ(s:Sd):List E5:=if zN3 s then yFQ s s.2.1.length++[dg 2 (-1) (-1) (-1)] else yFQ s s.2.1.length
def twP(s:Sd)(i:Nat):Prop:=∃k,k<i/\gp s.1 i=gp s.1 k
noncomputable def zLK(s:Sd):Nat->List E5:=cM (twP s) λi=>dg 37 (-1) (-1) i
def zrP(s:Sd)(f:Nat):Prop:=((s.2.1.getD f zA)).1.1=zT
noncomputable def zSI(s:Sd):Nat->List E5:=cM (zrP s) λf=>dg 9 f (-1) (-1)
def ofP(s:Sd)(f l k:Nat):Prop:=¬sdZ ((s.2.1.getD f zA)).1 (gp (gl (vT s f) l) k)=0
noncomputable def ofX(s:Sd)(f l:Nat):Nat->List E5:=cM (ofP s f l) λk=>dg 31 f l k
noncomputable def ofL(s:Sd)(f:Nat):Nat->List E5:=tS λl=>ofX s f l (gl (vT s f) l).length
noncomputable def zPC(s:Sd):Nat->List E5:=tS λf=>ofL s f (vT s f).length
theorem aT{s:Sd}{f:Int}(h:∀f,f<s.2.1.length->(s.2.1.getD f zA).2.1.length<=16/\∀l,l<(s.2.1.getD f zA).2.1.length->((s.2.1.getD f zA).2.1.getD l []).length<=64):(vT s f).length<=16/\∀l,((vT s f).getD l []).length<=64:=by
 unfold vT
 split
 · rename_i hf
   have h1:=h f.toNat zot;have h2:(zG6 s f.toNat (s.2.1.getD f.toNat zA).2.1.length).length=(s.2.1.getD f.toNat zA).2.1.length:=yY _ _;refine⟨by omega,λl=>?_⟩
   rcases Nat.lt_or_ge l (s.2.1.getD f.toNat zA).2.1.length with h3|h3
   · unfold zG6
     rw[uT _ _ h3];unfold zFK;rw[yY];exact h1.2 l h3
   · rw[zoa,List.getElem?_eq_none zot];exact Nat.zero_le _
 · exact⟨Nat.zero_le _,λl=>Nat.zero_le _⟩
section
variable {s:Sd}(h:∀f,f<s.2.1.length->(s.2.1.getD f zA).2.1.length<=16/\∀l,l<(s.2.1.getD f zA).2.1.length->((s.2.1.getD f zA).2.1.getD l []).length<=64)
include h
theorem zFU(f:Nat):∀l,(ofL s f l).length<=64*l
  |0=>Nat.le_refl _
  |l+1=>by
   have h1:=zFU f l;have h2:(ofX s f l ((vT s f).getD l []).length).length<=((vT s f).getD l []).length:=pX _ _ _;have h3:=(aT (f:=↑f) h).2 l
   show List.length (ofL s f l++ofX s f l ((vT s f).getD l []).length)<=_
   rw[lAz];omega
theorem zW2:∀f,f<=s.2.1.length->(zPC s f).length<=1024*f
  |0,_=>Nat.le_refl _
  |f+1,hf=>by
   have h1:=zW2 f zot;have h2:=zFU h f (vT s f).length;have h3:=(aT (f:=↑f) h).1
   show List.length (zPC s f++ofL s f (vT s f).length)<=_
   rw[lAz];omega
end
noncomputable def plZ(s:Sd):List E5:=if 0<(zSI s s.2.1.length).length then zSI s s.2.1.length else zPC s s.2.1.length
noncomputable def s5(L:List (List Pt)):Nat->Int
  |0=>0
  |m+1=>if 0<yR (arZ (gl L m) 0 1) then s5 L m+1 else s5 L m
theorem zBB(L:List (List Pt)):∀m,0<=s5 L m/\s5 L m<=m
  |0=>by unfold s5;omega
  |m+1=>by
   have h:=zBB L m;unfold s5
   split<;>omega
theorem ou_t{L:List (List Pt)}{m:Nat}(h:0<yR (arZ (gl L m) 0 1)):s5 L m+1=s5 L (m+1):=(if_pos h).symm
theorem ou_f{L:List (List Pt)}{m:Nat}(h:¬0<yR (arZ (gl L m) 0 1)):s5 L m=s5 L (m+1):=(if_neg h).symm
noncomputable def ouZ(L:List (List Pt)):Int:=s5 L L.length
def bnP(s:Sd)(f:Nat):Prop:=¬uA (gR s f) 0 1=0
noncomputable def zZN(s:Sd):Nat->List E5:=cM (bnP s) λf=>dg (uA (gR s f) 0 1) f (-1) (-1)
def mnP(s:Sd)(f:Nat):Prop:=¬ouZ (gR s f)=1
noncomputable def yG5(s:Sd):Nat->List E5:=cM (mnP s) λf=>dg 33 f (-1) (-1)
noncomputable def neZ(s:Sd):List E5:=if 0<(zZN s s.2.1.length).length then zZN s s.2.1.length else yG5 s s.2.1.length
theorem zMY(L:List (List Pt))(i j:Nat):0<=uA L i j/\uA L i j<=33:=by
 unfold uA
 repeat' split
 all_goals decide
theorem dW(s:Sd)(f:Nat):(gR s f).length=(vT s ↑f).length/\∀l,((gR s f).getD l []).length=((vT s ↑f).getD l []).length:=by
 have h1:(gR s f).length=(vT s ↑f).length:=yY _ _;refine⟨h1,λl=>?_⟩
 rcases Nat.lt_or_ge l (vT s ↑f).length with h|h
 · unfold gR flL
   rw[uT _ _ h];exact yY _ _
 · rw[zoa,zoa,List.getElem?_eq_none zot,List.getElem?_eq_none h]
def okS(s:Sd):Prop:=((s.1.length<=1000/\s.2.1.length<=1000)/\s.2.2.length<=2000)/\(∀f,f<s.2.1.length->(s.2.1.getD f zA).2.1.length<=16/\∀l,l<(s.2.1.getD f zA).2.1.length->((s.2.1.getD f zA).2.1.getD l []).length<=64)/\∀f,f<s.2.1.length->∀x,x∈gR s f->cQ x
theorem okS.big{s:Sd}(h:okS s):∀f,f<s.2.1.length->(s.2.1.getD f zA).2.1.length<=10000/\∀l,l<(s.2.1.getD f zA).2.1.length->((s.2.1.getD f zA).2.1.getD l []).length<=10000:=λf hf=>⟨Nat.le_trans (h.2.1 f hf).1 zow,λl hl=>Nat.le_trans ((h.2.1 f hf).2 l hl) zow⟩
theorem okS.mem{s:Sd}(h:okS s):∀f,f<s.2.1.length->(s.2.1.getD f zA).2.1.length<=100000/\∀x,x∈(s.2.1.getD f zA).2.1->x.length<=100000:=λf hf=>⟨Nat.le_trans (h.2.1 f hf).1 zow,λx hx=>by
 obtain⟨m,hm,e⟩:=List.getElem_of_mem hx;have:=(h.2.1 f hf).2 m hm;rw[zoa,zoc hm] at this;rw[<-e];exact Nat.le_trans this zow⟩
noncomputable def zZF(s:Sd):List E5:=if 0<(szZ s).length then szZ s else if 0<(zLK s s.1.length).length then zLK s s.1.length else if 0<(plZ s).length then plZ s else if 0<(neZ s).length then neZ s else clZ (vN s)
def gK(s:Sd):Prop:=(zZF s).length=0
def lsP(p q:Pt):Prop:=p.x<q.x\/(p.x=q.x/\(p.y<q.y\/(p.y=q.y/\p.z<q.z)))
def cI:List Int->List Int->Int
  |[],[]=>0
  |[],_::_=>-1
  |_::_,[]=>1
  |x::a,y::b=>if x=y then cI a b else if x<y then -1 else 1
theorem zR4{i:Nat}:∀{a b:List Int},(∀u,u<i->(a.getD u 0)=(b.getD u 0))->i<a.length->i<b.length->¬(a.getD i 0)=(b.getD i 0)->cI a b=if(a.getD i 0)<(b.getD i 0) then -1 else 1:=by
 induction i with
 |zero=>
  intro a b _ ha hb hne
  match a,b,ha,hb with
  |x::a,y::b,_,_=>exact if_neg hne
 |succ i ih=>
  intro a b h ha hb hne
  match a,b,ha,hb with
  |x::a,y::b,ha,hb=>
   have h0:x=y:=h 0 zot
   show(if x=y then cI a b else _)=_
   rw[if_pos h0];exact ih (λu hu=>h (u+1) zot) (by simpa using ha) (by simpa using hb) hne
theorem zHA{i:Nat}:∀{a b:List Int},(∀u,u<i->(a.getD u 0)=(b.getD u 0))->i=min a.length b.length->cI a b=if a.length<b.length then -1 else if b.length<a.length then 1 else 0:=by
 induction i with
 |zero=>
  intro a b _ he
  match a,b with
  |[],[]=>rfl
  |[],_::_=>rfl
  |_::_,[]=>rfl
  |_::_,_::_=>simp at he
 |succ i ih=>
  intro a b h he
  match a,b with
  |[],_=>simp at he
  |_::_,[]=>simp at he
  |x::a,y::b=>
   have h0:x=y:=h 0 zot
   show(if x=y then cI a b else _)=_
   rw[if_pos h0,ih (λu hu=>h (u+1) zot) (by simp at he;omega)];simp only[lC,Nat.add_lt_add_iff_right]
theorem zAJ:∀a b:List Int,-1<=cI a b/\cI a b<=1
  |[],[]=>⟨by show(-1:Int)<=0;decide,by show(0:Int)<=1;decide⟩
  |[],_::_=>⟨by show(-1:Int)<= -1;decide,by show(-1:Int)<=1;decide⟩
  |_::_,[]=>⟨by show(-1:Int)<=1;decide,by show(1:Int)<=1;decide⟩
  |x::a,y::b=>by
   show -1<=(if x=y then cI a b else if x<y then -1 else 1)/\(if x=y then cI a b else if x<y then -1 else 1)<=1
   split
   · exact zAJ a b
   · split<;>decide
def cO(x:List Int):Nat->Nat
  |0=>0
  |m+1=>if(x.getD m 0)<(x.getD (cO x m) 0) then m else cO x m
theorem yDV(x:List Int):∀m,cO x m<m\/cO x m=0
  |0=>.inr rfl
  |m+1=>by
   have h:=yDV x m;unfold cO
   split<;>omega
theorem mn_t{x:List Int}{m:Nat}(h:(x.getD m 0)<(x.getD (cO x m) 0)):m=cO x (m+1):=(if_pos h).symm
theorem mn_f{x:List Int}{m:Nat}(h:¬(x.getD m 0)<(x.getD (cO x m) 0)):cO x m=cO x (m+1):=(if_neg h).symm
def zSZ(x:List Int):List Int:=x.drop (cO x x.length)++x.take (cO x x.length)
def zT3:List (List Int)->List (List Int)->Prop
  |[],[]=>False
  |[],_::_=>True
  |_::_,[]=>False
  |x::a,y::b=>if cI x y=0 then zT3 a b else cI x y<0
theorem yB9{i:Nat}:∀{a b:List (List Int)},(∀u,u<i->cI ((a.getD u [])) ((b.getD u []))=0)->i<a.length->i<b.length->¬cI ((a.getD i [])) ((b.getD i []))=0->(zT3 a b↔cI ((a.getD i [])) ((b.getD i []))<0):=by
 induction i with
 |zero=>
  intro a b _ ha hb hne
  match a,b,ha,hb with
  |x::a,y::b,_,_=>exact Iff.of_eq (if_neg hne)
 |succ i ih=>
  intro a b h ha hb hne
  match a,b,ha,hb with
  |x::a,y::b,ha,hb=>
   have h0:cI x y=0:=h 0 zot
   show(if cI x y=0 then zT3 a b else _)↔_
   rw[if_pos h0];exact ih (λu hu=>h (u+1) zot) (by simpa using ha) (by simpa using hb) hne
theorem zXX{i:Nat}:∀{a b:List (List Int)},(∀u,u<i->cI ((a.getD u [])) ((b.getD u []))=0)->i=min a.length b.length->(zT3 a b↔a.length<b.length):=by
 induction i with
 |zero=>
  intro a b _ he
  match a,b with
  |[],[]=>exact⟨False.elim,λh=>absurd h (Nat.lt_irrefl _)⟩
  |[],_::_=>exact⟨λ_=>Nat.zero_lt_succ _,λ_=>trivial⟩
  |_::_,[]=>exact⟨False.elim,λh=>absurd h (Nat.not_lt_zero _)⟩
  |_::_,_::_=>simp at he
 |succ i ih=>
  intro a b h he
  match a,b with
  |[],_=>simp at he
  |_::_,[]=>simp at he
  |x::a,y::b=>
   have h0:cI x y=0:=h 0 zot
   show(if cI x y=0 then zT3 a b else _)↔_
   rw[if_pos h0,ih (λu hu=>h (u+1) zot) (by simp at he;omega)];simp only[lC,Nat.add_lt_add_iff_right]
def lsF(a b:Fc):Prop:=if a.2.2=b.2.2 then zT3 a.2.1 b.2.1 else lsN a.2.2 b.2.2
theorem ls_x{p q:Pt}(h:¬xT p.x q.x=0):xT p.x q.x<0↔lsP p q:=by
 unfold lsP;rw[mO];rw[aU] at h;exact⟨.inl,λe=>e.elim id λe=>absurd e.1 h⟩
theorem ls_y{p q:Pt}(h:xT p.x q.x=0)(h2:¬xT p.y q.y=0):xT p.y q.y<0↔lsP p q:=by
 unfold lsP;rw[mO];rw[aU] at h h2;have:=@Rat.lt_irrefl p.x;exact⟨λe=>.inr ⟨h,.inl e⟩,λe=>e.elim (λe=>absurd (h▸e) this) λe=>e.2.elim id λe=>absurd e.1 h2⟩
theorem ls_z{p q:Pt}(h:xT p.x q.x=0)(h2:xT p.y q.y=0)(h3:¬xT p.z q.z=0):xT p.z q.z<0↔lsP p q:=by
 unfold lsP;rw[mO];rw[aU] at h h2;have D:=@Rat.lt_irrefl p.x;have C:=@Rat.lt_irrefl p.y;exact⟨λe=>.inr ⟨h,.inr ⟨h2,e⟩⟩,λe=>e.elim (λe=>absurd (h▸e) D) λe=>e.2.elim (λe=>absurd (h2▸e) C) λe=>e.2⟩
theorem yKV{p q:Pt}(h:xT p.x q.x=0)(h2:xT p.y q.y=0)(h3:xT p.z q.z=0):¬lsP p q:=by
 rw[aU] at h h2 h3;have G:=@Rat.lt_irrefl p.x;have D:=@Rat.lt_irrefl p.y;have C:=@Rat.lt_irrefl p.z;exactλe=>e.elim (λe=>absurd (h▸e) G) λe=>e.2.elim (λe=>absurd (h2▸e) D) λe=>absurd (h3▸e.2) C
theorem yKX{p q:Pt}{i:Nat}(hi:i<3)(h:∀u,u<i->xT (p.at u) (q.at u)=0)(hn:¬xT (p.at i) (q.at i)=0):xT (p.at i) (q.at i)<0↔lsP p q:=by
 match i,hi with
 |0,_=>exact ls_x hn
 |1,_=>exact ls_y (h 0 zow) hn
 |2,_=>exact ls_z (h 0 zow) (h 1 zow) hn
theorem yHB{p q:Pt}(h:∀u,u<3->xT (p.at u) (q.at u)=0):¬lsP p q:=yKV (h 0 zow) (h 1 zow) (h 2 zow)
noncomputable def ivA(x:Rat):Rat:=if iU x=0 then 0 else((1:Int):Rat)/iU x
noncomputable def scW(r:Rat)(pl:Pl):Pl:=(T3.mk (r*pl.1.x) (r*pl.1.y) (r*pl.1.z),r*pl.2)
noncomputable def scZ(pl:Pl):Pl:=if ¬yR pl.1.x=0 then scW (ivA pl.1.x) pl else if ¬yR pl.1.y=0 then scW (ivA pl.1.y) pl else if ¬yR pl.1.z=0 then scW (ivA pl.1.z) pl else zS7
theorem yKB{pl:Pl}{i:Nat}(hi:i<3)(h:∀u,u<i->yR (pl.1.at u)=0)(hn:¬yR (pl.1.at i)=0):scW (ivA (pl.1.at i)) pl=scZ pl:=by
 unfold scZ
 match i,hi with
 |0,_=>exact(if_pos hn).symm
 |1,_=>exact((if_neg (λe=>e (h 0 zow))).trans (if_pos hn)).symm
 |2,_=>exact((if_neg (λe=>e (h 0 zow))).trans ((if_neg (λe=>e (h 1 zow))).trans (if_pos hn))).symm
theorem yGE{pl:Pl}(h:∀u,u<3->yR (pl.1.at u)=0):zS7=scZ pl:=by
 unfold scZ;exact((if_neg (λe=>e (h 0 zow))).trans ((if_neg (λe=>e (h 1 zow))).trans (if_neg (λe=>e (h 2 zow))))).symm
def zCH(x:List Int):Nat->List Int:=uZ λi=>x.getD (x.length-1-i) 0
def zJK(E:List E5)(m i:Nat):Prop:=∃q,q<m/\(E.getD q ((0:Int),(0:Int),(0:Int),(0:Int),(0:Int))).1=(i:Int)
theorem zUX{E:List E5}{m n:Nat}{U:List Prop}(hl:U.length=n)(h:∀u,u<n->(U.getD u False↔zJK E m u))(h0:0<=(E.getD m ((0:Int),(0:Int),(0:Int),(0:Int),(0:Int))).1)(h1:(E.getD m ((0:Int),(0:Int),(0:Int),(0:Int),(0:Int))).1<n):∀u,u<n->((U.set (E.getD m ((0:Int),(0:Int),(0:Int),(0:Int),(0:Int))).1.toNat True).getD u False↔zJK E (m+1) u):=by
 intro u D;rw[zoa,List.getElem?_set];have hx:zJK E (m+1) u↔zJK E m u\/(E.getD m ((0:Int),(0:Int),(0:Int),(0:Int),(0:Int))).1=(u:Int):=by
  constructor
  · rintro⟨q,C,e⟩
    rcases Nat.lt_succ_iff_lt_or_eq.1 C with h|h
    · exact .inl ⟨q,h,e⟩
    · subst h;exact .inr e
  · rintro(⟨q,C,e⟩|e)
    · exact⟨q,by omega,e⟩
    · exact⟨m,by omega,e⟩
 rw[hx]
 split
 · rename_i e
   rw[if_pos zot];exact⟨λ_=>.inr zot,λ_=>trivial⟩
 · rename_i e
   have:=h u D;rw[zoa] at this;rw[this];exact⟨.inl,λh=>h.resolve_right zot⟩
def nmA(s:Sd):Prop:=∀f,f<s.2.1.length->nmP s f
theorem zUE{s:Sd}(h:nmA s){q:Nat}(hq:q<(edZ (vN s)).length):0<=((edZ (vN s)).getD q ((0:Int),(0:Int),(0:Int),(0:Int),(0:Int))).1/\((edZ (vN s)).getD q ((0:Int),(0:Int),(0:Int),(0:Int),(0:Int))).1<s.1.length:=by
 have C:=gC (d:=((0:Int),(0:Int),(0:Int),(0:Int),(0:Int))) hq;generalize (edZ (vN s)).getD q ((0:Int),(0:Int),(0:Int),(0:Int),(0:Int))=e at C ⊢;obtain⟨f,D,C⟩:=zG0 C;obtain⟨l,G,C⟩:=zG0 C;obtain⟨i,hi,rfl⟩:=zRC C;rw[sV] at D;have H:(vN s).getD f []=(s.2.1.getD f zA).2.1:=uT _ _ D;rw[H] at G hi ⊢;exact h f D l G i hi
theorem yCV{s:Sd}(h:okS s):(edZ (vN s)).length<=1100000:=by
 have h1:=zB1 (F:=vN s) (λf C=>by rw[sV] at C;rw[mK C];exact h.2.1 f C) _ (Nat.le_refl _);rw[sV] at h1;have h2:=h.1.1.2
 show(edF (vN s) (vN s).length).length<=_
 rw[sV];omega
def zTC(s:Sd)(out:List Int)(i k:Nat):Prop:=lsP (gp s.1 i) (gp s.1 (out.getD k 0).toNat)
noncomputable def aI(s:Sd):Nat->List Int
  |0=>[]
  |i+1=>if zJK (edZ (vN s)) (edZ (vN s)).length i then iP (aI s i) (aM (zTC s (aI s i) i) (aI s i).length) (i:Int) else aI s i
theorem zPA(s:Sd):∀i,(aI s i).length<=i
  |0=>Nat.le_refl _
  |i+1=>by
   have:=zPA s i;unfold aI
   split
   · rw[zGS _ _ (zET _ _)];omega
   · omega
theorem zKA{s:Sd}{x:Int}:∀{i},x∈aI s i->0<=x/\x<i
  |0,h=>absurd h List.not_mem_nil
  |i+1,h=>by
   unfold aI at h
   split at h
   · unfold iP at h
     rcases List.mem_append.1 h with h|h
     · have:=zKA (List.mem_of_mem_take h);omega
     · rcases List.mem_cons.1 h with rfl|h
       · omega
       · have:=zKA (List.mem_of_mem_drop h);omega
   · have:=zKA h;omega
theorem oD{s:Sd}{i k:Nat}(h:k<(aI s i).length):0<=(aI s i).getD k 0/\(aI s i).getD k 0<i:=zKA (gC h)
def nwL(s:Sd)(ix:List Int)(f i:Nat):Nat->List Int:=uZ λq=>ix.getD (((s.2.1.getD f zA).2.1.getD i []).getD q 0).toNat 0
def nfL(s:Sd)(ix:List Int)(f i:Nat):List Int:=zSZ (nwL s ix f i ((s.2.1.getD f zA).2.1.getD i []).length)
def zD5(s:Sd)(f i:Nat):Prop:=0<yR (arZ (gl (gR s f) i) 0 1)
noncomputable def ouL(s:Sd)(ix:List Int)(f:Nat):Nat->List (List Int):=cM (zD5 s f) (nfL s ix f)
def zYJ(l:List Int)(D:List (List Int))(k:Nat):Prop:=cI l (D.getD k [])<0
noncomputable def zAF(s:Sd)(ix:List Int)(f:Nat):Nat->List (List Int)
  |0=>[]
  |i+1=>if zD5 s f i then zAF s ix f i else iP (zAF s ix f i) (aM (zYJ (nfL s ix f i) (zAF s ix f i)) (zAF s ix f i).length) (nfL s ix f i)
theorem zP5(s:Sd)(ix:List Int)(f:Nat):∀i,(zAF s ix f i).length<=i
  |0=>Nat.le_refl _
  |i+1=>by
   have:=zP5 s ix f i;unfold zAF
   split
   · omega
   · rw[zGS _ _ (zET _ _)];omega
noncomputable def nfF(s:Sd)(ix:List Int)(f:Nat):Fc:=(scZ (s.2.1.getD f zA).1,ouL s ix f (s.2.1.getD f zA).2.1.length++zAF s ix f (s.2.1.getD f zA).2.1.length,(s.2.1.getD f zA).2.2)
theorem zQA{s:Sd}{f:Nat}(hf:f<s.2.1.length)(h:nmP s f):vT s ↑f=zG6 s f (s.2.1.getD f zA).2.1.length:=if_pos ⟨by omega,h⟩
theorem yH4{s:Sd}{f:Nat}(hf:f<s.2.1.length)(h:nmP s f):(gR s f).length=(s.2.1.getD f zA).2.1.length:=by
 rw[(dW s f).1,zQA hf h];exact yY _ _
noncomputable def fR(s:Sd):List Int:=aI s s.1.length
noncomputable def zHU(s:Sd):Nat->List Int
  |0=>List.replicate s.1.length (0:Int)
  |i+1=>(zHU s i).set ((fR s).getD i 0).toNat (i:Int)
theorem zC0(s:Sd):∀i,(zHU s i).length=s.1.length
  |0=>List.length_replicate
  |i+1=>by unfold zHU;rw[lS];exact zC0 s i
noncomputable def ixZ(s:Sd):List Int:=zHU s (fR s).length
noncomputable def zXF(s:Sd):Nat->List Pt:=uZ λi=>gp s.1 ((fR s).getD i 0).toNat
def zPY(x:Fc)(D:List Fc)(k:Nat):Prop:=lsF x (D.getD k zA)
noncomputable def s9(s:Sd):Nat->List Fc
  |0=>[]
  |f+1=>iP (s9 s f) (aM (zPY (nfF s (ixZ s) f) (s9 s f)) (s9 s f).length) (nfF s (ixZ s) f)
theorem zPP(s:Sd):∀f,(s9 s f).length=f
  |0=>rfl
  |f+1=>by
   unfold s9;rw[zGS _ _ (zET _ _),zPP s f]
noncomputable def nrP(s:Sd):List Pt:=if gK s then zXF s (fR s).length else[]
noncomputable def nrF(s:Sd):List Fc:=if gK s then s9 s s.2.1.length else[]
noncomputable def nrE(s:Sd):List En:=if gK s then s.2.2 else[]
theorem yFS{s:Sd}(h:gK s):nmA s:=by
 have h1:(szZ s).length=0:=by
  unfold gK zZF at h
  split at h
  · omega
  · omega
 have h2:szZ s=[]:=zof h1;unfold szZ at h2
 split at h2
 · exact absurd h2 zo2
 · intro f C
   exact Classical.byContradiction λe=>(dF _).1 h2 f C (.inr e)
theorem zGA{s:Sd}(h:okS s){ix:List Int}{f:Nat}(hf:f<s.2.1.length):(nfF s ix f).2.1.length<=100:=by
 have h1:=pX (zD5 s f) (nfL s ix f) (s.2.1.getD f zA).2.1.length;have h2:=zP5 s ix f (s.2.1.getD f zA).2.1.length;have h3:=(h.2.1 f hf).1
 show List.length (ouL s ix f _++zAF s ix f _)<=_
 rw[lAz];have C:(ouL s ix f (s.2.1.getD f zA).2.1.length).length<=(s.2.1.getD f zA).2.1.length:=h1;omega
theorem zYF{α:Type}{p:α->Prop}{l:List α}{k:Nat}{x:α}(h:∀y,y∈l->p y)(hx:p x):∀y,y∈iP l k x->p y:=by
 intro y hy;unfold iP at hy
 rcases List.mem_append.1 hy with hy|hy
 · exact h y (List.mem_of_mem_take hy)
 · rcases List.mem_cons.1 hy with rfl|hy
   · exact hx
   · exact h y (List.mem_of_mem_drop hy)
theorem zXC{s:Sd}(h:okS s):∀f,f<=s.2.1.length->∀x,x∈s9 s f->x.2.1.length<=100
  |0,_,x,hx=>absurd hx List.not_mem_nil
  |f+1,hf,x,hx=>zYF (p:=λx:Fc=>x.2.1.length<=100) (zXC h f zot) (zGA h zot) x hx
end Bk
namespace Go.Proofs.YtpkaegemlpaenaaGreat
open Bk Go Tryz
set_option maxRecDepth 10000
set_option maxHeartbeats 1000000
attribute [local irreducible] GL GC GQ W OpV
section
variable{w0:World}{h0:Mem}(hs:MLe h0 (mem w0))
include hs
theorem zHO{vL:Value}{L:(List (List Int))}(rL:tII.Is h0 vL L)(hcd0:L.length<=100000)(hcd1:∀x,x∈L->x.length<=100000):
 Calls Tryz.prog 99 #[vL] w0 (Ret w0 h0 (λh r=>tII.Is h r L)):=by
 refine cb1 20 vL func99 hs ?_;refine nR ?_;refine xG 22 1 ?_;have Z:=RL.nil (ρ:=rpS rpI) (h:=h0);refine gcL (ι:=Nat×List (List Int)×Value×List Value×Mem) (λ(i,D,C,G,mi)=>(MLe h0 mi/\(RL (rpS rpI) mi G D/\i<=L.length/\D=L.take i),[(0,vL),(3,C),(4,vI ↑i)],[.gs 22 1 C D.length G],mi,L.length-i)) (0,[],(.slice none 0 0),[],h0) ?_ ?_
 · exact⟨mle,Z,by omega,I⟩
 rintro⟨i,D,C,G,mi⟩ ⟨am,H,az,hD⟩
 refine yW ?_;have bb:=zNH hcd1 i;have ay:D.length<=i:=by rw[hD,List.length_take];omega
 refine gc9 (λak=>?_) λak=>?_
 ·
  refine go8 ?_;refine lX (xI [] i underlying51 fK rL) λau ai=>(lX (xA fK ai) λar ah=>(zC2 3 1 ?_));have U:=RL.nil (ρ:=rpI) (h:=mi);refine xL (A:=[]) (zU (ρ:=rpI) (bytes:=8) underlying22 jV I I I I nP I I U ah bO bO) I I I ?_
  rintro aq ax ⟨ao,rfl,ac⟩
  refine zP (A:=[]) (ρ:=rpI) ac ?_;intro h1 aj O;refine zG (zL (ρ:=(rpS rpI)) (m:=1) (xs:=[(([]:List Int)++(L.getD i []))]) (ps':=[(0,_)]) underlying51 qX I I I wG e2z (zD I (Pc.arr (Pc.here _) [] 0 dC) O zO) zoj nP) I I I ?_
  rintro ap aw ⟨an,rfl,ab⟩
  refine zP (A:=[]) (ρ:=(rpS rpI)) ab ?_;intro h2 ba M;refine xL (A:=[]) (zU (ρ:=(rpS rpI)) (bytes:=24) underlying51 qX I I I I nP I I H.up M bO bO) I I I ?_
  rintro ae av ⟨ad,rfl,aa⟩
  refine go9 ?_;refine gqL ((i+1),(D++[(([]:List Int)++(L.getD i []))]),ae,ad,h2) ?_ ?_
  · exact⟨mle,aa,by omega,by rw[hD,List.nil_append];exact(zIB [] oM).symm⟩
  omega
 have ei:i=L.length:=by omega
 refine uV ?_;refine wS (A:=[]) (ρ:=(rpS rpI)) H.up ?_;intro h1 aj J;refine zC I I ?_;exact(Rp.Is.cast J (by rw[hD,ei,List.take_length]))
theorem zIS{k m n j:Nat}{vs:Value}{s:Sq}(rs:(tSd k m n j).Is h0 vs s)(hcd0:s.2.1.length<=100000)(hcd1:∀f,f<s.2.1.length->(s.2.1.getD f zA).2.1.length<=100000/\∀x,x∈(s.2.1.getD f zA).2.1->x.length<=100000):
 Calls Tryz.prog 136 #[vs] w0 (Ret w0 h0 (λh r=>(rpS tII).Is h r (vN s))):=by
 refine cb1 23 vs func136 hs ?_;refine go2 ?_;refine nB rs λb1 an aa=>(rA ?_);refine xG 51 1 ?_;have O:=RL.nil (ρ:=rpS (rpS rpI)) (h:=h0);refine gcL (ι:=Nat×List (List (List Int))×Value×List Value×Mem) (λ(f,D,C,G,mf)=>(MLe h0 mf/\(RL tII mf G D/\f<=s.2.1.length/\D=uZ (λf=>(s.2.1.getD f zA).2.1) f),[(1,vP b1 0),(3,C),(4,vI ↑f)],[.gs 51 1 C D.length G,.var b1 39 an],mf,s.2.1.length-f)) (0,[],(.slice none 0 0),[],h0) ?_ ?_
 · exact⟨mle,O,by omega,I⟩
 rintro⟨f,D,C,G,mf⟩ ⟨ao,H,bc,hD⟩
 refine yW ?_;have ba:D.length=f:=by rw[hD];exact yY _ _
 refine go5 ?_;refine lX (xB kR (Pc.snd (Pc.fst pH)) aa) λv7 r7=>(gc4 (λam=>?_) λam=>?_)
 ·
  refine go7 ?_;refine lX (xB kR (Pc.snd (Pc.fst pH)) aa) λax aj=>(go1 ?_);refine lX (xI zA f underlying36 pV aj) λaw ai=>(lX (xF underlying53 sizeOf51 (Pc.snd (Pc.fst pH)) ai) λav ah=>(lX (xA pW ah) λau ae=>(cL (ev1 I) call99 (λw hs=>zHO hs ae (by first|omega|exact(hcd1 f oM).1|exact(hcd1 f oM).2) (by first|omega|exact(hcd1 f oM).1|exact(hcd1 f oM).2)) λar h1 ak ad=>(zG (zL (ρ:=tII) (m:=1) (xs:=[(((s.2.1.getD f zA).2).1)]) (ps':=[(0,_)]) underlying165 zP4 I I I wG e2z (zD I (Pc.arr (Pc.here _) [] 0 dC) ad zO) zoj nP) I I I ?_))))
  rintro aq az ⟨ap,rfl,Z⟩
  refine zP (A:=[]) (ρ:=tII) Z ?_;intro h2 bb M;refine xL (A:=[]) (zU (ρ:=tII) (bytes:=24) underlying165 zP4 I I I I nP I I H.up M bO bO) I I I ?_
  rintro ac ay ⟨ab,rfl,U⟩
  refine go9 ?_;refine gqL ((f+1),(D++[(((s.2.1.getD f zA).2).1)]),ac,ab,h2) ?_ ?_
  · exact⟨mle,U,by omega,by rw[hD];rfl⟩
  omega
 have ef:f=s.2.1.length:=by omega
 refine uV ?_;refine wS (A:=[]) (ρ:=tII) H.up ?_;intro h1 ak J;refine zC I I ?_;exact(Rp.Is.cast J (by rw[hD,ef];rfl))
theorem zIR{k m n j:Nat}{vs:Value}{s:Sq}(rs:(tSd k m n j).Is h0 vs s){f:Int}(hf1:-9223372036854775808<=f)(hf2:f<9223372036854775808)(hcd0:0<=f)(hcd1:f<↑s.2.1.length)(hcd2:(s.2.1.getD f.toNat zA).2.1.length<=100000)(hcd3:∀l,l<(s.2.1.getD f.toNat zA).2.1.length->((s.2.1.getD f.toNat zA).2.1.getD l []).length<=100000):
 Calls Tryz.prog 158 #[vs,vI f] w0 (Ret w0 h0 (λ_ r=>r=vB (nmP s f.toNat))):=by
 refine cb2 50 vs (vI f) func158 hs ?_;refine go2 ?_;refine nB rs λb2 ab H=>(go6 ?_);refine lX (xB kR (Pc.snd (Pc.fst pH)) H) λv9 r9=>(go1 ?_);refine lX (xI zA f.toNat underlying36 pV r9) λbl aq=>(lX (xF underlying53 sizeOf51 (Pc.snd (Pc.fst pH)) aq) λbk ap=>(lX (xA pW ap) λG D=>(uG ?_)));refine gcL (ι:=Nat×Mem) (λ(l,M)=>(MLe h0 M/\(l<=(s.2.1.getD f.toNat zA).2.1.length/\∀u,u<l->nmL s.1.length ((s.2.1.getD f.toNat zA).2.1.getD u [])),[(2,vP b2 0),(5,G),(6,vI ↑l)],[.var b2 39 ab],M,(s.2.1.getD f.toNat zA).2.1.length-l)) (0,h0) ?_ ?_
 · exact⟨mle,by omega,λu h=>by omega⟩
 rintro⟨l,M⟩ ⟨aw,bo,O⟩
 refine yW ?_;refine gc9 (λaa=>?_) λaa=>?_
 ·
  refine uG ?_;refine gcL (ι:=Nat×Mem) (λ(i,J)=>(MLe M J/\(i<=((s.2.1.getD f.toNat zA).2.1.getD l []).length/\∀u,u<i->0<=((s.2.1.getD f.toNat zA).2.1.getD l []).getD u 0/\((s.2.1.getD f.toNat zA).2.1.getD l []).getD u 0<↑s.1.length),[(2,vP b2 0),(5,G),(6,vI ↑l),(7,vI ↑i)],[.var b2 39 ab],J,((s.2.1.getD f.toNat zA).2.1.getD l []).length-i)) (0,M) ?_ ?_
  · exact⟨mle,by omega,λu h=>by omega⟩
  rintro⟨i,J⟩ ⟨av,bp,hi2⟩
  refine yW ?_;have bn:=hcd3 l oM;refine go6 ?_;refine lX (xI [] l underlying51 fK D) λbj ao=>(lX (xA fK ao) λbi bm=>(gc4 (λZ=>?_) λZ=>?_))
  ·
   refine go5 ?_;refine zK 21 _ [] [(0,.q),(1,.q),(2,.q),(3,.q),(4,.q),(5,.q),(6,.q),(7,.q),(8,.q),(9,.q),(10,.q),(11,.q),(12,.q),(13,.q),(14,.q),(15,.q),(16,.q),(17,.q),(18,.q),(19,.q),(20,.q)] yA nX (wJ zou) nX (λr hr=>hr) (go2 ?_);refine wX I (xI [] l underlying51 fK D) λbh an=>(wX I (xA fK an) λbg am=>(go1 ?_));refine wX I (xI (0:Int) i underlying22 ty3 am) λbf ak=>(wX I (xA ty3 ak) λbe aj=>?_);obtain⟨rfl,ay,au⟩:=kS aj;refine go2 ?_;refine jH ((((((s.2.1.getD f.toNat zA).2).1).getD l []).getD i (0:Int))<(0:Int)) (λC=>?_) (λC=>?_)
   ·
    rw[xM C];refine go30 ?_;refine zC I I ?_;exact(yH (λe=>by have:=e l oM i oM;omega)).symm
   rw[yH C];refine yS I I I (λh' L' hh hR=>yZ I) I (yS I I I (λh' L' hh hR=>yZ I) I (oX I (xI [] l underlying51 fK D) λbd ai=>(oX I (xA fK ai) λbc ah=>(yS I I I (λh' L' hh hR=>yZ I) I (oX I (xI (0:Int) i underlying22 ty3 ah) λbb ae=>(oX I (xA ty3 ae) λba ad=>?_))))));obtain⟨rfl,ax,ar⟩:=kS ad;refine go1 ?_;refine oX I (xB uO (Pc.fst pH) H) λaz ac=>(yS I I I (λh' L' hh hR=>uY underlying35 I (ac.mono hh)) I (gc4 (λU=>?_) λU=>?_))
   ·
    refine rA ?_;refine zC I I ?_;exact(yH (λe=>by have:=e l oM i oM;omega)).symm
   refine go8 ?_;refine gqL ((i+1),J) ?_ ?_
   · exact⟨mle,by omega,wQ (Q:=λu=>0<=((s.2.1.getD f.toNat zA).2.1.getD l []).getD u 0/\((s.2.1.getD f.toNat zA).2.1.getD l []).getD u 0<↑s.1.length) hi2 oM⟩
   omega
  refine qM ?_;refine gqL ((l+1),J) ?_ ?_
  · exact⟨mle,by omega,wQ (Q:=λu=>nmL s.1.length ((s.2.1.getD f.toNat zA).2.1.getD u [])) O (λu hu=>hi2 u oM)⟩
  omega
 refine qM ?_;refine zC I I ?_;exact(xM (λu hu=>O u oM)).symm
theorem zDT{k m n j:Nat}{vs:Value}{s:Sq}(rs:(tSd k m n j).Is h0 vs s){f:Int}(hf1:-9223372036854775808<=f)(hf2:f<9223372036854775808)(hcd0:s.1.length<=100000)(hcd1:∀f,f<s.2.1.length->(s.2.1.getD f zA).2.1.length<=10000/\∀l,l<(s.2.1.getD f zA).2.1.length->((s.2.1.getD f zA).2.1.getD l []).length<=10000):
 Calls Tryz.prog 118 #[vs,vI f] w0 (Ret w0 h0 (λh r=>(tLL (k+1)).Is h r (vT s f))):=by
 refine cb2 65 vs (vI f) func118 hs ?_;refine go2 ?_;refine nB rs λb2 an ab=>(go8 ?_);refine gU 7 18 (vB ((f<(0:Int))\/((↑(s.2.1).length:Int)<=f))) ?_ ?_
 ·
  refine zY (f<(0:Int)) (λZ=>?_) (λZ=>?_)
  ·
   refine gT Z I (go7 ?_);refine gqU ?_;exact congrArg some (vD Z)
  refine gF Z I (go5 ?_);refine lX (xB kR (Pc.snd (Pc.fst pH)) ab) λct cv=>(go6 ?_);refine gqU ?_;exact congrArg some (vG Z)
 refine qB (ι:=Mem) 6 (λm_=>MLe h0 m_) (λ_=>[(24,vB (((f<(0:Int))\/((↑(s.2.1).length:Int)<=f))\/(¬(nmP s f.toNat)))),(1,vI f),(2,vP b2 0)]) (λ_=>[.var b2 39 an]) (λm_=>m_) ?_ ?_
 ·
  refine zY ((f<(0:Int))\/((↑(s.2.1).length:Int)<=f)) (λZ=>?_) (λZ=>?_)
  ·
   refine gT Z I (go6 ?_);refine zS h0 (MLe.refl _) ⟨?_,I,I,trivial⟩ I I;exact congrArg some (vD Z)
  refine gF Z I (go1 ?_);refine lX (xB jB pH ab) λcq bt=>(go3 ?_);refine cL (ev2 I I) call158 (λw hs=>zIR hs bt oM oM oM (by first|omega|exact Nat.le_trans (hcd1 f.toNat oM).1 dC|exactλl hl=>Nat.le_trans ((hcd1 f.toNat oM).2 l hl) dC) (by first|omega|exact Nat.le_trans (hcd1 f.toNat oM).1 dC|exactλl hl=>Nat.le_trans ((hcd1 f.toNat oM).2 l hl) dC) (by first|omega|exact Nat.le_trans (hcd1 f.toNat oM).1 dC|exactλl hl=>Nat.le_trans ((hcd1 f.toNat oM).2 l hl) dC)) λbg h1 ac bs=>?_;obtain rfl:bg=vB (nmP s f.toNat):=bs;refine go4 ?_;refine zS h1 ac ⟨?_,I,I,trivial⟩ I I;exact congrArg some (vG Z)
 intro J ay;refine tY ?_;refine gc2 (λaa=>?_) λaa=>?_
 ·
  refine go7 ?_;refine zC I I ?_;exact(Rp.Is.cast (oT _) (by exact(if_neg (λe=>aa.elim (λh=>by omega) (λh=>h e.2))).symm))
 have aw:(0<=f/\f<↑s.2.1.length)/\nmP s f.toNat:=by constructor;exact oM;exact Classical.not_not.1 (λe=>aa (.inr e))
 have ax:∀l,l<(s.2.1.getD f.toNat zA).2.1.length->∀q,q<((s.2.1.getD f.toNat zA).2.1.getD l []).length->0<=((s.2.1.getD f.toNat zA).2.1.getD l []).getD q 0/\((s.2.1.getD f.toNat zA).2.1.getD l []).getD q 0<↑s.1.length:=λl hl q hq=>aw.2 l hl q hq;have az:=hcd1 f.toNat oM;refine uG ?_;refine lX (xB kR (Pc.snd (Pc.fst pH)) ab) λcp br=>(go1 ?_);refine lX (xI zA f.toNat underlying36 pV br) λco bq=>(lX (xF underlying53 sizeOf51 (Pc.snd (Pc.fst pH)) bq) λcn bp=>(lX (xA pW bp) λao av=>(uG ?_)));refine xG 35 1 ?_;have ak:=RL.nil (ρ:=rpS (tPt (k+1))) (h:=J);refine gcL (ι:=Nat×List (List Tq)×Value×List Value×Mem) (λ(l,D,C,G,ml)=>(MLe J ml/\(RL (tLs (k+1)) ml G D/\l<=(s.2.1.getD f.toNat zA).2.1.length/\D=zG6 s f.toNat l),[(2,vP b2 0),(5,C),(6,ao),(7,vI ↑l)],[.gs 35 1 C D.length G,.var b2 39 an],ml,(s.2.1.getD f.toNat zA).2.1.length-l)) (0,[],(.slice none 0 0),[],J) ?_ ?_
 · exact⟨mle,ak,by omega,I⟩
 rintro⟨l,D,C,G,ml⟩ ⟨bx,U,de,hD⟩
 refine yW ?_;have dd:D.length=l:=by rw[hD];exact yY _ _
 refine gc9 (λbb=>?_) λbb=>?_
 ·
  refine zAG ?_;refine xG 31 9 ?_;have aj:=RL.nil (ρ:=rpT (rpQ (k+1))) (h:=ml);refine gcL (ι:=Nat×List Tq×Value×List Value×Mem) (λ(q,YY,H,M,mq)=>(MLe ml mq/\(RL (tPt (k+1)) mq M YY/\q<=((s.2.1.getD f.toNat zA).2.1.getD l []).length/\YY=zFK s.1 ((s.2.1.getD f.toNat zA).2.1.getD l []) q),[(2,vP b2 0),(5,C),(6,ao),(7,vI ↑l),(8,H),(9,vI ↑q)],[.gs 31 9 H YY.length M,.gs 35 1 C D.length G,.var b2 39 an],mq,((s.2.1.getD f.toNat zA).2.1.getD l []).length-q)) (0,[],(.slice none 0 0),[],ml) ?_ ?_
  · exact⟨mle,aj,by omega,I⟩
  rintro⟨q,YY,H,M,mq⟩ ⟨bw,O,db,am⟩
  refine yW ?_;have dc:YY.length=q:=by rw[am];exact yY _ _
  have bu:=az.2 l oM;refine go6 ?_;refine lX (xI [] l underlying51 fK av) λcm bo=>(lX (xA fK bo) λcl cu=>(gc4 (λba=>?_) λba=>?_))
  ·
   refine go4 ?_;refine qG (A:=[]) 15 [] [(0,.q),(1,.q),(2,.q),(3,.q),(4,.q),(5,.q),(6,.q),(7,.q),(8,.q),(9,.q),(10,.q),(11,.q),(12,.c),(13,.c),(14,.q)] yA nX (wJ zou) nX (go2 ?_);refine wX I (xB uO (Pc.fst pH) ab) λck bn=>(go2 ?_);refine wX I (xI [] l underlying51 fK av) λcj bm=>(wX I (xA fK bm) λci bl=>(go1 ?_));refine wX I (xI (0:Int) q underlying22 ty3 bl) λch bk=>(wX I (xA ty3 bk) λcg bj=>?_);obtain⟨rfl,bz,bv⟩:=kS bj;refine aD (F:=λv_=>AtP (tPt k) mq v_ (s.1.getD ((((s.2.1.getD f.toNat zA).2.1.getD l []).getD q 0).toNat) zT)) I (rI zT ((((s.2.1.getD f.toNat zA).2.1.getD l []).getD q 0).toNat) underlying35 zM I I bn (by(have h:=ax l oM q oM;omega)) (by(have h:=ax l oM q oM;omega)) nP) zBN I ?_;intro cf bi;refine wX I (xA zM bi) λce bh=>?_;refine w_c I (jN (λX=>zL (ρ:=(tPt (k+1))) (m:=1) (xs:=[(s.1.getD ((((s.2.1.getD f.toNat zA).2.1.getD l []).getD q 0).toNat) zT)]) (ps':=[(0,_)]) underlying35 yM I I I (xO (yI oM)) e2z (zD I (Pc.arr (Pc.here _) zT 0 dC) (bh.le (Le.t (Le.q (l:=k+1) oM))) zO) zok nP) I ?_)
   rintro cd da ⟨cb,rfl,au⟩
   refine w_c I (xS (A:=[]) (ρ:=(tPt (k+1))) au dK ?_);intro h1 ac ai;refine fF (A:=[]) (λX=>zU (ρ:=(tPt (k+1))) (bytes:=168) underlying35 yM I I I I nP I I O.up ai bO bO) I (xJ zoy) ?_
   rintro bf cz ⟨bd,rfl,ar⟩
   refine go9 ?_;refine gqL ((q+1),(YY++[(s.1.getD ((((s.2.1.getD f.toNat zA).2.1.getD l []).getD q 0).toNat) zT)]),bf,bd,h1) ?_ ?_
   · exact⟨mle,ar,by omega,by rw[am];rfl⟩
   omega
  have eq:q=((s.2.1.getD f.toNat zA).2.1.getD l []).length:=by omega
  have bu:=az.2 l oM;refine go8 ?_;refine zP (A:=[]) (ρ:=(tPt (k+1))) O.up ?_;intro h1 ac ah;refine zG (zL (ρ:=(tLs (k+1))) (m:=1) (xs:=[YY]) (ps':=[(0,_)]) underlying76 cZ I I I wG e2z (zD I (Pc.arr (Pc.here _) [] 0 dC) ah zO) zoj nP) I I I ?_
  rintro cc cy ⟨ca,rfl,aq⟩
  refine zP (A:=[]) (ρ:=(tLs (k+1))) aq ?_;intro h2 df ae;refine xL (A:=[]) (zU (ρ:=(tLs (k+1))) (bytes:=24) underlying76 cZ I I I I nP I I U.up ae bO bO) I I I ?_
  rintro be cw ⟨bc,rfl,ap⟩
  refine go9 ?_;refine gqL ((l+1),(D++[YY]),be,bc,h2) ?_ ?_
  · exact⟨mle,ap,by omega,by rw[hD,am,eq];rfl⟩
  omega
 have el:l=(s.2.1.getD f.toNat zA).2.1.length:=by omega
 refine uV ?_;refine wS (A:=[]) (ρ:=(tLs (k+1))) U.up ?_;intro h1 ac ad;refine zC I I ?_;exact(Rp.Is.cast ad (by rw[hD,el];exact(if_pos aw).symm))
theorem zD6{m n k:Nat}{vpl:Value}{pl:Pq}(rpl:(tPl m n).Is h0 vpl pl){vl:Value}{l:(List Tq)}(rl:(tLs k).Is h0 vl l)(hcd0:k<=100000000)(hcd1:m<=100000000)(hcd2:n<=100000000)(hcd3:l.length<=100000):
 Calls Tryz.prog 187 #[vpl,vl] w0 (Ret w0 h0 (λh r=>(tLs (k+1)).Is h r (flA pl l l.length))):=by
 refine cb2 23 vpl vl func187 hs ?_;refine go2 ?_;refine nB rpl λb2 am ad=>(rA ?_);refine xG 31 9 ?_;have O:=RL.nil (ρ:=rpT (rpQ (k+1))) (h:=h0);refine gcL (ι:=Nat×List Tq×Value×List Value×Mem) (λ(i,D,C,G,mi)=>(MLe h0 mi/\(RL (tPt (k+1)) mi G D/\i<=l.length/\D=flA pl l i),[(1,vl),(2,vP b2 0),(5,C),(6,vI ↑i)],[.gs 31 9 C D.length G,.var b2 50 am],mi,l.length-i)) (0,[],(.slice none 0 0),[],h0) ?_ ?_
 · exact⟨mle,O,by omega,I⟩
 rintro⟨i,D,C,G,mi⟩ ⟨an,H,ay,hD⟩
 refine yW ?_;have ba:D.length=i:=by rw[hD];exact yY _ _
 refine gc9 (λaa=>?_) λaa=>?_
 ·
  refine go4 ?_;refine qG (A:=[]) 10 [] [(0,.q),(1,.q),(2,.q),(3,.q),(4,.q),(5,.q),(6,.c),(7,.c),(8,.c),(9,.q)] yA nX zou nX (go1 ?_);refine wX I (xB bG pH ad) λav aj=>(go2 ?_);refine wX I (xI zT i underlying35 zM rl) λau ai=>(wX I (xA zM ai) λar ah=>?_);refine w_c I (sC (ev2 I I) call112 (λw hs=>zBG hs aj ah oM oM) λaq h1 ak ae=>?_);refine w_c I (jN (λX=>zL (ρ:=(tPt (k+1))) (m:=1) (xs:=[qJ pl (l.getD i zT)]) (ps':=[(0,_)]) underlying35 yM I I I (xO (yI oM)) e2z (zD I (Pc.arr (Pc.here _) zT 0 dC) ae zO) zok nP) I ?_)
  rintro ap ax ⟨ao,rfl,Z⟩
  refine w_c I (xS (A:=[]) (ρ:=(tPt (k+1))) Z dK ?_);intro h2 az M;refine fF (A:=[]) (λX=>zU (ρ:=(tPt (k+1))) (bytes:=168) underlying35 yM I I I I nP I I H.up M bO bO) I (xJ zoy) ?_
  rintro ac aw ⟨ab,rfl,U⟩
  refine go9 ?_;refine gqL ((i+1),(D++[qJ pl (l.getD i zT)]),ac,ab,h2) ?_ ?_
  · exact⟨mle,U,by omega,by rw[hD];rfl⟩
  omega
 have ei:i=l.length:=by omega
 refine uV ?_;refine wS (A:=[]) (ρ:=(tPt (k+1))) H.up ?_;intro h1 ak J;refine zC I I ?_;exact(Rp.Is.cast J (by rw[hD,ei]))
theorem zBF{m n k:Nat}{vpl:Value}{pl:Pq}(rpl:(tPl m n).Is h0 vpl pl){vL:Value}{L:(List (List Tq))}(rL:(tLL k).Is h0 vL L)(hcd0:k<=100000000)(hcd1:m<=100000000)(hcd2:n<=100000000)(hcd3:L.length<=100000)(hcd4:∀l,l<L.length->(L.getD l []).length<=10000):
 Calls Tryz.prog 151 #[vpl,vL] w0 (Ret w0 h0 (λh r=>(tLL (k+1)).Is h r (flL pl L L.length))):=by
 refine cb2 23 vpl vL func151 hs ?_;refine go2 ?_;refine nB rpl λb2 am ad=>(rA ?_);refine xG 35 1 ?_;have O:=RL.nil (ρ:=rpS (tPt (k+1))) (h:=h0);refine gcL (ι:=Nat×List (List Tq)×Value×List Value×Mem) (λ(i,D,C,G,mi)=>(MLe h0 mi/\(RL (tLs (k+1)) mi G D/\i<=L.length/\D=flL pl L i),[(1,vL),(2,vP b2 0),(5,C),(6,vI ↑i)],[.gs 35 1 C D.length G,.var b2 50 am],mi,L.length-i)) (0,[],(.slice none 0 0),[],h0) ?_ ?_
 · exact⟨mle,O,by omega,I⟩
 rintro⟨i,D,C,G,mi⟩ ⟨an,H,ay,hD⟩
 refine yW ?_;have ba:D.length=i:=by rw[hD];exact yY _ _
 refine gc9 (λaa=>?_) λaa=>?_
 ·
  refine go4 ?_;refine qG (A:=[]) 10 [] [(0,.q),(1,.q),(2,.q),(3,.q),(4,.q),(5,.q),(6,.c),(7,.c),(8,.c),(9,.q)] yA nX zou nX (go1 ?_);refine wX I (xB bG pH ad) λav aj=>(go2 ?_);refine wX I (xI [] i underlying76 uO rL) λau ai=>(wX I (xA uO ai) λar ah=>?_);refine w_c I (sC (ev2 I I) call187 (λw hs=>zD6 hs aj ah oM oM oM (by first|omega|exact Nat.le_trans (hcd4 i oM) dC)) λaq h1 ak ae=>?_);refine w_c I (jN (λX=>zL (ρ:=(tLs (k+1))) (m:=1) (xs:=[flA pl (L.getD i []) (L.getD i []).length]) (ps':=[(0,_)]) underlying76 cZ I I I wG e2z (zD I (Pc.arr (Pc.here _) [] 0 dC) ae zO) zoj nP) I ?_)
  rintro ap ax ⟨ao,rfl,Z⟩
  refine w_c I (xS (A:=[]) (ρ:=(tLs (k+1))) Z dK ?_);intro h2 az M;refine fF (A:=[]) (λX=>zU (ρ:=(tLs (k+1))) (bytes:=24) underlying76 cZ I I I I nP I I H.up M bO bO) I (xJ zoy) ?_
  rintro ac aw ⟨ab,rfl,U⟩
  refine go9 ?_;refine gqL ((i+1),(D++[flA pl (L.getD i []) (L.getD i []).length]),ac,ab,h2) ?_ ?_
  · exact⟨mle,U,by omega,by rw[hD];rfl⟩
  omega
 have ei:i=L.length:=by omega
 refine uV ?_;refine wS (A:=[]) (ρ:=(tLs (k+1))) H.up ?_;intro h1 ak J;refine zC I I ?_;exact(Rp.Is.cast J (by rw[hD,ei]))
theorem zF5{k m n j:Nat}{vs:Value}{s:Sq}(rs:(tSd k m n j).Is h0 vs s){f:Nat}(hcd0:k<=1000)(hcd1:m<=100000)(hcd2:n<=100000)(hcd3:s.1.length<=100000)(hcd4:∀f,f<s.2.1.length->(s.2.1.getD f zA).2.1.length<=10000/\∀l,l<(s.2.1.getD f zA).2.1.length->((s.2.1.getD f zA).2.1.getD l []).length<=10000)(hcd5:f<s.2.1.length)(hcd6:s.2.1.length<=100000):
 Calls Tryz.prog 111 #[vs,vI ↑f] w0 (Ret w0 h0 (λh r=>(tLL (k+2)).Is h r (gR s f))):=by
 have C:=yC2 (s:=s) (f:=↑f) hcd4;refine cb2 15 vs (vI ↑f) func111 hs ?_;refine go2 ?_;refine nB rs λb2 ad G=>(go4 ?_);refine zK 11 _ [] [(0,.q),(1,.q),(2,.q),(3,.q),(4,.q),(5,.q),(6,.q),(7,.q),(8,.c),(9,.c),(10,.q)] yA nX zou nX (λr hr=>hr) (go1 ?_);refine wX I (xB kR (Pc.snd (Pc.fst pH)) G) λv6 r6=>(go1 ?_);refine wX I (xI zA f underlying36 pV r6) λv8 r8=>(wX I (xF underlying53 sizeOf50 (Pc.fst pH) r8) λv9 r9=>(wX I (xA bG r9) λaa M=>(wX I (xB jB pH G) λZ J=>(go1 ?_))));refine w_c I (sC (ev2 I I) call118 (λw hs=>zDT hs J oM oM (by first|omega|exact hcd4) (by first|omega|exact hcd4)) λU h1 ac H=>?_);refine w_c I (sC (ev2 I I) call151 (λw hs=>zBF hs M.up H oM oM oM (by first|omega|exact C.1|exactλl hl=>C.2 l) (by first|omega|exact C.1|exactλl hl=>C.2 l)) λO h2 ab D=>?_);replace D:=Rp.Is.le D (Le.s (Le.s (Le.t (Le.q (l:=k+2) oM))));refine go4 ?_;refine zC I I ?_;exact D
theorem s8{kind:Int}(hkind1:-9223372036854775808<=kind)(hkind2:kind<9223372036854775808){face:Int}(hface1:-9223372036854775808<=face)(hface2:face<9223372036854775808){loop:Int}(hloop1:-9223372036854775808<=loop)(hloop2:loop<9223372036854775808){edge:Int}(hedge1:-9223372036854775808<=edge)(hedge2:edge<9223372036854775808):
 Calls Tryz.prog 179 #[vI kind,vI face,vI loop,vI edge] w0 (Ret w0 h0 (λh r=>tE5.Is h r (dg kind face loop edge))):=by
 refine jO (n:=14) (e:=[(0,vI kind),(1,vI face),(2,vI loop),(3,vI edge)]) (vs:=[vI kind,vI face,vI loop,vI edge]) func179 rfl rfl (bL rfl) hs e4z (go2 ?_);refine nA (ρ:=tE5) (X:=e50) jR (yC wL (yC wL (yC wL (yC wL wL)))) λb8 Z H=>(go8 ?_);refine lX (xV (ρ:=tE5) (xZ (ps':=[(0,_),(1,_),(2,_),(3,_),(4,_)]) underlying200 jR I I (zCM underlying200) e10 I (yC wL (yC wL (yC wL (yC wL wL)))) (zD I (Pc.fst (Pc.here _)) (wH oM oM) (zD I (Pc.snd (Pc.fst (Pc.here _))) (wH dC dC) (zD I (Pc.snd (Pc.snd (Pc.fst (Pc.here _)))) (wH oM oM) (zD I (Pc.snd (Pc.snd (Pc.snd (Pc.fst (Pc.here _))))) (wH oM oM) (zD I (Pc.snd (Pc.snd (Pc.snd (Pc.snd (Pc.here _))))) (wH oM oM) zO))))))) λU J=>(zW (A:=[]) (uB sizeOf200 pH H J) λM G=>(go3 ?_));refine wT (kJ (t:=8) yJT mh0 I G) ?_;intro O C D;refine yV (λE S=>zV I C E S) ?_;exact D
theorem zW9{k l:Nat}{vp:Value}{p:Tq}(rp:(tPt k).Is h0 vp p){vq:Value}{q:Tq}(rq:(tPt l).Is h0 vq q)(hcd0:k<=100000000)(hcd1:l<=100000000):
 Calls Tryz.prog 137 #[vp,vq] w0 (Ret w0 h0 (λ_ r=>r=vB (lsP p q))):=by
 refine cb2 22 vp vq func137 hs ?_;refine go2 ?_;refine nB rp λG ad M=>(nB rq λD ac J=>(uG ?_));refine gcL (ι:=Nat×Mem) (λ(i,ma)=>(MLe h0 ma/\(i<=3/\∀u,u<i->xT (p.at u) (q.at u)=0),[(2,vP G 0),(3,vP D 0),(5,vI ↑i)],[.var D 31 ac,.var G 31 ad],ma,3-i)) (0,h0) ?_ ?_
 · exact⟨mle,by omega,λu h=>by omega⟩
 rintro⟨i,ma⟩ ⟨ae,aj,hi2⟩
 refine yW ?_;refine gc7 (λab=>?_) λab=>?_
 ·
  refine go5 ?_;refine zK 8 _ [] [(0,.q),(1,.q),(2,.q),(3,.q),(4,.q),(5,.q),(6,.c),(7,.q)] yA nX zou nX (λr hr=>hr) (go1 ?_);refine wI I (λ_ _=>(yG (sz:=3) i underlying31 sizeOf29 I I I oM).cv (show _=vP G ((i*3+0)) from congrArg (vP G) oM)) I (wX I (xB yE (Pc.ta pH i oM) M) λai Z=>(go1 ?_));refine wI I (λ_ _=>(yG (sz:=3) i underlying31 sizeOf29 I I I oM).cv (show _=vP D ((i*3+0)) from congrArg (vP D) oM)) I (wX I (xB yE (Pc.ta pH i oM) J) λah U=>?_);refine w_c I (sC (ev2 I I) call17 (λw hs=>tG hs Z U oM) λH h1 ak O=>?_);obtain rfl:H=vI (xT (p.at i) (q.at i)):=O;have aa:=jA (p.at i) (q.at i);refine gc9 (λC=>?_) λC=>?_
  ·
   refine sO ?_;refine zC I I ?_;exact kF (yKX oM hi2 C)
  refine go8 ?_;refine gqL ((i+1),h1) ?_ ?_
  · exact⟨mle,by omega,wQ (Q:=λu=>xT (p.at u) (q.at u)=0) hi2 (Classical.not_not.1 C)⟩
  omega
 have ei:i=3:=by omega
 refine qM ?_;refine zC I I ?_;exact(yH (yHB λu hu=>hi2 u oM)).symm
theorem zDU{va:Value}{a:(List Int)}(ra:(rpS rpI).Is h0 va a){vb:Value}{b:(List Int)}(rb:(rpS rpI).Is h0 vb b):
 Calls Tryz.prog 139 #[va,vb] w0 (Ret w0 h0 (λ_ r=>r=vI (cI a b))):=by
 have bd:=yKE ra;have bc:=yKE rb;refine cb2 48 va vb func139 hs ?_;refine uV ?_;refine gcL (ι:=Nat×Mem) (λ(i,O)=>(MLe h0 O/\((i<=a.length/\i<=b.length)/\∀u,u<i->a.getD u 0=b.getD u 0),[(0,va),(1,vb),(5,vI ↑i)],[],O,a.length-i)) (0,h0) ?_ ?_
 · exact⟨mle,by omega,λu h=>by omega⟩
 rintro⟨i,O⟩ ⟨an,be,hi2⟩
 refine yW ?_;refine go7 ?_;refine gU 6 15 (vB (((↑i:Int)<(↑(a).length:Int))/\((↑i:Int)<(↑(b).length:Int)))) ?_ ?_
 ·
  refine zY ((↑i:Int)<(↑(a).length:Int)) (λG=>?_) (λG=>?_)
  ·
   refine gT G I (uG ?_);refine gqU ?_;exact congrArg some (xD G)
  refine gF G I (go6 ?_);refine gqU ?_;exact congrArg some (xE G)
 refine gc2 (λM=>?_) λM=>?_
 ·
  refine go5 ?_;refine zK 9 _ [] [(0,.q),(1,.q),(2,.q),(3,.q),(4,.q),(5,.q),(6,.q),(7,.q),(8,.q)] yA nX zou nX (λr hr=>hr) (go2 ?_);refine wX I (xI (0:Int) i underlying22 ty3 ra) λbb ah=>(wX I (xA ty3 ah) λba ae=>?_);obtain⟨rfl,ar,am⟩:=kS ae;refine go2 ?_;refine wX I (xI (0:Int) i underlying22 ty3 rb) λaz ad=>(wX I (xA ty3 ad) λay ac=>?_);obtain⟨rfl,aq,ak⟩:=kS ac;refine gc3 (λC=>?_) λC=>?_
  ·
   refine go2 ?_;refine zK 9 _ [] [(0,.q),(1,.q),(2,.q),(3,.q),(4,.q),(5,.q),(6,.q),(7,.q),(8,.q)] yA nX zou nX (λr hr=>hr) (go2 ?_);refine wX I (xI (0:Int) i underlying22 ty3 ra) λax ab=>(wX I (xA ty3 ab) λaw aa=>?_);obtain⟨rfl,ap,aj⟩:=kS aa;refine go2 ?_;refine wX I (xI (0:Int) i underlying22 ty3 rb) λav Z=>(wX I (xA ty3 Z) λau U=>?_);obtain⟨rfl,ao,ai⟩:=kS U;refine gc3 (λD=>?_) λD=>?_
   ·
    refine uV ?_;refine zC I I ?_;refine congrArg vI ?_;rw[zR4 hi2 oM oM C,if_pos D]
   refine sO ?_;refine zC I I ?_;refine congrArg vI ?_;rw[zR4 hi2 oM oM C,if_neg D]
  refine go8 ?_;refine gqL ((i+1),O) ?_ ?_
  · exact⟨mle,by omega,wQ (Q:=λu=>a.getD u 0=b.getD u 0) hi2 (Classical.not_not.1 C)⟩
  omega
 have ei:i=min a.length b.length:=by omega
 refine nR ?_;refine cnd (λJ=>?_) λJ=>?_
 ·
  refine go8 ?_;refine zC I I ?_;refine congrArg vI ?_;rw[zHA hi2 ei,if_pos oM]
 refine zC5 (λH=>?_) λH=>?_
 ·
  refine go8 ?_;refine zC I I ?_;refine congrArg vI ?_;rw[zHA hi2 ei,if_neg oM,if_pos oM]
 refine go9 ?_;refine zC I I ?_;refine congrArg vI ?_;rw[zHA hi2 ei,if_neg oM,if_neg oM]
theorem zPH{vx:Value}{x:(List Int)}(rx:(rpS rpI).Is h0 vx x)(hcd0:x.length<=100000):
 Calls Tryz.prog 138 #[vx] w0 (Ret w0 h0 (λh r=>(rpS rpI).Is h r (zSZ x))):=by
 refine cb1 29 vx func138 hs ?_;refine nR ?_;refine gcL (ι:=Nat×Mem) (λ(i,D)=>(MLe h0 D/\(i<=x.length),[(0,vx),(3,vI ↑(cO x i)),(4,vI ↑i)],[],D,x.length-i)) (0,h0) ?_ ?_
 · exact⟨mle,oM⟩
 rintro⟨i,D⟩ ⟨ak,O⟩
 refine yW ?_;have bd:=O;have bc:=yDV x i;refine gc9 (λah=>?_) λah=>?_
 ·
  refine go5 ?_;refine zK 9 _ [] [(0,.q),(1,.q),(2,.q),(3,.q),(4,.q),(5,.q),(6,.q),(7,.q),(8,.q)] yA nX zou nX (λr hr=>hr) (go2 ?_);refine wX I (xI (0:Int) i underlying22 ty3 rx) λaz ae=>(wX I (xA ty3 ae) λay ad=>?_);obtain⟨rfl,an,aj⟩:=kS ad;refine go2 ?_;refine wX I (xI (0:Int) (cO x i) underlying22 ty3 rx) λax ac=>(wX I (xA ty3 ac) λaw ab=>?_);obtain⟨rfl,am,ai⟩:=kS ab;refine gc3 (λC=>?_) λC=>?_
  ·
   refine qM ?_;refine gqL ((i+1),D) ?_ ?_ (he:=⟨I,congrArg (λz:Nat=>some (vI ↑z)) (mn_t C),I,trivial⟩)
   · exact⟨mle,oM⟩
   omega
  refine go8 ?_;refine gqL ((i+1),D) ?_ ?_ (he:=⟨I,congrArg (λz:Nat=>some (vI ↑z)) (mn_f C),I,trivial⟩)
  · exact⟨mle,oM⟩
  omega
 have ei:i=x.length:=by omega
 refine go6 ?_;refine zK 9 _ [] [(0,.q),(1,.q),(2,.q),(4,.q),(5,.q),(6,.q),(3,.c),(7,.c),(8,.q)] yA nX zou nX (λr hr=>hr) (go2 ?_);refine aD (F:=λU=>(rpS rpI).Is D U (x.drop (cO x i))) I (zOZ (ρ:=rpI) (cO x i) underlying22 sizeOf3 I I rx.up oM oM) zBN I ?_;intro av aa;refine go2 ?_;refine aD (F:=λU=>(rpS rpI).Is D U (x.take (cO x i))) I (zO0 (ρ:=rpI) (cO x i) underlying22 sizeOf3 I I rx.up oM oM) zBN I ?_;intro ar Z;refine w_c I (iB 3 1 ?_);have H:=RL.nil (ρ:=rpI) (h:=D);refine fF (A:=[]) (λX=>zU (ρ:=rpI) (bytes:=8) underlying22 jV I I I I nP I I H aa zo6 zo6) I (xJ zoy) ?_
 rintro au bb ⟨ap,rfl,M⟩
 refine w_c I (fF (A:=[]) (λX=>zU (ρ:=rpI) (bytes:=8) underlying22 jV I I I I nP I I M Z zo6 zo6) I (xJ zoy) ?_)
 rintro aq ba ⟨ao,rfl,J⟩
 refine go4 ?_;refine wS (A:=[]) (ρ:=rpI) J ?_;intro h1 be G;refine zC I I ?_;exact(Rp.Is.cast G (by rw[ei,List.nil_append];rfl))
theorem zKD{m n k l:Nat}{va:Value}{a:(Pq×((List (List Int))×(List Nat)))}(ra:(tFc m n).Is h0 va a){vb:Value}{b:(Pq×((List (List Int))×(List Nat)))}(rb:(tFc k l).Is h0 vb b)(hcd0:a.2.1.length<=100000)(hcd1:b.2.1.length<=100000):
 Calls Tryz.prog 91 #[va,vb] w0 (Ret w0 h0 (λ_ r=>r=vB (lsF a b))):=by
 refine cb2 53 va vb func91 hs ?_;refine go2 ?_;refine nB ra λb2 au D=>(nB rb λb3 ar C=>(go7 ?_));refine lX (xB ty9 (Pc.snd (Pc.snd pH)) D) λv8 r8=>?_;obtain⟨rfl,aq⟩:=kL r8;refine go1 ?_;refine lX (xB ty9 (Pc.snd (Pc.snd pH)) C) λbi ao=>?_;obtain⟨rfl,aa⟩:=kL ao;refine gv (zWP (pa:=a.2.2) (pb:=b.2.2) aq aa I I) I (gc2 (λH=>?_) λH=>?_)
 ·
  refine go3 ?_;refine lX (xB ty9 (Pc.snd (Pc.snd pH)) D) λbh an=>?_;obtain⟨rfl,Z⟩:=kL an;refine go1 ?_;refine lX (xB ty9 (Pc.snd (Pc.snd pH)) C) λbg am=>?_;obtain⟨rfl,U⟩:=kL am;refine gv (zWS (pa:=a.2.2) (pb:=b.2.2) Z U I I) I (go5 ?_);refine zC I I ?_;exact kF (Iff.of_eq (if_neg H).symm)
 have J:a.2.2=b.2.2:=Classical.not_not.1 H;refine go9 ?_;refine gcL (ι:=Nat×Mem) (λ(i,ma)=>(MLe h0 ma/\((i<=a.2.1.length/\i<=b.2.1.length)/\∀u,u<i->cI (a.2.1.getD u []) (b.2.1.getD u [])=0),[(2,vP b2 0),(3,vP b3 0),(5,vI ↑i)],[.var b3 53 ar,.var b2 53 au],ma,a.2.1.length-i)) (0,h0) ?_ ?_
 · exact⟨mle,by omega,λu h=>by omega⟩
 rintro⟨i,ma⟩ ⟨av,bn,hi2⟩
 refine yW ?_;refine go5 ?_;refine lX (xB pW (Pc.snd (Pc.fst pH)) D) λbf bm=>(go2 ?_);refine gU 7 28 (vB (((↑i:Int)<(↑(a.2.1).length:Int))/\((↑i:Int)<(↑(b.2.1).length:Int)))) ?_ ?_
 ·
  refine zY ((↑i:Int)<(↑(a.2.1).length:Int)) (λM=>?_) (λM=>?_)
  ·
   refine gT M I (go5 ?_);refine lX (xB pW (Pc.snd (Pc.fst pH)) C) λbe bl=>(go6 ?_);refine gqU ?_;exact congrArg some (xD M)
  refine gF M I (go7 ?_);refine gqU ?_;exact congrArg some (xE M)
 refine gc2 (λO=>?_) λO=>?_
 ·
  refine go5 ?_;refine zK 12 _ [] [(0,.q),(1,.q),(2,.q),(3,.q),(4,.q),(5,.q),(6,.q),(7,.q),(8,.q),(9,.q),(10,.c),(11,.q)] yA nX (wJ zou) nX (λr hr=>hr) (go1 ?_);refine wX I (xB pW (Pc.snd (Pc.fst pH)) D) λbd ak=>(go1 ?_);refine wX I (xI [] i underlying51 fK ak) λbc aj=>(wX I (xA fK aj) λbb ai=>(go1 ?_));refine wX I (xB pW (Pc.snd (Pc.fst pH)) C) λba ah=>(go1 ?_);refine wX I (xI [] i underlying51 fK ah) λaz ae=>(wX I (xA fK ae) λay ad=>?_);refine w_c I (sC (ev2 I I) call139 (λw hs=>zDU hs ai ad) λab h1 bo ac=>?_);obtain rfl:ab=vI (cI (a.2.1.getD i []) (b.2.1.getD i [])):=ac;have ap:=zAJ (a.2.1.getD i []) (b.2.1.getD i []);refine gc9 (λG=>?_) λG=>?_
  ·
   refine sO ?_;refine zC I I ?_;exact kF ((yB9 hi2 oM oM G).symm.trans (Iff.of_eq (if_pos J).symm))
  refine go8 ?_;refine gqL ((i+1),h1) ?_ ?_
  · exact⟨mle,by omega,wQ (Q:=λu=>cI (a.2.1.getD u []) (b.2.1.getD u [])=0) hi2 (Classical.not_not.1 G)⟩
  omega
 have ei:i=min a.2.1.length b.2.1.length:=by omega
 refine go8 ?_;refine lX (xB pW (Pc.snd (Pc.fst pH)) D) λax bk=>(go2 ?_);refine lX (xB pW (Pc.snd (Pc.fst pH)) C) λaw bj=>(go6 ?_);refine zC I I ?_;exact kF (Iff.trans oM ((zXX hi2 ei).symm.trans (Iff.of_eq (if_pos J).symm)))
theorem zTN{m n:Nat}{vs:Value}{s:Pq}(rs:(tPl m n).Is h0 vs s)(hcd0:m<=10000000)(hcd1:n<=10000000):
 Calls Tryz.prog 66 #[vs] w0 (Ret w0 h0 (λh r=>(tPl (4*m+10) (m+n+10)).Is h r (scZ s))):=by
 refine cb1 36 vs func66 hs ?_;refine go2 ?_;refine nB rs λb1 be G=>(nA (ρ:=(tPl 1 1)) (X:=(zT,(0:Rat))) sM (yC (xO (yI dC)) (yI dC)) λb2 bd ai=>(go9 ?_));refine gcL (ι:=Nat×Mem) (λ(i,ma)=>(MLe h0 ma/\(i<=3/\∀u,u<i->yR (s.1.at u)=0),[(1,vP b1 0),(2,vP b2 0),(3,vI ↑i)],[.var b2 50 bd,.var b1 50 be],ma,3-i)) (0,h0) ?_ ?_
 · exact⟨mle,by omega,λu h=>by omega⟩
 rintro⟨i,ma⟩ ⟨bg,bx,hi2⟩
 refine yW ?_;refine gc7 (λbb=>?_) λbb=>?_
 ·
  refine go8 ?_;refine gv ((yG (sz:=3) i underlying31 sizeOf29 I I I oM).cv (show _=vP b1 ((i*3+0)) from congrArg (vP b1) oM)) I (lX (xB yE (Pc.fst (Pc.ta pH i oM)) G) λbw az=>(cL (ev1 I) call48 (λw hs=>uD hs az oM) λaj h1 ce ay=>?_));obtain rfl:aj=vI (yR (s.1.at i)):=ay;have ba:=yX (s.1.at i);refine gc3 (λD=>?_) λD=>?_
  ·
   refine go1 ?_;refine zK 13 _ [(10,(4,29,[.bool false,.slice none 0 0,.slice none 0 0]))] [(1,.q),(2,.q),(3,.q),(4,.q),(0,.c),(5,.c),(6,.c),(7,.q),(8,.q),(9,.q),(10,.a),(11,.c),(12,.q)] yA (jM.cons I I (uR xR I I) jM.nil) (wJ zou) (uU I I kU) (λr hr=>hr) (go2 ?_);refine wI I (λ_ _=>(yG (sz:=3) i underlying31 sizeOf29 I I I oM).cv (show _=vP b1 ((i*3+0)) from congrArg (vP b1) oM)) I (wX I (xB yE (Pc.fst (Pc.ta pH i oM)) G) λbu aw=>?_);refine w_c I (sC (vs:=[vI (1)]) ⟨I,trivial⟩ call27 (λw hs=>kM hs dC dC) λbv h2 cd ax=>?_);refine w_c I (sC (ev1 I) call103 (λw hs=>zPD hs aw.up oM) λbt h3 cc av=>?_);refine w_c I (sC (ev2 I I) call81 (λw hs=>zFX hs ax.up av oM) λbs h4 cb au=>?_);obtain⟨M,rfl,C⟩:=au
   change (rpQ (2+m)).Is h4 M (if(iU (s.1.at i))=0 then 0 else(((1:Int):Int):Rat)/(iU (s.1.at i))) at C
   replace C:=Rp.Is.le C (Le.q (l:=m+2) oM);refine go3 ?_;refine w_a I I (λb4=>?_);have ak:(rpQ 1).R h4 [.bool false,.slice none 0 0,.slice none 0 0] (0:Rat):=(yI dC);refine w_c I ?_;have ae:=(Le.q (l:=m+2) oM).R ak;refine pY (A:=[]) (uB sizeOf29 pH ae C) (xJ zoy) λbi J=>(go4 ?_);refine zK 9 _ [] [(0,.q),(1,.q),(2,.q),(4,.q),(5,.q),(6,.q),(3,.c),(7,.c),(8,.q),(9,.t)] yA nX zou nX (λr hr=>hr) (wX I (xB yE pH J) λbr ar=>(go1 ?_));refine wX I (xB zM (Pc.fst pH) G) λbq aq=>(wX I (xB yE pH J) λbo ap=>(go1 ?_));refine wX I (xB yE (Pc.snd pH) G) λbn ao=>?_;refine w_c I (sC (ev2 I I) call20 (λw hs=>zF2 hs ar aq oM) λbp h5 ca ab=>?_);replace ab:=Rp.Is.le ab (Le.t (Le.q (l:=4*m+7) oM));refine w_c I (sC (ev2 I I) call53 (λw hs=>qW hs ap.up ao.up oM) λbm h6 bz aa=>?_);replace aa:=Rp.Is.le aa (Le.q (l:=m+n+2) oM);refine wX I (xV (ρ:=(tPl (4*m+7) (m+n+2))) (xZ (ps':=[(0,_),(1,_)]) underlying50 sM I I (rG underlying50) e4z I (yC (xO (yI oM)) (yI oM)) (zD I (Pc.fst (Pc.here _)) ab.up (zD I (Pc.snd (Pc.here _)) aa zO)))) λbl an=>?_;have ad:=(Le.p (Le.t (Le.q (l:=4*m+7) oM)) (Le.q (l:=m+n+2) oM)).R ai;refine yK (A:=[_]) I (uB sizeOf50 pH ad an) λbh ah=>(go8 ?_);refine wT (kJ (t:=2) bG mh1 I ah) ?_;intro bj ac U;refine yV (λE S=>zV I ac E S) ?_;exact(Rp.Is.cast (Rp.Is.le U (Le.p (Le.t (Le.q (l:=4*m+10) oM)) (Le.q (l:=m+n+10) oM))) (by exact yKB oM hi2 D))
  refine go8 ?_;refine gqL ((i+1),h1) ?_ ?_
  · exact⟨mle,by omega,wQ (Q:=λu=>yR (s.1.at u)=0) hi2 (Classical.not_not.1 D)⟩
  omega
 have ei:i=3:=by omega
 refine go7 ?_;refine lX (xV (ρ:=(tPl 1 1)) (xZ (ps':=[]) underlying50 sM I I (rG underlying50) trivial I (yC (xO (yI dC)) (yI dC)) zO)) λbk am=>(zW (A:=[]) (uB sizeOf50 pH ai am) λbc Z=>(go3 ?_));refine wT (kJ (t:=2) bG mh0 I Z) ?_;intro bf H O;refine yV (λE S=>zV I H E S) ?_;exact(Rp.Is.cast (Rp.Is.le O (Le.p (Le.t (Le.q (l:=4*m+10) oM)) (Le.q (l:=m+n+10) oM))) (by exact yGE λu hu=>hi2 u oM))
theorem zDS{vx:Value}{x:(List Int)}(rx:(rpS rpI).Is h0 vx x)(hcd0:x.length<=100000):
 Calls Tryz.prog 67 #[vx] w0 (Ret w0 h0 (λh r=>(rpS rpI).Is h r (zCH x x.length))):=by
 refine cb1 20 vx func67 hs ?_;refine go20 ?_;refine xG 3 1 ?_;have O:=RL.nil (ρ:=rpI) (h:=h0);refine gcL (ι:=Nat×List Int×Value×List Value×Mem) (λ(i,D,C,G,ma)=>(MLe h0 ma/\(RL rpI ma G D/\i<=x.length/\D=zCH x i),[(0,vx),(3,C),(4,vI (↑x.length-1-↑i))],[.gs 3 1 C D.length G],ma,x.length-i)) (0,[],(.slice none 0 0),[],h0) ?_ ?_ (he:=⟨I,I,congrArg (λz=>some (vI z)) oM,trivial⟩)
 · exact⟨mle,O,by omega,I⟩
 rintro⟨i,D,C,G,ma⟩ ⟨aj,H,au,hD⟩
 refine yW ?_;have av:D.length=i:=by rw[hD];exact yY _ _
 refine gc7 (λah=>?_) λah=>?_
 ·
  refine go8 ?_;refine lX (xI (0:Int) (x.length-1-i) underlying22 ty3 rx) λap ad=>(lX (xA ty3 ad) λao ac=>?_);obtain⟨rfl,ak,ai⟩:=kS ac;refine zG (zL (ρ:=rpI) (m:=1) (xs:=[(x.getD (x.length-1-i) (0:Int))]) (ps':=[(0,_)]) underlying22 jV I I I wL e2z (zD I (Pc.arr (Pc.here _) (0:Int) 0 dC) (wH oM oM) zO) zoj nP) I I I ?_
  rintro an ar ⟨am,rfl,Z⟩
  refine zP (A:=[]) (ρ:=rpI) Z ?_;intro h1 ae M;refine xL (A:=[]) (zU (ρ:=rpI) (bytes:=8) underlying22 jV I I I I nP I I H.up M bO bO) I I I ?_
  rintro ab aq ⟨aa,rfl,U⟩
  refine go9 ?_;refine gqL ((i+1),(D++[(x.getD (x.length-1-i) (0:Int))]),ab,aa,h1) ?_ ?_ (he:=⟨I,I,congrArg (λz=>some (vI z)) oM,trivial⟩)
  · exact⟨mle,U,by omega,by rw[hD];rfl⟩
  omega
 have ei:i=x.length:=by omega
 refine uV ?_;refine wS (A:=[]) (ρ:=rpI) H.up ?_;intro h1 ae J;refine zC I I ?_;exact(Rp.Is.cast J (by rw[hD,ei]))
theorem zTO{k m n j:Nat}{vs:Value}{s:Sq}(rs:(tSd k m n j).Is h0 vs s)(hcd0:k<=1000)(hcd1:okS s)(hcd2:nmA s):
 Calls Tryz.prog 89 #[vs] w0 (Ret w0 h0 (λh r=>(rpS rpI).Is h r (aI s s.1.length))):=by
 have dx:=hcd1.1.1.1;have dw:=hcd1.1.1.2;have be:=sV s;refine cb1 80 vs func89 hs ?_;refine go2 ?_;refine nB rs λb1 ba aj=>(go6 ?_);refine lX (xB uO (Pc.fst pH) aj) λdq dt=>(go1 ?_);refine zG (zIW (ρ:=rpB) (X:=False) (by':=1) s.1.length underlying162 zYH I I I I zSH I I zo3 zo3 bO bO) I I I ?_
 rintro bs du ⟨bn,rfl,bd⟩
 refine go5 ?_;refine lX (xB jB pH aj) λdp ci=>(cL (ev1 I) call136 (λw hs=>zIS hs ci (by first|omega|exact hcd1.mem) (by first|omega|exact hcd1.mem)) λdn h1 eb ch=>(cL (ev1 I) call135 (λw hs=>zF0 hs ch (by first|omega|exactλf hf=>(by rw[be] at hf;rw[mK hf];exact hcd1.2.1 f hf)) (by first|omega|exactλf hf=>(by rw[be] at hf;rw[mK hf];exact hcd1.2.1 f hf))) λbr h2 ea cg=>(go6 ?_)));have ec:=yCV hcd1;have hE:∀q,q<(edZ (vN s)).length->0<=((edZ (vN s)).getD q e50).1/\((edZ (vN s)).getD q e50).1<↑s.1.length:=λq hq=>zUE hcd2 hq;refine go4 ?_;refine gcL (ι:=Nat×List Prop×Value×List Value×Mem) (λ(i,U,C,O,ma)=>(MLe h2 ma/\(RL rpB ma O U/\(i<=(edZ (vN s)).length/\U.length=s.1.length)/\∀u,u<s.1.length->(U.getD u False↔zJK (edZ (vN s)) i u)),[(1,vP b1 0),(3,C),(4,br),(5,vI ↑i)],[.gs 4 1 C U.length O,.var b1 39 ba],ma,(edZ (vN s)).length-i)) (0,(List.replicate s.1.length False),bs,bn,h2) ?_ ?_
 · exact⟨mle,bd.up,⟨by omega,List.length_replicate⟩,λu h=>by rw[zS0 h];exact⟨False.elim,λ⟨q,h,_⟩=>by omega⟩⟩
 rintro⟨i,U,C,O,ma⟩ ⟨cw,ak,⟨dy,bj⟩,bi⟩
 refine yW ?_;refine gc9 (λbh=>?_) λbh=>?_
 ·
  refine go8 ?_;refine lX (xI e50 i underlying163 w4 cg) λdm cf=>(lX (xF underlying168 sizeOf3 (Pc.fst pH) cf) λdl ce=>(lX (xA ty3 ce) λdk cd=>?_));obtain⟨rfl,cz,cq⟩:=kS cd;refine gv ((yU (((edZ (vN s)).getD i e50).1.toNat) mh0 underlying162 sizeOf4 I I (by(have:=hE i oM;omega)) (by(have:=hE i oM;omega)) nP).cv (show _=zI 1 C ((((edZ (vN s)).getD i e50).1.toNat*1+0)) from congrArg (zI 1 C) zo3)) I (fT (A:=[]) (F:=λc_=>RL rpB ma c_ (U.set (((edZ (vN s)).getD i e50).1.toNat) True)) (rU sizeOf4 (Pc.arr (Pc.here _) False (((edZ (vN s)).getD i e50).1.toNat) (by(have:=hE i oM;omega))) I nP I I ak (yKY) I) ?_);intro bk bc;refine go8 ?_;refine gqL ((i+1),(U.set (((edZ (vN s)).getD i e50).1.toNat) True),C,bk,ma) ?_ ?_
  · exact⟨mle,bc,⟨by omega,by rw[lS];exact bj⟩,zUX bj bi (hE i oM).1 (hE i oM).2⟩
  omega
 have av:∀u,u<s.1.length->(U.getD u False↔zJK (edZ (vN s)) (edZ (vN s)).length u):=λu hu=>by rw[show(edZ (vN s)).length=i by omega];exact bi u hu
 refine nR ?_;refine xG 3 1 ?_;have bb:=RL.nil (ρ:=rpI) (h:=ma);refine gcL (ι:=Nat×List Int×Value×List Value×Mem) (λ(i,D,H,M,mb)=>(MLe ma mb/\(RL rpI mb M D/\i<=s.1.length/\D=aI s i),[(1,vP b1 0),(3,C),(6,H),(7,vI ↑i)],[.gs 3 1 H D.length M,.gs 4 1 C U.length O,.var b1 39 ba],mb,s.1.length-i)) (0,[],(.slice none 0 0),[],ma) ?_ ?_
 · exact⟨mle,bb,by omega,I⟩
 rintro⟨i,D,H,M,mb⟩ ⟨cu,J,hi2,hD⟩
 refine yW ?_;have ed:D.length<=i:=by rw[hD];exact zPA s i
 refine go5 ?_;refine lX (xB uO (Pc.fst pH) aj) λdj dr=>(gc4 (λbg=>?_) λbg=>?_)
 ·
  refine go9 ?_;refine gv ((yU i mh1 underlying162 sizeOf4 I I I bO nP).cv (show _=zI 1 C ((i*1+0)) from congrArg (zI 1 C) zo3)) I (zHW (F:=λv_=>rpB.Is mb v_ (U.getD i False)) (wM ty4 (Pc.arr (Pc.here _) False i bO) I nP I ak.up I) (tQ mh1) I ?_);intro di cc;obtain rfl:=yG0 cc;refine gc3 (λae=>?_) λae=>?_
  ·
   refine go9 ?_;refine gqL ((i+1),D,H,M,mb) ?_ ?_
   · exact⟨mle,J,by omega,by rw[hD];exact(if_neg (λe=>ae ((av i oM).2 e))).symm⟩
   omega
  refine go5 ?_;refine gv (jZ mh0 underlying22 I) I (go5 ?_);refine gcL (ι:=Nat×Mem) (λ(G,mk)=>(MLe mb mk/\(G<=D.length/\aM (zTC s D i) D.length=aM (zTC s D i) G),[(1,vP b1 0),(3,C),(6,H),(7,vI ↑i),(8,vI ↑G)],[.gs 3 1 H D.length M,.gs 4 1 C U.length O,.var b1 39 ba],mk,G)) (D.length,mb) ?_ ?_ (he:=e5)
  · exact⟨mle,by omega,I⟩
  rintro⟨G,mk⟩ ⟨ct,dv,ax⟩
  refine yW ?_;refine go2 ?_;refine zK 19 _ [] [(0,.q),(1,.q),(2,.q),(3,.q),(4,.q),(5,.q),(6,.q),(7,.q),(8,.q),(9,.q),(10,.q),(11,.q),(12,.q),(13,.q),(14,.q),(15,.q),(16,.q),(17,.c),(18,.q)] yA nX (wJ zou) nX (λr hr=>hr) (go3 ?_);refine jH ((0:Int)<(↑G:Int)) (λac=>?_) (λac=>?_)
  ·
   rw[xM ac];refine go1 ?_;refine oX I (xB uO (Pc.fst pH) aj) λdh cb=>(yS I I I (λh' L' hh hR=>yZ I) I (oX I (xI zT i underlying35 zM cb) λdf ca=>(oX I (xA zM ca) λde bz=>(go1 ?_))));refine oX I (xB uO (Pc.fst pH) aj) λdd bx=>(yS I I I (λh' L' hh hR=>yZ I) I (yS I I I (λh' L' hh hR=>yZ I) I (go1 ?_)));refine yS I I I (λh' L' hh hR=>(yU (G-1) (hR _ mh0) underlying22 sizeOf3 I I oM oM nP).cv (show _=zI 1 H (((G-1)*1+0)) from congrArg (zI 1 H) zo3)) I (lQ (F:=λv_=>rpI.Is mk v_ (D.getD (G-1) (0:Int))) I I I (wM ty3 (Pc.arr (Pc.here _) (0:Int) (G-1) oM) I nP I J.up I) (tQ mh0) I ?_);intro dc bw;obtain⟨rfl,cy,cp⟩:=kS bw;refine lQ (F:=λv_=>AtP (tPt k) mk v_ (s.1.getD ((D.getD (G-1) 0).toNat) zT)) I I I (rI zT ((D.getD (G-1) 0).toNat) underlying35 zM I I bx (by(have:=oD (s:=s) (i:=i) (k:=G-1) (by rw[<-hD];omega);rw[<-hD] at this;omega)) (by(have:=oD (s:=s) (i:=i) (k:=G-1) (by rw[<-hD];omega);rw[<-hD] at this;omega)) nP) zBN I ?_;intro db bv;refine oX I (xA zM bv) λda bu=>?_;refine w_c I (zA6 I I (sC (ev2 I I) call137 (λw hs=>zW9 hs bz bu oM oM) λbq h3 bf bt=>?_));obtain rfl:bq=vB (lsP (s.1.getD i zT) (s.1.getD ((D.getD (G-1) 0).toNat) zT)):=bt;refine gc3 (λad=>?_) λad=>?_
   ·
    refine go9 ?_;refine gqL ((G-1),h3) ?_ ?_ (he:=⟨I,I,I,I,congrArg (λz=>some (vI z)) oM,trivial⟩)
    · exact⟨mle,by omega,by rw[ax];exact zQD oM ad⟩
    omega
   refine go8 ?_;refine zG (zL (ρ:=rpI) (m:=1) (xs:=[(0:Int)]) (ps':=[(0,_)]) underlying22 jV I I I wL e2z (zD I (Pc.arr (Pc.here _) (0:Int) 0 dC) (wH dC dC) zO) zoj nP) I I I ?_
   rintro bp cl ⟨bm,rfl,ai⟩
   refine zP (A:=[]) (ρ:=rpI) ai ?_;intro h4 dz ao;refine xL (A:=[]) (zU (ρ:=rpI) (bytes:=8) underlying22 jV I I I I nP I I J.up ao bO bO) I I I ?_
   rintro Z ck ⟨bl,rfl,ah⟩
   refine go4 ?_;refine lH (A:=[]) (by rw[lAz];exact Nat.succ_pos _) (λob co aa ab=>?_);refine qG (A:=[]) 8 [] [(0,.q),(1,.q),(2,.q),(3,.q),(4,.q),(5,.q),(6,.q),(7,.c)] yA nX zou nX (go3 ?_);refine wI I (λ_ _=>jI (G+1) underlying22 sizeOf3 I I ⟨_,_,aa,ab⟩ oM zo0) I (go2 ?_);refine wI I (λ_ _=>jI G underlying22 sizeOf3 I I ⟨_,_,aa,ab⟩ oM zo0) I ?_;refine w_c I (fF (A:=[]) (λX=>mB (ρ:=rpI) G aa ab underlying22 sizeOf3 I I zo0 ah) I (xJ zoy) ?_)
   rintro bo cj ⟨cn,rfl,au⟩
   refine go6 ?_;refine gv ((yU G mh0 underlying22 sizeOf3 I I oM (by rw[fL zo0];simp only[lAz,lC,lN];omega) nP).cv (show _=zI 1 Z ((G*1+0)) from congrArg (zI 1 Z) zo3)) I (fT (A:=[]) (F:=λc_=>RL rpI h4 c_ ((sE (D++[(0:Int)]) G).set G (↑i:Int))) (rU sizeOf3 (Pc.arr (Pc.here _) (0:Int) G (by rw[fL zo0];simp only[lAz,lC,lN];omega)) I nP I I au (wH oM oM) I) ?_);intro az ar;refine go8 ?_;refine gqL ((i+1),((sE (D++[(0:Int)]) G).set G (↑i:Int)),Z,az,h4) ?_ ?_
   · exact⟨mle,ar,by omega,by rw[nZ oM];have aw:aM (zTC s D i) D.length=G:=by{rw[ax];exact zHC (λe=>by first|omega|exact ad e.2)};rw[<-aw,hD];exact(if_pos ((av i oM).1 (Classical.not_not.1 ae))).symm⟩
   omega
  rw[yH ac];refine tZ ?_;refine w_c I (lW I I I I (uV ?_));refine zG (zL (ρ:=rpI) (m:=1) (xs:=[(0:Int)]) (ps':=[(0,_)]) underlying22 jV I I I wL e2z (zD I (Pc.arr (Pc.here _) (0:Int) 0 dC) (wH dC dC) zO) zoj nP) I I I ?_
  rintro bp cl ⟨bm,rfl,ai⟩
  refine zP (A:=[]) (ρ:=rpI) ai ?_;intro h3 bf an;refine xL (A:=[]) (zU (ρ:=rpI) (bytes:=8) underlying22 jV I I I I nP I I J.up an bO bO) I I I ?_
  rintro Z ck ⟨bl,rfl,ah⟩
  refine go4 ?_;refine lH (A:=[]) (by rw[lAz];exact Nat.succ_pos _) (λob co aa ab=>?_);refine qG (A:=[]) 8 [] [(0,.q),(1,.q),(2,.q),(3,.q),(4,.q),(5,.q),(6,.q),(7,.c)] yA nX zou nX (go3 ?_);refine wI I (λ_ _=>jI (G+1) underlying22 sizeOf3 I I ⟨_,_,aa,ab⟩ oM zo0) I (go2 ?_);refine wI I (λ_ _=>jI G underlying22 sizeOf3 I I ⟨_,_,aa,ab⟩ oM zo0) I ?_;refine w_c I (fF (A:=[]) (λX=>mB (ρ:=rpI) G aa ab underlying22 sizeOf3 I I zo0 ah) I (xJ zoy) ?_)
  rintro bo cj ⟨cm,rfl,aq⟩
  refine go6 ?_;refine gv ((yU G mh0 underlying22 sizeOf3 I I oM (by rw[fL zo0];simp only[lAz,lC,lN];omega) nP).cv (show _=zI 1 Z ((G*1+0)) from congrArg (zI 1 Z) zo3)) I (fT (A:=[]) (F:=λc_=>RL rpI h3 c_ ((sE (D++[(0:Int)]) G).set G (↑i:Int))) (rU sizeOf3 (Pc.arr (Pc.here _) (0:Int) G (by rw[fL zo0];simp only[lAz,lC,lN];omega)) I nP I I aq (wH oM oM) I) ?_);intro ay ap;refine go8 ?_;refine gqL ((i+1),((sE (D++[(0:Int)]) G).set G (↑i:Int)),Z,ay,h3) ?_ ?_
  · exact⟨mle,ap,by omega,by rw[nZ oM];have aw:aM (zTC s D i) D.length=G:=by{rw[ax];exact zHC (λe=>by first|omega|exact ad e.2)};rw[<-aw,hD];exact(if_pos ((av i oM).1 (Classical.not_not.1 ae))).symm⟩
  omega
 have ei:i=s.1.length:=by omega
 refine uV ?_;refine wS (A:=[]) (ρ:=rpI) J.up ?_;intro h3 bf am;refine zC I I ?_;exact(Rp.Is.cast am (by rw[hD,ei]))
end
end Go.Proofs.YtpkaegemlpaenaaGreat
