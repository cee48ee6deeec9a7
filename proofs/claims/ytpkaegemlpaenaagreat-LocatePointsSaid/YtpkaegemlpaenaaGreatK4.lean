/- Texts that the proof needs, part 4. -/
import Derived.Test.YtpkaegemlpaenaaGreatK3
set_option linter.unusedVariables false
set_option linter.unusedSimpArgs false
namespace Go.Proofs.YtpkaegemlpaenaaGreat
open Bk Go Tryz
set_option maxRecDepth 10000
set_option maxHeartbeats 1000000
attribute [local irreducible] GL GC GQ W OpV
section
variable{w0:World}{h0:Mem}(hs:MLe h0 (mem w0))
include hs
theorem pJ{s:Prop}{vn vd:Value}{xs ys:List Nat}(hn:Us .u32 h0 vn xs)(hd:Us .u32 h0 vd ys)(hl:xs.length<=500000000000)(hl':ys.length<=500000000000)(hd0:val ys≠0):
 Calls Tryz.prog 82 #[vB s,vn,vd] w0 (Ret w0 h0 (λh r=>vC h r (mkRat (sg s (val xs)) (val ys)))):=by
 have bc:=uV hn.lt;have bb:=uV hd.lt;refine cb3 55 (vB s) vn vd func82 hs ?_;refine go2 ?_;refine zI (uC (cs:=[vB ((0:Rat).num<0),.slice none 0 0,.slice none 0 0]) xU I (by simp only[zb];rfl)) I I I ?_;intro v6 r6 ao;obtain⟨b6,rfl,rfl⟩:=ao;refine go5 ?_;refine cL (ev1 I) call92 (λw hs=>tH hs hn oM) λv9 h1 av D=>(go1 ?_);replace hd:=hd.mono av;refine cL (ev1 I) call92 (λw hs=>tH hs hd oM) λai h2 au G=>?_;replace D:=D.mono au;refine zKG (λan=>?_) λan=>?_
 ·
  refine go2 ?_;refine gv (wF (ps':=[]) (vs:=[vB ((0:Rat).num<0),.slice none 0 0,.slice none 0 0]) underlying29 xU I (qE underlying29) trivial (by simp only[zb];exact jP)) I (wP (A:=[]) (r':=.var b6 29 [vB ((0:Rat).num<0),.slice none 0 0,.slice none 0 0]) (zN (k:=0) (cs:=[_,_,_]) (vs:=[_,_,_]) I I I I yF (bL I)) I I I (go4 ?_));refine yW (λE S=>zW I (wS (cs:=[_,_,_]) mh0 underlying29 I yF I) E S) ?_;have e:val xs=0:=Classical.byContradiction λe=>by have:=yQ.2 e;omega
  rw[e,zA9];exact vC.zero _
 have ad:val xs≠0:=yQ.1 oM;have bd:Nat.gcd (val xs) (val ys)≠0:=Nat.ne_of_gt (Nat.gcd_pos_of_pos_left _ oM);refine go6 ?_;refine cL (ev2 I I) call126 (λw hs=>yAP hs D G oM oM) λay h3 aa M=>?_;have ar:=y7 ((val (xs))) ((val (ys)));refine go9 ?_;refine gU 6 27 (vB (((↑(zB (Nat.gcd ((val (xs))) ((val (ys))))).length:Int)≠(1:Int))\/(((zB (Nat.gcd ((val (xs))) ((val (ys))))).getD (0) 0)≠(1:Nat)))) ?_ ?_
 ·
  refine zY ((↑(zB (Nat.gcd ((val (xs))) ((val (ys))))).length:Int)≠(1:Int)) (λO=>?_) (λO=>?_)
  ·
   refine gT O I (go6 ?_);refine gqU ?_;exact congrArg some (vH O)
  refine gF O I (go3 ?_);refine gv (zU (q:=0) (0) underlying27 sizeOf124 I I M I oM) I (go3 ?_);refine gv (tI (k:=.u32) (q:=1) I I) I (go2 ?_);refine gqU ?_;exact congrArg some (vJ O)
 refine gc2 (λab=>?_) λab=>?_
 ·
  refine go4 ?_;replace D:=D.mono aa;refine cL (ev2 I I) call127 (λw hs=>zJD hs D M oM oM) λax h4 am ah=>?_;obtain⟨ac,ba,rfl,H,ah⟩:=ah;have aq:=yK (Nat.div_le_self ((val (xs))) ((Nat.gcd ((val (xs))) ((val (ys))))));refine uE ?_;replace G:=G.mono (aa.trans am);replace M:=M.mono am;refine cL (ev2 I I) call127 (λw hs=>zJD hs G M oM oM) λaw h5 ak ae=>?_;obtain⟨aj,az,rfl,U,ae⟩:=ae;have ap:=yK (Nat.div_le_self ((val (ys))) ((Nat.gcd ((val (xs))) ((val (ys))))));refine sR ?_;refine gU 6 50 (vB (((↑(zB (((val (ys)))/((Nat.gcd ((val (xs))) ((val (ys))))))).length:Int)=(1:Int))/\(((zB (((val (ys)))/((Nat.gcd ((val (xs))) ((val (ys))))))).getD (0) 0)=(1:Nat)))) ?_ ?_
  ·
   refine zY ((↑(zB (((val (ys)))/((Nat.gcd ((val (xs))) ((val (ys))))))).length:Int)=(1:Int)) (λO=>?_) (λO=>?_)
   ·
    refine gT O I (go3 ?_);refine gv (zU (q:=0) (0) underlying27 sizeOf124 I I U I oM) I (go3 ?_);refine gv (fJ (k:=.u32) (q:=1) I I) I (go2 ?_);refine gqU ?_;exact congrArg some (xC O)
   refine gF O I (go6 ?_);refine gqU ?_;exact congrArg some (xD O)
  refine gc2 (λJ=>?_) λJ=>?_
  ·
   refine go9 ?_;replace H:=H.mono ak;refine gv (wF (ps':=[(0,_),(1,_),(2,_)]) (vs:=[vB s,ac,.slice none 0 0]) underlying29 xU I (qE underlying29) e6z (wY (A:=[]) (B:=[_]) (C:=[_,_]) (cs:=[_]) (off:=0) (size:=1) I I I I I (wY (A:=[_]) (B:=[_]) (C:=[_]) (cs:=[_]) (off:=1) (size:=1) I I I I H.cells (wY (A:=[_,_]) (B:=[_]) (C:=[]) (cs:=[_]) (off:=2) (size:=1) I I I I I jP)))) I (wP (A:=[]) (r':=.var b6 29 [vB s,ac,.slice none 0 0]) (zN (k:=0) (cs:=[_,_,_]) (vs:=[_,_,_]) I I I (ocr I (ocu H (ocr I oc0))) yF (bL I)) I I I (go3 ?_));refine yW (λE S=>zW I (wS (cs:=[_,_,_]) mh0 underlying29 I yF I) E S) ?_;exact vC.fin1 ad hd0 H J
  refine go7 ?_;replace H:=H.mono ak;refine gv (wF (ps':=[(0,_),(1,_),(2,_)]) (vs:=[vB s,ac,aj]) underlying29 xU I (qE underlying29) e6z (wY (A:=[]) (B:=[_]) (C:=[_,_]) (cs:=[_]) (off:=0) (size:=1) I I I I I (wY (A:=[_]) (B:=[_]) (C:=[_]) (cs:=[_]) (off:=1) (size:=1) I I I I H.cells (wY (A:=[_,_]) (B:=[_]) (C:=[]) (cs:=[_]) (off:=2) (size:=1) I I I I U.cells jP)))) I (wP (A:=[]) (r':=.var b6 29 [vB s,ac,aj]) (zN (k:=0) (cs:=[_,_,_]) (vs:=[_,_,_]) I I I (ocr I (ocu H (ocu U oc0))) yF (bL I)) I I I (go3 ?_));refine yW (λE S=>zW I (wS (cs:=[_,_,_]) mh0 underlying29 I yF I) E S) ?_;exact vC.fin ad hd0 H U J
 replace G:=G.mono aa;refine go8 ?_;refine gU 6 50 (vB (((↑(zB (val (ys))).length:Int)=(1:Int))/\(((zB (val (ys))).getD (0) 0)=(1:Nat)))) ?_ ?_
 ·
  refine zY ((↑(zB (val (ys))).length:Int)=(1:Int)) (λO=>?_) (λO=>?_)
  ·
   refine gT O I (go3 ?_);refine gv (zU (q:=0) (0) underlying27 sizeOf124 I I G I oM) I (go3 ?_);refine gv (fJ (k:=.u32) (q:=1) I I) I (go2 ?_);refine gqU ?_;exact congrArg some (xC O)
  refine gF O I (go6 ?_);refine gqU ?_;exact congrArg some (xD O)
 refine gc2 (λJ=>?_) λJ=>?_
 ·
  refine go9 ?_;replace D:=D.mono aa;refine gv (wF (ps':=[(0,_),(1,_),(2,_)]) (vs:=[vB s,v9,.slice none 0 0]) underlying29 xU I (qE underlying29) e6z (wY (A:=[]) (B:=[_]) (C:=[_,_]) (cs:=[_]) (off:=0) (size:=1) I I I I I (wY (A:=[_]) (B:=[_]) (C:=[_]) (cs:=[_]) (off:=1) (size:=1) I I I I D.cells (wY (A:=[_,_]) (B:=[_]) (C:=[]) (cs:=[_]) (off:=2) (size:=1) I I I I I jP)))) I (wP (A:=[]) (r':=.var b6 29 [vB s,v9,.slice none 0 0]) (zN (k:=0) (cs:=[_,_,_]) (vs:=[_,_,_]) I I I (ocr I (ocu D (ocr I oc0))) yF (bL I)) I I I (go3 ?_));refine yW (λE S=>zW I (wS (cs:=[_,_,_]) mh0 underlying29 I yF I) E S) ?_;have Z:=zGF ab;exact vC.fin1 ad hd0 (by rw[Z,Nat.div_one];exact D) (by rw[Z,Nat.div_one];exact J)
 refine go7 ?_;replace D:=D.mono aa;refine gv (wF (ps':=[(0,_),(1,_),(2,_)]) (vs:=[vB s,v9,ai]) underlying29 xU I (qE underlying29) e6z (wY (A:=[]) (B:=[_]) (C:=[_,_]) (cs:=[_]) (off:=0) (size:=1) I I I I I (wY (A:=[_]) (B:=[_]) (C:=[_]) (cs:=[_]) (off:=1) (size:=1) I I I I D.cells (wY (A:=[_,_]) (B:=[_]) (C:=[]) (cs:=[_]) (off:=2) (size:=1) I I I I G.cells jP)))) I (wP (A:=[]) (r':=.var b6 29 [vB s,v9,ai]) (zN (k:=0) (cs:=[_,_,_]) (vs:=[_,_,_]) I I I (ocr I (ocu D (ocu G oc0))) yF (bL I)) I I I (go3 ?_));refine yW (λE S=>zW I (wS (cs:=[_,_,_]) mh0 underlying29 I yF I) E S) ?_;have Z:=zGF ab;exact vC.fin ad hd0 (by rw[Z,Nat.div_one];exact D) (by rw[Z,Nat.div_one];exact G) (by rw[Z,Nat.div_one];exact J)
theorem zB5{n:Int}(hn1:-9223372036854775808<=n)(hn2:n<9223372036854775808):
 Calls Tryz.prog 61 #[vI n] w0 (Ret w0 h0 (λh r=>∃u,r=.tuple #[u,vB (n<0)]/\Us .u32 h u (zB n.natAbs))):=by
 refine cb1 15 (vI n) func61 hs ?_;refine sR ?_;refine cnd (λC=>?_) λC=>?_
 ·
  refine go4 ?_;refine gv (aV I oM oM) I (gv (j3 (p:=(-(n+1)).toNat) (k':=.u64) (W:=18446744073709551616) underlying2 underlying125 I I (congrArg some (congrArg vI oM)) oM) I (gv (tX (k:=.u64) (q:=1) (W:=18446744073709551616) I I I I oM) I (cL (ev1 I) call96 (λw hs=>u9 hs oM) λM h1 H G=>(go6 ?_))));refine wH I I I ?_;rw[xK C,show n.natAbs=(-(n+1)).toNat+1 by omega];exact⟨_,I,G⟩
 refine go5 ?_;refine gv (j3 (p:=n.toNat) (k':=.u64) (W:=18446744073709551616) underlying2 underlying125 I I (congrArg some (congrArg vI oM)) oM) I (cL (ev1 I) call96 (λw hs=>u9 hs oM) λJ h1 H D=>(go5 ?_));refine wH I I I ?_;rw[yG C,show n.natAbs=n.toNat by omega];exact⟨_,I,D⟩
theorem zSE{n:Int}(hn1:-9223372036854775808<=n)(hn2:n<9223372036854775808){d:Int}(hd1:-9223372036854775808<=d)(hd2:d<9223372036854775808):
 Calls Tryz.prog 54 #[vI n,vI d] w0 (Ret w0 h0 (λh r=>∃u,r=.tuple #[u,vI (if d=0 then 3 else 0)]/\vC h u (jW n d))):=by
 refine cb2 29 (vI n) (vI d) func54 hs ?_;refine go2 ?_;refine zI (uC (cs:=[vB ((0:Rat).num<0),.slice none 0 0,.slice none 0 0]) xU I (by simp only[zb];rfl)) I I I ?_;intro v4 r4 ab;obtain⟨b4,rfl,rfl⟩:=ab;refine zCR (λC=>?_) λC=>?_
 ·
  refine go2 ?_;refine gv (wF (ps':=[]) (vs:=[vB ((0:Rat).num<0),.slice none 0 0,.slice none 0 0]) underlying29 xU I (qE underlying29) trivial (by simp only[zb];exact jP)) I (wP (A:=[]) (r':=.var b4 29 [vB ((0:Rat).num<0),.slice none 0 0,.slice none 0 0]) (zN (k:=0) (cs:=[_,_,_]) (vs:=[_,_,_]) I I I I yF (bL I)) I I I (go5 ?_));refine yW (λE S=>jM I (wS (cs:=[_,_,_]) mh0 underlying29 I yF I) (tN I) E S) ?_;rw[if_pos C,C,zF2];exact⟨_,I,vC.zero _⟩
 have ap:d.natAbs≠0:=by omega
 refine go5 ?_;refine cL (ev1 I) call61 (λw hs=>zB5 hs oM oM) λaj h1 ao aa=>?_;obtain⟨am,rfl,D⟩:=aa;have ad:=gR (n:=n) oM oM;refine uE ?_;refine cL (ev1 I) call61 (λw hs=>zB5 hs oM oM) λai h2 ae Z=>?_;obtain⟨ak,rfl,U⟩:=Z;have ac:=gR (n:=d) oM oM;refine qA ?_;refine gv (fI underlying4 I I) I (go2 ?_);replace D:=D.mono ae;refine cL (ev3 I I I) call82 (λw hs=>pJ hs D U oM oM (by first|(simp only[zE];omega)|(simp only[zE];first|exact Rat.den_nz _|exact Nat.mul_ne_zero (Rat.den_nz _) (Rat.den_nz _)|exact Nat.one_ne_zero|assumption)|assumption)) λah h3 an G=>?_
 try simp only[zE] at G
 obtain⟨M,O,rfl,H,J⟩:=G;refine wP (A:=[]) (r':=.var b4 29 [vB ((mkRat (sg (¬((n<0)↔(d<0))) (((n).natAbs))) (((d).natAbs))).num<0),M,O]) (zN (k:=0) (cs:=[_,_,_]) (vs:=[_,_,_]) I I I (ocr I (ocu H (ocu J oc0))) yF (bL I)) I I I (go4 ?_);refine yW (λE S=>jM I (wS (cs:=[_,_,_]) mh0 underlying29 I yF I) (tN I) E S) ?_;rw[if_neg C,<-zMI C];exact⟨_,I,_,_,I,H,J⟩
theorem zVF{n:Int}(hn1:-9223372036854775808<=n)(hn2:n<9223372036854775808):
 Calls Tryz.prog 27 #[vI n] w0 (Ret w0 h0 (λh r=>vC h r (n:Rat))):=by
 refine cb1 13 (vI n) func27 hs ?_;refine go2 ?_;refine zI (uC (cs:=[vB ((0:Rat).num<0),.slice none 0 0,.slice none 0 0]) xU I (by simp only[zb];rfl)) I I I ?_;intro v2 r2 H;obtain⟨U,rfl,rfl⟩:=H;refine go5 ?_;refine cL (ev1 I) call61 (λw hs=>zB5 hs oM oM) λZ h1 O G=>?_;obtain⟨J,rfl,D⟩:=G;have M:=gR (n:=n) oM oM;refine qA ?_;refine gv (wF (ps':=[(0,_),(1,_)]) (vs:=[vB (n<0),J,.slice none 0 0]) underlying29 xU I (qE underlying29) e4z (wY (A:=[]) (B:=[_]) (C:=[_,_]) (cs:=[_]) (off:=0) (size:=1) I I I I I (wY (A:=[_]) (B:=[_]) (C:=[_]) (cs:=[_]) (off:=1) (size:=1) I I I I D.cells jP))) I (wP (A:=[]) (r':=.var U 29 [vB (n<0),J,.slice none 0 0]) (zN (k:=0) (cs:=[_,_,_]) (vs:=[_,_,_]) I I I (ocr I (ocu D (ocr I oc0))) yF (bL I)) I I I (go3 ?_));refine yW (λE S=>zW I (wS (cs:=[_,_,_]) mh0 underlying29 I yF I) E S) ?_;exact vC.int D
theorem zB7{n:Int}(hn1:-9223372036854775808<=n)(hn2:n<9223372036854775808){d:Int}(hd1:-9223372036854775808<=d)(hd2:d<9223372036854775808):
 Calls Tryz.prog 21 #[vI n,vI d] w0 (Ret w0 h0 (λh r=>vC h r (jW n d))):=by
 refine cb2 14 (vI n) (vI d) func21 hs ?_;refine go2 ?_;refine zI (uC (cs:=[vB ((0:Rat).num<0),.slice none 0 0,.slice none 0 0]) xU I (by simp only[zb];rfl)) I I I ?_;intro v4 r4 O;obtain⟨b4,rfl,rfl⟩:=O;refine go6 ?_;refine cL (ev2 I I) call54 (λw hs=>zSE hs oM oM oM oM) λZ h1 aa J=>?_;obtain⟨_,rfl,G,H,rfl,C,D⟩:=J;have U:=zBD (n:=n) (d:=d) oM oM oM oM;refine go3 ?_;refine zI (uC (cs:=[vB ((0:Rat).num<0),.slice none 0 0,.slice none 0 0]) xU I (by simp only[zb];rfl)) I I I ?_;intro v5 r5 M;obtain⟨b5,rfl,rfl⟩:=M;refine wP (A:=[]) (r':=.var b5 29 [vB ((jW n d).num<0),G,H]) (zN (k:=0) (cs:=[_,_,_]) (vs:=[_,_,_]) I I I (ocr I (ocu C (ocu D oc0))) yF (bL I)) I I I (go6 ?_);refine wP (A:=[_]) (r':=.var b4 29 [vB ((jW n d).num<0),G,H]) (zN (k:=0) (cs:=[_,_,_]) (vs:=[_,_,_]) I I I (ocr I (ocu C (ocu D oc0))) yF (bL I)) I I I (go3 ?_);refine yW (λE S=>zW I (wS (cs:=[_,_,_]) mh1 underlying29 I yF I) E S) ?_;exact⟨_,_,I,C,D⟩
theorem zSD{qa:Rat}{vna vda:Value}(hna:Us .u32 h0 vna (zB qa.num.natAbs))(hda:Us .u32 h0 vda (zB (wQ qa.den))){qb:Rat}{vnb vdb:Value}(hnb:Us .u32 h0 vnb (zB qb.num.natAbs))(hdb:Us .u32 h0 vdb (zB (wQ qb.den)))(hqa:lq qa<=100000000000)(hqb:lq qb<=100000000000):
 Calls Tryz.prog 73 #[.agg #[vB (qa.num<0),vna,vda],.agg #[vB (qb.num<0),vnb,vdb]] w0 (Ret w0 h0 (λ_ r=>r=vB (qa=qb))):=by
 have ad:=uD qa;have ah:=uA qa;have aj:=vX qa;have ac:=uD qb;have ae:=uA qb;have ai:=vX qb;refine cb2 26 (.agg #[vB (qa.num<0),vna,vda]) (.agg #[vB (qb.num<0),vnb,vdb]) func73 hs ?_;refine go2 ?_;refine zI (wU (cs:=[_,_,_]) I I) I I I ?_;intro v2 r2 ab;obtain⟨b2,rfl,rfl⟩:=ab;refine zI (wU (cs:=[_,_,_]) I I) I I I ?_;intro v3 r3 aa;obtain⟨b3,rfl,rfl⟩:=aa;refine go9 ?_;refine gv (aW underlying4 I I) I ?_;refine qB (ι:=Mem) 8 (λH=>MLe h0 H) (λ_=>[(17,vB (((qa.num<0)↔(qb.num<0))/\((rN (qa.num.natAbs) (qb.num.natAbs))=(0:Int)))),(2,vP b2 0),(3,vP b3 0)]) (λ_=>[.var b3 29 [vB (qb.num<0),vnb,vdb],.var b2 29 [vB (qa.num<0),vna,vda]]) (λH=>H) ?_ ?_
 ·
  refine zY ((qa.num<0)↔(qb.num<0)) (λG=>?_) (λG=>?_)
  ·
   refine gT G I (go9 ?_);refine cL (ev2 I I) call49 (λw hs=>mW hs hna hnb) λam h1 J U=>?_;subst U;refine go4 ?_;refine zR h1 J ⟨?_,I,I,trivial⟩ I I;exact congrArg some (xC G)
  refine gF G I (go8 ?_);refine zR h0 (MLe.refl _) ⟨?_,I,I,trivial⟩ I I;exact congrArg some (xD G)
 intro D C;refine tZ ?_;refine qB (ι:=Mem) 8 (λH=>MLe D H) (λ_=>[(25,vB ((((qa.num<0)↔(qb.num<0))/\((rN (qa.num.natAbs) (qb.num.natAbs))=(0:Int)))/\((rN ((wQ qa.den)) ((wQ qb.den)))=(0:Int))))]) (λ_=>[.var b3 29 [vB (qb.num<0),vnb,vdb],.var b2 29 [vB (qa.num<0),vna,vda]]) (λH=>H) ?_ ?_
 ·
  refine zY (((qa.num<0)↔(qb.num<0))/\((rN (qa.num.natAbs) (qb.num.natAbs))=(0:Int))) (λG=>?_) (λG=>?_)
  ·
   refine gT G I (go9 ?_);replace hda:=hda.mono C;replace hdb:=hdb.mono C;refine cL (ev2 I I) call49 (λw hs=>mW hs hda hdb) λak h1 J O=>?_;subst O;refine go4 ?_;refine zR h1 J ⟨?_,trivial⟩ I I;exact congrArg some (xC G)
  refine gF G I (go8 ?_);refine zR D (MLe.refl _) ⟨?_,trivial⟩ I I;exact congrArg some (xD G)
 intro Z M;refine tZ ?_;refine go4 ?_;refine zC I I ?_;exact kA zYM
theorem zB6{qa:Rat}{vna vda:Value}(hna:Us .u32 h0 vna (zB qa.num.natAbs))(hda:Us .u32 h0 vda (zB (wQ qa.den)))(hqa:lq qa<=100000000000):
 Calls Tryz.prog 48 #[.agg #[vB (qa.num<0),vna,vda]] w0 (Ret w0 h0 (λ_ r=>r=vI (yR qa))):=by
 have H:=uD qa;have J:=uA qa;have M:=vX qa;refine cb1 9 (.agg #[vB (qa.num<0),vna,vda]) func48 hs ?_;refine go2 ?_;refine zI (wU (cs:=[_,_,_]) I I) I I I ?_;intro v1 r1 G;obtain⟨O,rfl,rfl⟩:=G;refine zKG (λD=>?_) λD=>?_
 ·
  refine go7 ?_;refine zC I I ?_;rw[aL (bQ D)]
 refine gc9 (λC=>?_) λC=>?_
 ·
  refine go7 ?_;refine zC I I ?_;rw[zAO C]
 refine go8 ?_;refine zC I I ?_;rw[zAN (zFQ D) C]
theorem zLE{qa:Rat}{vna vda:Value}(hna:Us .u32 h0 vna (zB qa.num.natAbs))(hda:Us .u32 h0 vda (zB (wQ qa.den)))(hqa:lq qa<=100000000000):
 Calls Tryz.prog 87 #[.agg #[vB (qa.num<0),vna,vda]] w0 (Ret w0 h0 (λh r=>vC h r (-qa))):=by
 have H:=uD qa;have J:=uA qa;have M:=vX qa;refine cb1 14 (.agg #[vB (qa.num<0),vna,vda]) func87 hs ?_;refine go2 ?_;refine zI (wU (cs:=[_,_,_]) I I) I I I ?_;intro v1 r1 G;obtain⟨U,rfl,rfl⟩:=G;refine zI (uC (cs:=[vB ((0:Rat).num<0),.slice none 0 0,.slice none 0 0]) xU I (by simp only[zb];rfl)) I I I ?_;intro v2 r2 D;obtain⟨O,rfl,rfl⟩:=D;refine go7 ?_;refine gU 6 11 (vB ((¬(qa.num<0))/\((0:Int)<(↑(zB qa.num.natAbs).length:Int)))) ?_ ?_
 ·
  refine zY (¬(qa.num<0)) (λC=>?_) (λC=>?_)
  ·
   refine gT C I (uE ?_);refine gqU ?_;exact congrArg some (xC C)
  refine gF C I (go6 ?_);refine gqU ?_;exact congrArg some (xD C)
 refine go1 ?_;refine wP (A:=[_]) (r':=.var U 29 [vB ((¬(qa.num<0))/\((0:Int)<(↑(zB qa.num.natAbs).length:Int))),vna,vda]) (zN (k:=0) (cs:=[_,_,_]) (vs:=[_]) I I I I zUX (bL I)) I I I (go5 ?_);refine wP (A:=[]) (r':=.var O 29 [vB ((¬(qa.num<0))/\((0:Int)<(↑(zB qa.num.natAbs).length:Int))),vna,vda]) (zN (k:=0) (cs:=[_,_,_]) (vs:=[_,_,_]) I I I (ocr I (ocu hna (ocu hda oc0))) yF (bL I)) I I I (go3 ?_);refine yW (λE S=>zW I (wS (cs:=[_,_,_]) mh0 underlying29 I yF I) E S) ?_;exact vC.negB hna hda
theorem zVH{qa:Rat}{vna vda:Value}(hna:Us .u32 h0 vna (zB qa.num.natAbs))(hda:Us .u32 h0 vda (zB (wQ qa.den)))(hqa:lq qa<=100000000000):
 Calls Tryz.prog 103 #[.agg #[vB (qa.num<0),vna,vda]] w0 (Ret w0 h0 (λh r=>vC h r (iQ qa))):=by
 have G:=uD qa;have H:=uA qa;have J:=vX qa;refine cb1 5 (.agg #[vB (qa.num<0),vna,vda]) func103 hs ?_;refine go2 ?_;refine zI (wU (cs:=[_,_,_]) I I) I I I ?_;intro v1 r1 D;obtain⟨O,rfl,rfl⟩:=D;refine zI (uC (cs:=[vB ((0:Rat).num<0),.slice none 0 0,.slice none 0 0]) xU I (by simp only[zb];rfl)) I I I ?_;intro v2 r2 C;obtain⟨M,rfl,rfl⟩:=C;refine go5 ?_;refine wP (A:=[_]) (r':=.var O 29 [.bool false,vna,vda]) (zN (k:=0) (cs:=[_,_,_]) (vs:=[_]) I I I I zUX (bL I)) I I I (go5 ?_);refine wP (A:=[]) (r':=.var M 29 [.bool false,vna,vda]) (zN (k:=0) (cs:=[_,_,_]) (vs:=[_,_,_]) I I I (ocr I (ocu hna (ocu hda oc0))) yF (bL I)) I I I (go3 ?_);refine yW (λE S=>zW I (wS (cs:=[_,_,_]) mh0 underlying29 I yF I) E S) ?_;exact vC.abs hna hda
theorem zEX{qa:Rat}{vna vda:Value}(hna:Us .u32 h0 vna (zB qa.num.natAbs))(hda:Us .u32 h0 vda (zB (wQ qa.den))){qb:Rat}{vnb vdb:Value}(hnb:Us .u32 h0 vnb (zB qb.num.natAbs))(hdb:Us .u32 h0 vdb (zB (wQ qb.den)))(hqa:lq qa<=100000000000)(hqb:lq qb<=100000000000):
 Calls Tryz.prog 45 #[.agg #[vB (qa.num<0),vna,vda],.agg #[vB (qb.num<0),vnb,vdb]] w0 (Ret w0 h0 (λh r=>vC h r (qa+qb))):=by
 have bx:=uD qa;have ca:=uA qa;have cc:=vX qa;have bw:=uD qb;have bz:=uA qb;have cb:=vX qb;refine cb2 75 (.agg #[vB (qa.num<0),vna,vda]) (.agg #[vB (qb.num<0),vnb,vdb]) func45 hs ?_;refine go2 ?_;refine zI (wU (cs:=[_,_,_]) I I) I I I ?_;intro v2 r2 bo;obtain⟨b2,rfl,rfl⟩:=bo;refine zI (wU (cs:=[_,_,_]) I I) I I I ?_;intro v3 r3 bn;obtain⟨b3,rfl,rfl⟩:=bn;refine zI (uC (cs:=[vB ((0:Rat).num<0),.slice none 0 0,.slice none 0 0]) xU I (by simp only[zb];rfl)) I I I ?_;intro v4 r4 bm;obtain⟨b4,rfl,rfl⟩:=bm;refine zCQ (λay=>?_) λay=>?_
 ·
  refine go3 ?_;refine wP (A:=[]) (r':=.var b4 29 [vB (qb.num<0),vnb,vdb]) (zN (k:=0) (cs:=[_,_,_]) (vs:=[_,_,_]) I I I (ocr I (ocu hnb (ocu hdb oc0))) yF (bL I)) I I I (go4 ?_);refine yW (λE S=>zW I (wS (cs:=[_,_,_]) mh0 underlying29 I yF I) E S) ?_;rw[bQ ay,Rat.zero_add];exact⟨_,_,I,hnb,hdb⟩
 refine zCQ (λax=>?_) λax=>?_
 ·
  refine go3 ?_;refine wP (A:=[]) (r':=.var b4 29 [vB (qa.num<0),vna,vda]) (zN (k:=0) (cs:=[_,_,_]) (vs:=[_,_,_]) I I I (ocr I (ocu hna (ocu hda oc0))) yF (bL I)) I I I (go4 ?_);refine yW (λE S=>zW I (wS (cs:=[_,_,_]) mh0 underlying29 I yF I) E S) ?_;rw[bQ ax,Rat.add_zero];exact⟨_,_,I,hna,hda⟩
 refine go3 ?_;refine zK 12 _ [] [(0,.q),(1,.q),(2,.q),(5,.q),(6,.q),(7,.q),(3,.c),(4,.c),(8,.c),(9,.c),(10,.q),(11,.q)] zX nX zob nX (λr hr=>hr) (go6 ?_);refine w_c I (sC (ev1 I) call51 (λw hs=>rB hs I hnb hdb) λcq h1 ao aw=>?_);rw[uZ] at aw;refine w_c I ?_;replace hna:=hna.mono ao;refine sC (ev2 I I) call50 (λw hs=>cZ hs hna aw oM oM) λcp h2 an D=>?_
 try simp only[zE] at D
 have bu:=yP ((qa.num.natAbs)) ((qb.den));refine w_c I ?_;replace hna:=hna.mono an;replace hda:=hda.mono (ao.trans an);refine sC (ev1 I) call51 (λw hs=>rB hs I hna hda) λco h3 Z av=>?_;rw[uZ] at av;refine w_c I ?_;replace hnb:=hnb.mono ((ao.trans an).trans Z);refine sC (ev2 I I) call50 (λw hs=>cZ hs hnb av oM oM) λcn h4 U C=>?_
 try simp only[zE] at C
 have bt:=yP ((qb.num.natAbs)) ((qa.den));refine go5 ?_;refine zK 6 _ [] [(0,.q),(2,.q),(1,.c),(3,.c),(4,.c),(5,.q)] zX nX zob nX (λr hr=>hr) (go2 ?_);refine w_c I ?_;replace hna:=hna.mono (Z.trans U);replace hda:=hda.mono (Z.trans U);refine sC (ev1 I) call51 (λw hs=>rB hs I hna hda) λcm h5 O J=>?_;rw[uZ] at J;refine w_c I ?_;replace hnb:=hnb.mono (U.trans O);replace hdb:=hdb.mono ((((ao.trans an).trans Z).trans U).trans O);refine sC (ev1 I) call51 (λw hs=>rB hs I hnb hdb) λcl h6 ad au=>?_;rw[uZ] at au;refine w_c I ?_;replace J:=J.mono ad;refine sC (ev2 I I) call50 (λw hs=>cZ hs J au oM oM) λck h7 am G=>?_
 try simp only[zE] at G
 have bs:=yP ((qa.den)) ((qb.den));refine uE ?_;refine gv (aW underlying4 I I) I (gc2 (λM=>?_) λM=>?_)
 ·
  refine go1 ?_;refine zK 7 _ [] [(0,.q),(1,.q),(2,.q),(3,.q),(5,.q),(4,.c),(6,.c),(7,.t)] zX nX zob nX (λr hr=>hr) (go5 ?_);refine w_c I ?_;replace D:=D.mono ((((Z.trans U).trans O).trans ad).trans am);replace C:=C.mono ((O.trans ad).trans am);refine sC (ev2 I I) call83 (λw hs=>yAQ hs D C oM oM) λcj h8 H bk=>?_;have br:=kM ((((qa.num.natAbs))*((qb.den)))) ((((qb.num.natAbs))*((qa.den))));refine w_c I ?_;replace G:=G.mono H;refine sC (ev3 I I I) call82 (λw hs=>pJ hs bk G oM oM (by first|(simp only[zE];omega)|(simp only[zE];first|exact Rat.den_nz _|exact Nat.mul_ne_zero (Rat.den_nz _) (Rat.den_nz _)|exact Nat.one_ne_zero|assumption)|assumption)) λci h9 ak ar=>?_
  try simp only[zE] at ar
  obtain⟨bb,be,rfl,ac,ai⟩:=ar;refine cX (A:=[]) (q':=.var b4 29 [vB ((mkRat (sg (qa.num<0) (((((((qa.num.natAbs))*((qb.den))))+((((qb.num.natAbs))*((qa.den)))))))) (((((qa.den))*((qb.den)))))).num<0),bb,be]) I (zN (k:=0) (cs:=[_,_,_]) (vs:=[_,_,_]) I I I (ocr I (ocu ac (ocu ai oc0))) yF (bL I)) I (go4 ?_);refine yW (λE S=>zW I (wS (cs:=[_,_,_]) mh0 underlying29 I yF I) E S) ?_;rw[zZJ M] at ac ai ⊢;exact⟨_,_,I,ac,ai⟩
 refine go7 ?_;replace D:=D.mono ((((Z.trans U).trans O).trans ad).trans am);replace C:=C.mono ((O.trans ad).trans am);refine cL (ev2 I I) call49 (λw hs=>mW hs D C) λch h8 H bj=>?_;subst bj;refine gc3 (λaj=>?_) λaj=>?_
 ·
  refine go4 ?_;replace D:=D.mono H;replace C:=C.mono H;refine cL (ev2 I I) call84 (λw hs=>zQD hs C D oM) λcg h9 ak bi=>?_;obtain⟨cu,rfl,bg⟩:=bi;have bq:=yK (Nat.sub_le ((((qb.num.natAbs))*((qa.den)))) ((((qa.num.natAbs))*((qb.den)))));refine sR ?_;replace G:=G.mono (H.trans ak);refine cL (ev3 I I I) call82 (λw hs=>pJ hs bg G oM oM (by first|(simp only[zE];omega)|(simp only[zE];first|exact Rat.den_nz _|exact Nat.mul_ne_zero (Rat.den_nz _) (Rat.den_nz _)|exact Nat.one_ne_zero|assumption)|assumption)) λcf bv bl aq=>?_
  try simp only[zE] at aq
  obtain⟨ba,bd,rfl,ab,ah⟩:=aq;refine wP (A:=[]) (r':=.var b4 29 [vB ((mkRat (sg (qb.num<0) (((((((qb.num.natAbs))*((qa.den))))-((((qa.num.natAbs))*((qb.den)))))))) (((((qa.den))*((qb.den)))))).num<0),ba,bd]) (zN (k:=0) (cs:=[_,_,_]) (vs:=[_,_,_]) I I I (ocr I (ocu ab (ocu ah oc0))) yF (bL I)) I I I (go4 ?_);refine yW (λE S=>zW I (wS (cs:=[_,_,_]) mh0 underlying29 I yF I) E S) ?_;rw[yID M (by have:=rM.1 aj;omega)] at ab ah ⊢;exact⟨_,_,I,ab,ah⟩
 refine go6 ?_;replace D:=D.mono H;replace C:=C.mono H;refine cL (ev2 I I) call84 (λw hs=>zQD hs D C oM) λce h9 ak bh=>?_;obtain⟨ct,rfl,bf⟩:=bh;have bp:=yK (Nat.sub_le ((((qa.num.natAbs))*((qb.den)))) ((((qb.num.natAbs))*((qa.den)))));refine sR ?_;replace G:=G.mono (H.trans ak);refine cL (ev3 I I I) call82 (λw hs=>pJ hs bf G oM oM (by first|(simp only[zE];omega)|(simp only[zE];first|exact Rat.den_nz _|exact Nat.mul_ne_zero (Rat.den_nz _) (Rat.den_nz _)|exact Nat.one_ne_zero|assumption)|assumption)) λcd bv bl ap=>?_
 try simp only[zE] at ap
 obtain⟨az,bc,rfl,aa,ae⟩:=ap;refine wP (A:=[]) (r':=.var b4 29 [vB ((mkRat (sg (qa.num<0) (((((((qa.num.natAbs))*((qb.den))))-((((qb.num.natAbs))*((qa.den)))))))) (((((qa.den))*((qb.den)))))).num<0),az,bc]) (zN (k:=0) (cs:=[_,_,_]) (vs:=[_,_,_]) I I I (ocr I (ocu aa (ocu ae oc0))) yF (bL I)) I I I (go3 ?_);refine yW (λE S=>zW I (wS (cs:=[_,_,_]) mh0 underlying29 I yF I) E S) ?_;rw[yIE M (Nat.le_of_not_lt (λh=>aj (rM.2 h)))] at aa ae ⊢;exact⟨_,_,I,aa,ae⟩
theorem zVC{qa:Rat}{vna vda:Value}(hna:Us .u32 h0 vna (zB qa.num.natAbs))(hda:Us .u32 h0 vda (zB (wQ qa.den))){qb:Rat}{vnb vdb:Value}(hnb:Us .u32 h0 vnb (zB qb.num.natAbs))(hdb:Us .u32 h0 vdb (zB (wQ qb.den)))(hqa:lq qa<=100000000000)(hqb:lq qb<=100000000000):
 Calls Tryz.prog 55 #[.agg #[vB (qa.num<0),vna,vda],.agg #[vB (qb.num<0),vnb,vdb]] w0 (Ret w0 h0 (λh r=>vC h r (qa-qb))):=by
 have ai:=uD qa;have ak:=uA qa;have an:=vX qa;have ah:=uD qb;have aj:=uA qb;have am:=vX qb;refine cb2 9 (.agg #[vB (qa.num<0),vna,vda]) (.agg #[vB (qb.num<0),vnb,vdb]) func55 hs ?_;refine go2 ?_;refine zI (wU (cs:=[_,_,_]) I I) I I I ?_;intro v2 r2 aa;obtain⟨b2,rfl,rfl⟩:=aa;refine zI (wU (cs:=[_,_,_]) I I) I I I ?_;intro v3 r3 Z;obtain⟨b3,rfl,rfl⟩:=Z;refine zI (uC (cs:=[vB ((0:Rat).num<0),.slice none 0 0,.slice none 0 0]) xU I (by simp only[zb];rfl)) I I I ?_;intro v4 r4 U;obtain⟨b4,rfl,rfl⟩:=U;refine go3 ?_;refine zK 4 _ [] [(0,.q),(1,.q),(2,.c),(3,.c),(4,.t)] zX nX zob nX (λr hr=>hr) (go2 ?_);refine w_c I (sC (ev1 I) call87 (λw hs=>zLE hs hnb hdb oM) λv7 h1 G O=>?_);obtain⟨ao,ap,rfl,ab,ac⟩:=O;have ae:=zPE qb;refine w_c I ?_;replace hna:=hna.mono G;replace hda:=hda.mono G;refine sC (ev2 I I) call45 (λw hs=>zEX hs hna hda ab ac oM oM) λv8 h2 aq M=>?_;obtain⟨H,J,rfl,C,D⟩:=M;have ad:=aY qa (-qb);refine cX (A:=[]) (q':=.var b4 29 [vB ((qa+(-qb)).num<0),H,J]) I (zN (k:=0) (cs:=[_,_,_]) (vs:=[_,_,_]) I I I (ocr I (ocu C (ocu D oc0))) yF (bL I)) I (go3 ?_);refine yW (λE S=>zW I (wS (cs:=[_,_,_]) mh0 underlying29 I yF I) E S) ?_;rw[<-Rat.sub_eq_add_neg] at C D ⊢;exact⟨_,_,I,C,D⟩
theorem zLF{qa:Rat}{vna vda:Value}(hna:Us .u32 h0 vna (zB qa.num.natAbs))(hda:Us .u32 h0 vda (zB (wQ qa.den))){qb:Rat}{vnb vdb:Value}(hnb:Us .u32 h0 vnb (zB qb.num.natAbs))(hdb:Us .u32 h0 vdb (zB (wQ qb.den)))(hqa:lq qa<=100000000000)(hqb:lq qb<=100000000000):
 Calls Tryz.prog 53 #[.agg #[vB (qa.num<0),vna,vda],.agg #[vB (qb.num<0),vnb,vdb]] w0 (Ret w0 h0 (λh r=>vC h r (qa*qb))):=by
 have an:=uD qa;have ap:=uA qa;have ar:=vX qa;have am:=uD qb;have ao:=uA qb;have aq:=vX qb;refine cb2 21 (.agg #[vB (qa.num<0),vna,vda]) (.agg #[vB (qb.num<0),vnb,vdb]) func53 hs ?_;refine go2 ?_;refine zI (wU (cs:=[_,_,_]) I I) I I I ?_;intro v2 r2 ah;obtain⟨b2,rfl,rfl⟩:=ah;refine zI (wU (cs:=[_,_,_]) I I) I I I ?_;intro v3 r3 ae;obtain⟨b3,rfl,rfl⟩:=ae;refine zI (uC (cs:=[vB ((0:Rat).num<0),.slice none 0 0,.slice none 0 0]) xU I (by simp only[zb];rfl)) I I I ?_;intro v4 r4 ad;obtain⟨b4,rfl,rfl⟩:=ad;refine go3 ?_;refine zK 16 _ [] [(0,.q),(1,.q),(2,.q),(3,.q),(4,.q),(5,.q),(6,.q),(7,.q),(8,.q),(10,.q),(12,.q),(9,.c),(11,.c),(13,.c),(14,.c),(15,.c),(16,.t)] zX nX zob nX (λr hr=>hr) (go4 ?_);refine wB I (λ_ _=>fI underlying4 I I) I (go6 ?_);refine w_c I (sC (ev2 I I) call50 (λw hs=>cZ hs hna hnb oM oM) λay h1 J D=>?_)
 try simp only[zE] at D
 have aj:=yP ((qa.num.natAbs)) ((qb.num.natAbs));refine w_c I ?_;replace hna:=hna.mono J;replace hda:=hda.mono J;refine sC (ev1 I) call51 (λw hs=>rB hs I hna hda) λax h2 Z C=>?_;rw[uZ] at C;refine w_c I ?_;replace hnb:=hnb.mono (J.trans Z);replace hdb:=hdb.mono (J.trans Z);refine sC (ev1 I) call51 (λw hs=>rB hs I hnb hdb) λaw h3 ac U=>?_;rw[uZ] at U;refine w_c I ?_;replace C:=C.mono ac;refine sC (ev2 I I) call50 (λw hs=>cZ hs C U oM oM) λav h4 ak O=>?_
 try simp only[zE] at O
 have ai:=yP ((qa.den)) ((qb.den));refine w_c I ?_;replace D:=D.mono ((Z.trans ac).trans ak);refine sC (ev3 I I I) call82 (λw hs=>pJ hs D O oM oM (by first|(simp only[zE];omega)|(simp only[zE];first|exact Rat.den_nz _|exact Nat.mul_ne_zero (Rat.den_nz _) (Rat.den_nz _)|exact Nat.one_ne_zero|assumption)|assumption)) λau h5 az M=>?_
 try simp only[zE] at M
 obtain⟨aa,ab,rfl,G,H⟩:=M;refine cX (A:=[]) (q':=.var b4 29 [vB ((mkRat (sg (¬((qa.num<0)↔(qb.num<0))) (((((qa.num.natAbs))*((qb.num.natAbs)))))) (((((qa.den))*((qb.den)))))).num<0),aa,ab]) I (zN (k:=0) (cs:=[_,_,_]) (vs:=[_,_,_]) I I I (ocr I (ocu G (ocu H oc0))) yF (bL I)) I (go3 ?_);refine yW (λE S=>zW I (wS (cs:=[_,_,_]) mh0 underlying29 I yF I) E S) ?_;rw[zW0] at G H ⊢;exact⟨_,_,I,G,H⟩
theorem zVD{qa:Rat}{vna vda:Value}(hna:Us .u32 h0 vna (zB qa.num.natAbs))(hda:Us .u32 h0 vda (zB (wQ qa.den))){qb:Rat}{vnb vdb:Value}(hnb:Us .u32 h0 vnb (zB qb.num.natAbs))(hdb:Us .u32 h0 vdb (zB (wQ qb.den)))(hqa:lq qa<=100000000000)(hqb:lq qb<=100000000000):
 Calls Tryz.prog 81 #[.agg #[vB (qa.num<0),vna,vda],.agg #[vB (qb.num<0),vnb,vdb]] w0 (Ret w0 h0 (λh r=>∃u,r=.tuple #[u,vI (if qb=0 then 3 else 0)]/\vC h u (if qb=0 then 0 else qa/qb))):=by
 have aq:=uD qa;have au:=uA qa;have aw:=vX qa;have ap:=uD qb;have ar:=uA qb;have av:=vX qb;refine cb2 27 (.agg #[vB (qa.num<0),vna,vda]) (.agg #[vB (qb.num<0),vnb,vdb]) func81 hs ?_;refine go2 ?_;refine zI (wU (cs:=[_,_,_]) I I) I I I ?_;intro v2 r2 aj;obtain⟨b2,rfl,rfl⟩:=aj;refine zI (wU (cs:=[_,_,_]) I I) I I I ?_;intro v3 r3 ai;obtain⟨b3,rfl,rfl⟩:=ai;refine zI (uC (cs:=[vB ((0:Rat).num<0),.slice none 0 0,.slice none 0 0]) xU I (by simp only[zb];rfl)) I I I ?_;intro v4 r4 ah;obtain⟨b4,rfl,rfl⟩:=ah;refine zKG (λH=>?_) λH=>?_
 ·
  refine go2 ?_;refine gv (wF (ps':=[]) (vs:=[vB ((0:Rat).num<0),.slice none 0 0,.slice none 0 0]) underlying29 xU I (qE underlying29) trivial (by simp only[zb];exact jP)) I (wP (A:=[]) (r':=.var b4 29 [vB ((0:Rat).num<0),.slice none 0 0,.slice none 0 0]) (zN (k:=0) (cs:=[_,_,_]) (vs:=[_,_,_]) I I I I yF (bL I)) I I I (go5 ?_));refine yW (λE S=>jM I (wS (cs:=[_,_,_]) mh0 underlying29 I yF I) (tN I) E S) ?_;rw[if_pos (bQ H),if_pos (bQ H)];exact⟨_,I,vC.zero _⟩
 have J:=zFQ H;have ao:=zFR.2 J;have bd:qa.den*qb.num.natAbs≠0:=Nat.mul_ne_zero qa.den_nz ao;refine go3 ?_;refine zK 16 _ [] [(0,.q),(1,.q),(2,.q),(3,.q),(4,.q),(5,.q),(6,.q),(7,.q),(10,.q),(12,.q),(13,.q),(8,.c),(9,.c),(11,.c),(14,.c),(15,.c),(16,.t),(17,.t)] zX nX zob nX (λr hr=>hr) (go4 ?_);refine wB I (λ_ _=>fI underlying4 I I) I (go6 ?_);refine w_c I (sC (ev1 I) call51 (λw hs=>rB hs I hnb hdb) λbb h1 ab Z=>?_);rw[uZ] at Z;refine w_c I ?_;replace hna:=hna.mono ab;refine sC (ev2 I I) call50 (λw hs=>cZ hs hna Z oM oM) λba h2 aa C=>?_
 try simp only[zE] at C
 have am:=yP ((qa.num.natAbs)) ((qb.den));refine w_c I ?_;replace hna:=hna.mono aa;replace hda:=hda.mono (ab.trans aa);refine sC (ev1 I) call51 (λw hs=>rB hs I hna hda) λaz h3 ae U=>?_;rw[uZ] at U;refine w_c I ?_;replace hnb:=hnb.mono ((ab.trans aa).trans ae);refine sC (ev2 I I) call50 (λw hs=>cZ hs U hnb oM oM) λay h4 an O=>?_
 try simp only[zE] at O
 have ak:=yP ((qa.den)) ((qb.num.natAbs));refine w_c I ?_;replace C:=C.mono (ae.trans an);refine sC (ev3 I I I) call82 (λw hs=>pJ hs C O oM oM (by first|(simp only[zE];omega)|(simp only[zE];first|exact Rat.den_nz _|exact Nat.mul_ne_zero (Rat.den_nz _) (Rat.den_nz _)|exact Nat.one_ne_zero|assumption)|assumption)) λax h5 bc M=>?_
 try simp only[zE] at M
 obtain⟨ac,ad,rfl,D,G⟩:=M;refine cX (A:=[]) (q':=.var b4 29 [vB ((mkRat (sg (¬((qa.num<0)↔(qb.num<0))) (((((qa.num.natAbs))*((qb.den)))))) (((((qa.den))*((qb.num.natAbs)))))).num<0),ac,ad]) I (zN (k:=0) (cs:=[_,_,_]) (vs:=[_,_,_]) I I I (ocr I (ocu D (ocu G oc0))) yF (bL I)) I (zDV I (pL (v:=vI (0)) I) I (go3 ?_));refine yW (λE S=>jM I (wS (cs:=[_,_,_]) mh0 underlying29 I yF I) (tN I) E S) ?_;rw[if_neg J,if_neg J];rw[zVR _ J] at D G ⊢;exact⟨_,I,_,_,I,D,G⟩
theorem zVG{qa:Rat}{vna vda:Value}(hna:Us .u32 h0 vna (zB qa.num.natAbs))(hda:Us .u32 h0 vda (zB (wQ qa.den))){qb:Rat}{vnb vdb:Value}(hnb:Us .u32 h0 vnb (zB qb.num.natAbs))(hdb:Us .u32 h0 vdb (zB (wQ qb.den)))(hqa:lq qa<=100000000000)(hqb:lq qb<=100000000000):
 Calls Tryz.prog 17 #[.agg #[vB (qa.num<0),vna,vda],.agg #[vB (qb.num<0),vnb,vdb]] w0 (Ret w0 h0 (λ_ r=>r=vI (xT qa qb))):=by
 have au:=uD qa;have aw:=uA qa;have ay:=vX qa;have ar:=uD qb;have av:=uA qb;have ax:=vX qb;have bg:-1<=rN (qa.num.natAbs*qb.den) (qb.num.natAbs*qa.den)/\rN (qa.num.natAbs*qb.den) (qb.num.natAbs*qa.den)<=1:=zNC qa qb;refine cb2 34 (.agg #[vB (qa.num<0),vna,vda]) (.agg #[vB (qb.num<0),vnb,vdb]) func17 hs ?_;refine go2 ?_;refine zI (wU (cs:=[_,_,_]) I I) I I I ?_;intro v2 r2 am;obtain⟨b2,rfl,rfl⟩:=am;refine zI (wU (cs:=[_,_,_]) I I) I I I ?_;intro v3 r3 ak;obtain⟨b3,rfl,rfl⟩:=ak;refine go5 ?_;refine zK 6 _ [] [(0,.q),(2,.q),(1,.c),(3,.c),(4,.q),(5,.q)] zX nX zob nX (λr hr=>hr) (go2 ?_);refine w_c I (sC (ev1 I) call48 (λw hs=>zB6 hs hna hda oM) λv9 h1 M aj=>?_);have aq:=yV qa;subst aj;refine w_c I ?_;replace hnb:=hnb.mono M;replace hdb:=hdb.mono M;refine sC (ev1 I) call48 (λw hs=>zB6 hs hnb hdb oM) λbe h2 J ae=>?_;have ai:=yV qb;subst ae;refine zCQ (λD=>?_) λD=>?_
 ·
  refine gc8 (λH=>?_) λH=>?_
  ·
   refine go8 ?_;refine zC I I ?_;rw[zBQ D,if_pos H]
  refine go9 ?_;refine zC I I ?_;rw[zBQ D,if_neg H]
 have ac:=zK3 D;refine go3 ?_;refine zK 12 _ [] [(0,.q),(1,.q),(2,.q),(5,.q),(6,.q),(7,.q),(3,.c),(4,.c),(8,.c),(9,.c),(10,.c),(11,.q)] zX nX zob nX (λr hr=>hr) (go6 ?_);refine w_c I ?_;replace hnb:=hnb.mono J;replace hdb:=hdb.mono J;refine sC (ev1 I) call51 (λw hs=>rB hs I hnb hdb) λbd h3 ab Z=>?_;rw[uZ] at Z;refine w_c I ?_;replace hna:=hna.mono ((M.trans J).trans ab);refine sC (ev2 I I) call50 (λw hs=>cZ hs hna Z oM oM) λbc h4 aa C=>?_
 try simp only[zE] at C
 have ao:=yP ((qa.num.natAbs)) ((qb.den));refine w_c I ?_;replace hna:=hna.mono aa;replace hda:=hda.mono (((M.trans J).trans ab).trans aa);refine sC (ev1 I) call51 (λw hs=>rB hs I hna hda) λbb h5 ah U=>?_;rw[uZ] at U;refine w_c I ?_;replace hnb:=hnb.mono ((ab.trans aa).trans ah);refine sC (ev2 I I) call50 (λw hs=>cZ hs hnb U oM oM) λba h6 ap O=>?_
 try simp only[zE] at O
 have an:=yP ((qb.num.natAbs)) ((qa.den));refine w_c I ?_;replace C:=C.mono (ah.trans ap);refine sC (ev2 I I) call49 (λw hs=>mW hs C O) λaz h7 bf ad=>?_;subst ad;refine zCR (λG=>?_) λG=>?_
 ·
  refine go3 ?_;refine gv (aV I oM oM) I (go5 ?_);refine zC I I ?_;rw[zRH ac G];rfl
 refine go9 ?_;refine zC I I ?_;rw[zM7 ac G];rfl
theorem zVE{qa:Rat}{vna vda:Value}(hna:Us .u32 h0 vna (zB qa.num.natAbs))(hda:Us .u32 h0 vda (zB (wQ qa.den))){qb:Rat}{vnb vdb:Value}(hnb:Us .u32 h0 vnb (zB qb.num.natAbs))(hdb:Us .u32 h0 vdb (zB (wQ qb.den)))(hqa:lq qa<=10000000000)(hqb:lq qb<=10000000000):
 Calls Tryz.prog 203 #[.agg #[vB (qa.num<0),vna,vda],.agg #[vB (qb.num<0),vnb,vdb]] w0 (Ret w0 h0 (λh r=>vC h r (zCJ qa qb))):=by
 have an:=uD qa;have ap:=uA qa;have ar:=vX qa;have am:=uD qb;have ao:=uA qb;have aq:=vX qb;refine cb2 10 (.agg #[vB (qa.num<0),vna,vda]) (.agg #[vB (qb.num<0),vnb,vdb]) func203 hs ?_;refine go2 ?_;refine zI (wU (cs:=[_,_,_]) I I) I I I ?_;intro v2 r2 ad;obtain⟨b2,rfl,rfl⟩:=ad;refine zI (wU (cs:=[_,_,_]) I I) I I I ?_;intro v3 r3 ac;obtain⟨b3,rfl,rfl⟩:=ac;refine zI (uC (cs:=[vB ((0:Rat).num<0),.slice none 0 0,.slice none 0 0]) xU I (by simp only[zb];rfl)) I I I ?_;intro v4 r4 ab;obtain⟨b4,rfl,rfl⟩:=ab;refine go6 ?_;refine cL (ev2 I I) call45 (λw hs=>zEX hs hna hda hnb hdb oM oM) λv7 h1 az aa=>?_;obtain⟨av,ax,rfl,D,H⟩:=aa;have ak:=aY qa qb;refine cL (vs:=[vI (1),vI (2)]) e2z call21 (λw hs=>zB7 hs oM oM oM oM) λv8 h2 J Z=>?_;have aj:=zBD (n:=(1:Int)) (d:=(2:Int)) oM oM oM oM;obtain⟨au,aw,rfl,ae,ah⟩:=Z;replace D:=D.mono J;replace H:=H.mono J;refine cL (ev2 I I) call53 (λw hs=>zLF hs D H ae ah oM oM) λv9 h3 ay U=>?_;obtain⟨M,O,rfl,C,G⟩:=U;have ai:=iI (qa+qb) (jW (1:Int) (2:Int));refine wP (A:=[]) (r':=.var b4 29 [vB (((qa+qb)*(jW (1:Int) (2:Int))).num<0),M,O]) (zN (k:=0) (cs:=[_,_,_]) (vs:=[_,_,_]) I I I (ocr I (ocu C (ocu G oc0))) yF (bL I)) I I I (go3 ?_);refine yW (λE S=>zW I (wS (cs:=[_,_,_]) mh0 underlying29 I yF I) E S) ?_;rw[zIG] at C G ⊢;exact⟨_,_,I,C,G⟩
theorem zSC{qa:Rat}{vna vda:Value}(hna:Us .u32 h0 vna (zB qa.num.natAbs))(hda:Us .u32 h0 vda (zB (wQ qa.den)))(hqa:lq qa<=100000000000):
 Calls Tryz.prog 134 #[.agg #[vB (qa.num<0),vna,vda]] w0 (Ret w0 h0 (λ_ r=>r=.string (qL (qN qa)))):=by
 have ab:=uD qa;have ac:=uA qa;have ad:=vX qa;refine cb1 22 (.agg #[vB (qa.num<0),vna,vda]) func134 hs ?_;refine go2 ?_;refine zI (wU (cs:=[_,_,_]) I I) I I I ?_;intro v1 r1 U;obtain⟨b1,rfl,rfl⟩:=U;refine go7 ?_;refine cL (ev1 I) call177 (λw hs=>zE1 hs hna oM) λv6 h1 J O=>?_;subst O;have aa:=zAE ((qa.num.natAbs));refine zCR (λG=>?_) λG=>?_
 ·
  refine go2 ?_;refine gv (wW (pa:=([45]:List Nat)) (pb:=(txt ((qa.num.natAbs)))) I I zoc) I ?_;replace hda:=hda.mono J;refine zKG (λC=>?_) λC=>?_
  ·
   refine go4 ?_;refine cL (ev1 I) call177 (λw hs=>zE1 hs hda oM) λM h2 Z D=>?_;subst D;have H:=zAE (((wQ qa.den)));refine gv (wW (pa:=([47]:List Nat)) (pb:=(txt (((wQ qa.den))))) I I zoc) I (gv (wW (pa:=(([45]:List Nat)++(txt ((qa.num.natAbs))))) (pb:=(([47]:List Nat)++(txt (((wQ qa.den)))))) I I zoc) I (uE ?_));refine zC I I ?_;rw[<-yEC G C]
  refine go9 ?_;refine zC I I ?_;rw[<-zZX G C]
 replace hda:=hda.mono J;refine zCQ (λC=>?_) λC=>?_
 ·
  refine go4 ?_;refine cL (ev1 I) call177 (λw hs=>zE1 hs hda oM) λM h2 Z D=>?_;subst D;have H:=zAE (((wQ qa.den)));refine gv (wW (pa:=([47]:List Nat)) (pb:=(txt (((wQ qa.den))))) I I zoc) I (gv (wW (pa:=(txt ((qa.num.natAbs)))) (pb:=(([47]:List Nat)++(txt (((wQ qa.den)))))) I I zoc) I (uE ?_));refine zC I I ?_;rw[<-zZY G C]
 refine go9 ?_;refine zC I I ?_;rw[<-zZZ G C]
theorem zF3{n m:Int}(hm:0<m)(hm2:m<4611686018427387904):
 Calls Tryz.prog 44 #[vI n,vI m] w0 (Ret w0 h0 (λ_ r=>r=vI (iG n m))):=by
 have D:=zEN n hm;refine cb2 14 (vI n) (vI m) func44 hs ?_;refine go9 ?_;refine gv (zSQ I I oM) I (zCR (λC=>?_) λC=>?_)
 ·
  refine tU ?_;refine zC I I ?_;rw[iG,if_pos C]
 refine go9 ?_;refine zC I I ?_;rw[iG,if_neg C]
theorem zPB{vl:Value}{xs:List Int}(hl:Is h0 vl xs):
 Calls Tryz.prog 9 #[vl] w0 (Ret w0 h0 (λ_ r=>r=vB ((↑xs.length:Int)<=500))):=by
 refine cb1 6 vl func9 hs ?_;refine go8 ?_;refine gv (zH0 underlying22 I hl) I (go5 ?_);refine zC I I ?_
 rfl
theorem zTE{vl:Value}{xs:List Int}(hl:Is h0 vl xs):
 Calls Tryz.prog 11 #[vl] w0 (tQ w0 h0 (λ_ r L=>∃b,r=vP b 0/\L=[.var b 72 [vl,vI ↑0]])):=by
 refine cb1 6 vl func11 hs ?_;refine go8 ?_;refine gv (wF (ps':=[(0,_)]) (vs:=[vl,vI 0]) underlying72 zXS I (zVY underlying72) e2z (wY (A:=[]) (B:=[_]) (C:=[_]) (cs:=[_]) (off:=0) (size:=1) I I I I hl.cells jP)) I (zI (wU (cs:=[_,_]) I I) I I I ?_);intro G H D;obtain⟨J,rfl,rfl⟩:=D;refine go4 ?_;refine uY I I ?_;exact⟨_,I,I⟩
end
theorem wK{w0 w:World}{h0 h:Mem}{b k:Nat}{vl:Value}{xs:List Int}(hl:Is h vl xs)(hk:k<=xs.length){n:Int}(hn:0<n)(hn2:n<4611686018427387904){L:List Res}(hs:St w0 h0 (.var b 72 [vl,vI ↑k]::L) h w):
 Calls Tryz.prog 13 #[vP b 0,vI n] w (lJ w0 h0 h L (λg r q'=>∃k':Nat,∃z,q'=.var b 72 [vl,vI ↑k']/\k'<=xs.length/\(r=vI z/\0<=z/\z<n))):=by
 have M:=hl.lt63;refine qI (n:=35) (e:=[(0,vP b 0),(1,vI n)]) (vs:=[vP b 0,vI n]) func13 rfl rfl (bL rfl) hs e2z (go7 ?_);refine zK 10 _ [] [(0,.q),(1,.q),(2,.q),(3,.q),(4,.q),(5,.q),(6,.q),(7,.q),(8,.q),(9,.q)] zX nX zob nX (λr H=>H) (go1 ?_);refine wB I (λ_ _=>gH I) I (go3 ?_);refine wB I (λ_ _=>gH I) I (go2 ?_);refine w_q I (λh' L' hh hR=>zH0 underlying22 I (hl.mono hh)) I (gc3 (λG=>?_) λG=>?_)
 ·
  refine go7 ?_;refine uY I I ?_;exact⟨_,(List.Sublist.refl _),(MLe.refl _),k,0,I,hk,I,by omega,hn⟩
 refine go5 ?_;refine gv (gH I) I (go3 ?_);refine gv (gH I) I (go1 ?_);refine wP (A:=[]) (r':=.var b 72 [vl,vI ((↑k:Int)+(1:Int))]) (zN (k:=1) (cs:=[_,_]) (vs:=[_]) I I I I yCW (bL I)) I I I (go3 ?_);refine zK 14 _ [] [(0,.q),(1,.q),(2,.q),(3,.q),(4,.q),(5,.q),(6,.q),(7,.q),(8,.q),(9,.q),(10,.q),(11,.q),(12,.c),(13,.q)] zX nX zob nX (λr H=>H) (go1 ?_);refine wB I (λ_ _=>gH I) I (go3 ?_);refine wB I (λ_ _=>gH I) I (go3 ?_);refine w_q I (λh' L' hh hR=>zLO (k) underlying22 sizeOf3 I I (hl.mono hh) oM oM) I (w_q I (λh' L' hh hR=>zOG isAgg3 I (hl.mono hh) oM) I (go1 ?_));refine w_c I (sC (ev2 I I) call44 (λw hs=>zF3 hs oM oM) λO h1 J D=>?_);have C:=j9 ((xs).getD (k) 0) (q:=n) oM;subst D;refine go4 ?_;refine uY I I ?_;exact⟨_,(List.Sublist.refl _),J,k+1,_,I,by omega,I,C.1,C.2⟩
section
variable{w0:World}{h0:Mem}(hs:MLe h0 (mem w0))
include hs
theorem zTF{n:Int}(hn1:-9223372036854775808<=n)(hn2:n<9223372036854775808):
 Calls Tryz.prog 59 #[vI n] w0 (Ret w0 h0 (λg r=>lq (zQH n)<=2/\vC g r (zQH n))):=by
 refine cb1 14 (vI n) func59 hs ?_;refine go2 ?_;refine zI (uC (cs:=[vB ((0:Rat).num<0),.slice none 0 0,.slice none 0 0]) xU I (by simp only[zb];rfl)) I I I ?_;intro v2 r2 Z;obtain⟨b2,rfl,rfl⟩:=Z;refine go5 ?_;refine gv (zSR (q:=17) I I oM oM oM) I (cL (vs:=[_,vI (12)]) e2z call44 (λw hs=>zF3 hs oM oM) λv6 h1 ai U=>?_);have ab:=j9 (n.tdiv (17:Int)) (q:=(12:Int)) oM;subst U;refine gv (zQ (p:=1) I I oM oM) I (go8 ?_);refine cL (ev2 I I) call44 (λw hs=>zF3 hs oM oM) λad h2 ah O=>?_;have aa:=j9 n (q:=(((1:Int)+(iG (n.tdiv (17:Int)) (12:Int)))+(1:Int))) oM;subst O;refine go1 ?_;refine cL (ev2 I I) call21 (λw hs=>zB7 hs oM oM oM oM) λac h3 ae M=>?_;have G:=zBD (n:=(iG n (((1:Int)+(iG (n.tdiv (17:Int)) (12:Int)))+(1:Int)))) (d:=((1:Int)+(iG (n.tdiv (17:Int)) (12:Int)))) oM oM oM oM;obtain⟨H,J,rfl,C,D⟩:=M;refine wP (A:=[]) (r':=.var b2 29 [vB ((jW (iG n (((1:Int)+(iG (n.tdiv (17:Int)) (12:Int)))+(1:Int))) ((1:Int)+(iG (n.tdiv (17:Int)) (12:Int)))).num<0),H,J]) (zN (k:=0) (cs:=[_,_,_]) (vs:=[_,_,_]) I I I (ocr I (ocu C (ocu D oc0))) yF (bL I)) I I I (go3 ?_);refine yW (λE S=>zW I (wS (cs:=[_,_,_]) mh0 underlying29 I yF I) E S) ?_;exact⟨G,⟨_,_,I,C,D⟩⟩
theorem aO{k l:Nat}{va:Value}{a:Rat}(ra:(rpQ k).Is h0 va a){vb:Value}{b:Rat}(rb:(rpQ l).Is h0 vb b)(hcd0:k+l<=10000000000):
 Calls Tryz.prog 160 #[va,vb] w0 (Ret w0 h0 (λh r=>(rpQ (k+l+1)).Is h r (a+b))):=by
 obtain⟨M,U,rfl,D,H,aa⟩:=qP ra;obtain⟨J,O,rfl,C,G,Z⟩:=qP rb;exact(yAW hs D H C G oM oM).mono (gA λh r x=>s5 x (by have:=aY a b;omega))
theorem fM{k l:Nat}{va:Value}{a:Rat}(ra:(rpQ k).Is h0 va a){vb:Value}{b:Rat}(rb:(rpQ l).Is h0 vb b)(hcd0:k+l<=10000000000):
 Calls Tryz.prog 121 #[va,vb] w0 (Ret w0 h0 (λh r=>(rpQ (k+l+1)).Is h r (a-b))):=by
 obtain⟨M,U,rfl,D,H,aa⟩:=qP ra;obtain⟨J,O,rfl,C,G,Z⟩:=qP rb;exact(yAR hs D H C G oM oM).mono (gA λh r x=>s5 x (by have:=zF4 a b;omega))
theorem kD{k l:Nat}{va:Value}{a:Rat}(ra:(rpQ k).Is h0 va a){vb:Value}{b:Rat}(rb:(rpQ l).Is h0 vb b)(hcd0:k+l<=10000000000):
 Calls Tryz.prog 153 #[va,vb] w0 (Ret w0 h0 (λh r=>(rpQ (k+l)).Is h r (a*b))):=by
 obtain⟨M,U,rfl,D,H,aa⟩:=qP ra;obtain⟨J,O,rfl,C,G,Z⟩:=qP rb;exact(yAT hs D H C G oM oM).mono (gA λh r x=>s5 x (by have:=iI a b;omega))
theorem aN{k l:Nat}{va:Value}{a:Rat}(ra:(rpQ k).Is h0 va a){vb:Value}{b:Rat}(rb:(rpQ l).Is h0 vb b)(hcd0:k+l<=10000000000):
 Calls Tryz.prog 182 #[va,vb] w0 (Ret w0 h0 (λ_ r=>r=vI (xT a b))):=by
 obtain⟨M,U,rfl,D,H,aa⟩:=qP ra;obtain⟨J,O,rfl,C,G,Z⟩:=qP rb;exact yAV hs D H C G oM oM
theorem rX{k:Nat}{va:Value}{a:Rat}(ra:(rpQ k).Is h0 va a)(hcd0:k<=10000000000):
 Calls Tryz.prog 122 #[va] w0 (Ret w0 h0 (λ_ r=>r=vI (yR a))):=by
 obtain⟨G,H,rfl,C,D,J⟩:=qP ra;exact zAV hs C D oM
theorem j5{k l:Nat}{va:Value}{a:Rat}(ra:(rpQ k).Is h0 va a){vb:Value}{b:Rat}(rb:(rpQ l).Is h0 vb b)(hcd0:k+l<=10000000000):
 Calls Tryz.prog 159 #[va,vb] w0 (Ret w0 h0 (λ_ r=>r=vB (a=b))):=by
 obtain⟨M,U,rfl,D,H,aa⟩:=qP ra;obtain⟨J,O,rfl,C,G,Z⟩:=qP rb;exact zVQ hs D H C G oM oM
theorem zSX{k l:Nat}{va:Value}{a:Rat}(ra:(rpQ k).Is h0 va a){vb:Value}{b:Rat}(rb:(rpQ l).Is h0 vb b)(hcd0:k+l<=10000000000):
 Calls Tryz.prog 123 #[va,vb] w0 (Ret w0 h0 (λh r=>∃u0,r=.tuple #[u0,vI (if b=0 then 3 else 0)]/\(rpQ (k+l)).Is h u0 (if b=0 then 0 else a/b))):=by
 obtain⟨M,U,rfl,D,H,aa⟩:=qP ra;obtain⟨J,O,rfl,C,G,Z⟩:=qP rb;exact(yAS hs D H C G oM oM).mono (gA λh r x=>by obtain⟨u,e,y⟩:=x;exact⟨u,e,s5 y (by have:=zQW a b;omega)⟩)
theorem rW{k l:Nat}{va:Value}{a:Rat}(ra:(rpQ k).Is h0 va a){vb:Value}{b:Rat}(rb:(rpQ l).Is h0 vb b)(hcd0:k+l<=10000000000):
 Calls Tryz.prog 45 #[va,vb] w0 (Ret w0 h0 (λh r=>(rpQ (k+l+1)).Is h r (a+b))):=by
 obtain⟨M,U,rfl,D,H,aa⟩:=qP ra;obtain⟨J,O,rfl,C,G,Z⟩:=qP rb;exact(zEX hs D H C G oM oM).mono (gA λh r x=>s5 x (by have:=aY a b;omega))
theorem gP{k l:Nat}{va:Value}{a:Rat}(ra:(rpQ k).Is h0 va a){vb:Value}{b:Rat}(rb:(rpQ l).Is h0 vb b)(hcd0:k+l<=10000000000):
 Calls Tryz.prog 55 #[va,vb] w0 (Ret w0 h0 (λh r=>(rpQ (k+l+1)).Is h r (a-b))):=by
 obtain⟨M,U,rfl,D,H,aa⟩:=qP ra;obtain⟨J,O,rfl,C,G,Z⟩:=qP rb;exact(zVC hs D H C G oM oM).mono (gA λh r x=>s5 x (by have:=zF4 a b;omega))
theorem qS{k l:Nat}{va:Value}{a:Rat}(ra:(rpQ k).Is h0 va a){vb:Value}{b:Rat}(rb:(rpQ l).Is h0 vb b)(hcd0:k+l<=10000000000):
 Calls Tryz.prog 53 #[va,vb] w0 (Ret w0 h0 (λh r=>(rpQ (k+l)).Is h r (a*b))):=by
 obtain⟨M,U,rfl,D,H,aa⟩:=qP ra;obtain⟨J,O,rfl,C,G,Z⟩:=qP rb;exact(zLF hs D H C G oM oM).mono (gA λh r x=>s5 x (by have:=iI a b;omega))
theorem zFI{k l:Nat}{va:Value}{a:Rat}(ra:(rpQ k).Is h0 va a){vb:Value}{b:Rat}(rb:(rpQ l).Is h0 vb b)(hcd0:k+l<=10000000000):
 Calls Tryz.prog 203 #[va,vb] w0 (Ret w0 h0 (λh r=>(rpQ (k+l+2)).Is h r (zCJ a b))):=by
 obtain⟨M,U,rfl,D,H,aa⟩:=qP ra;obtain⟨J,O,rfl,C,G,Z⟩:=qP rb;exact(zVE hs D H C G oM oM).mono (gA λh r x=>s5 x (by have:=yGL a b;omega))
theorem fZ{k l:Nat}{va:Value}{a:Rat}(ra:(rpQ k).Is h0 va a){vb:Value}{b:Rat}(rb:(rpQ l).Is h0 vb b)(hcd0:k+l<=10000000000):
 Calls Tryz.prog 17 #[va,vb] w0 (Ret w0 h0 (λ_ r=>r=vI (xT a b))):=by
 obtain⟨M,U,rfl,D,H,aa⟩:=qP ra;obtain⟨J,O,rfl,C,G,Z⟩:=qP rb;exact zVG hs D H C G oM oM
theorem vM{k:Nat}{va:Value}{a:Rat}(ra:(rpQ k).Is h0 va a)(hcd0:k<=10000000000):
 Calls Tryz.prog 48 #[va] w0 (Ret w0 h0 (λ_ r=>r=vI (yR a))):=by
 obtain⟨G,H,rfl,C,D,J⟩:=qP ra;exact zB6 hs C D oM
theorem tY{k l:Nat}{va:Value}{a:Rat}(ra:(rpQ k).Is h0 va a){vb:Value}{b:Rat}(rb:(rpQ l).Is h0 vb b)(hcd0:k+l<=10000000000):
 Calls Tryz.prog 73 #[va,vb] w0 (Ret w0 h0 (λ_ r=>r=vB (a=b))):=by
 obtain⟨M,U,rfl,D,H,aa⟩:=qP ra;obtain⟨J,O,rfl,C,G,Z⟩:=qP rb;exact zSD hs D H C G oM oM
theorem zFH{k l:Nat}{va:Value}{a:Rat}(ra:(rpQ k).Is h0 va a){vb:Value}{b:Rat}(rb:(rpQ l).Is h0 vb b)(hcd0:k+l<=10000000000):
 Calls Tryz.prog 81 #[va,vb] w0 (Ret w0 h0 (λh r=>∃u0,r=.tuple #[u0,vI (if b=0 then 3 else 0)]/\(rpQ (k+l)).Is h u0 (if b=0 then 0 else a/b))):=by
 obtain⟨M,U,rfl,D,H,aa⟩:=qP ra;obtain⟨J,O,rfl,C,G,Z⟩:=qP rb;exact(zVD hs D H C G oM oM).mono (gA λh r x=>by obtain⟨u,e,y⟩:=x;exact⟨u,e,s5 y (by have:=zQW a b;omega)⟩)
theorem oC{k:Nat}{va:Value}{a:Rat}(ra:(rpQ k).Is h0 va a)(hcd0:k<=10000000000):
 Calls Tryz.prog 87 #[va] w0 (Ret w0 h0 (λh r=>(rpQ k).Is h r (-a))):=by
 obtain⟨G,H,rfl,C,D,J⟩:=qP ra;exact(zLE hs C D oM).mono (gA λh r x=>s5 x (by have:=zPE a;omega))
theorem zOQ{k:Nat}{va:Value}{a:Rat}(ra:(rpQ k).Is h0 va a)(hcd0:k<=10000000000):
 Calls Tryz.prog 103 #[va] w0 (Ret w0 h0 (λh r=>(rpQ k).Is h r (iQ a))):=by
 obtain⟨G,H,rfl,C,D,J⟩:=qP ra;exact(zVH hs C D oM).mono (gA λh r x=>s5 x (by have:=yGM a;omega))
theorem qT{n:Int}(hn1:-9223372036854775808<=n)(hn2:n<9223372036854775808):
 Calls Tryz.prog 27 #[vI n] w0 (Ret w0 h0 (λh r=>(rpQ 2).Is h r ((n:Int):Rat))):=by
 exact(zVF hs hn1 hn2).mono (gA λh r x=>s5 x (by exact sY n hn1 hn2))
theorem zCF{n:Int}(hn1:-9223372036854775808<=n)(hn2:n<9223372036854775808):
 Calls Tryz.prog 116 #[vI n] w0 (Ret w0 h0 (λh r=>(rpQ 2).Is h r ((n:Int):Rat))):=by
 exact(yAU hs hn1 hn2).mono (gA λh r x=>s5 x (by exact sY n hn1 hn2))
theorem iC{n:Int}(hn1:-9223372036854775808<=n)(hn2:n<9223372036854775808){d:Int}(hd1:-9223372036854775808<=d)(hd2:d<9223372036854775808):
 Calls Tryz.prog 21 #[vI n,vI d] w0 (Ret w0 h0 (λh r=>(rpQ 2).Is h r (jW n d))):=by
 exact(zB7 hs hn1 hn2 hd1 hd2).mono (gA λh r x=>s5 x (by exact zBD hn1 hn2 hd1 hd2))
theorem zVZ{qa:Rat}{vna vda:Value}(hna:Us .u32 h0 vna (zB qa.num.natAbs))(hda:Us .u32 h0 vda (zB (wQ qa.den))):
 Calls Tryz.prog 146 #[.agg #[vB (qa.num<0),vna,vda]] w0 (Ret w0 h0 (λ_ r=>r=.tuple #[vI (smZ qa),vB (smB qa)])):=by
 refine cb1 33 (.agg #[vB (qa.num<0),vna,vda]) func146 hs ?_;refine go2 ?_;refine zI (wU (cs:=[_,_,_]) I I) I I I ?_;intro v1 r1 U;obtain⟨b1,rfl,rfl⟩:=U;refine qA ?_;refine gU 6 14 (vB (((0:Int)<(↑(zB (wQ qa.den)).length:Int))\/((1:Int)<(↑(zB qa.num.natAbs).length:Int)))) ?_ ?_
 ·
  refine zY ((0:Int)<(↑(zB (wQ qa.den)).length:Int)) (λM=>?_) (λM=>?_)
  ·
   refine gT M I (go6 ?_);refine gqU ?_;exact congrArg some (vH M)
  refine gF M I (uE ?_);refine gqU ?_;exact congrArg some (vJ M)
 refine gc2 (λC=>?_) λC=>?_
 ·
  refine go8 ?_;refine wH I I I ?_;obtain⟨e1,Z⟩:=yIZ C;rw[e1,yG Z]
 refine zCQ (λG=>?_) λG=>?_
 ·
  refine go8 ?_;refine wH I I I ?_;obtain⟨e1,Z⟩:=yIY C G;rw[e1,xK Z]
 obtain⟨O,ab,H⟩:=zZ8 C G;have aa:=zUU C;refine go6 ?_;refine gv (zU (q:=0) (0) underlying27 sizeOf124 I I hna I oM) I (go1 ?_);rw[O];refine gv (zFE (k:=.u32) underlying124 underlying2 I oM) I (zCR (λD=>?_) λD=>?_)
 ·
  have J:=D;refine go3 ?_;refine gv (aV I oM oM) I (go8 ?_);refine wH I I I ?_;exact zHP oM (Iff.trans oM H.symm)
 have J:=D;refine uS ?_;refine wH I I I ?_;exact zHP oM (Iff.trans oM H.symm)
theorem tA{k:Nat}{va:Value}{a:Rat}(ra:(rpQ k).Is h0 va a):Calls Tryz.prog 146 #[va] w0 (Ret w0 h0 (λ_ r=>r=.tuple #[vI (smZ a),vB (smB a)])):=by
 obtain⟨G,H,rfl,C,D,J⟩:=qP ra;exact zVZ hs C D
theorem zH9{n:Int}(hn1:-9223372036854775808<=n)(hn2:n<9223372036854775808):
 Calls Tryz.prog 148 #[vI n] w0 (Ret w0 h0 (λ_ r=>r=vI (zG3 n))):=by
 refine cb1 9 (vI n) func148 hs ?_;refine tU ?_;refine cnd (λC=>?_) λC=>?_
 ·
  refine go8 ?_;refine zC I I ?_;unfold zG3;rw[if_pos C]
 refine gc7 (λD=>?_) λD=>?_
 ·
  refine go8 ?_;refine zC I I ?_;unfold zG3;rw[if_neg C,if_pos D]
 refine go9 ?_;refine zC I I ?_;unfold zG3;rw[if_neg C,if_neg D]
theorem zCG{k:Nat}{vp:Value}{p:Tq}(rp:(tPt k).Is h0 vp p){i:Nat}{j:Nat}(hcd0:i<3)(hcd1:j<3):
 Calls Tryz.prog 213 #[vp,vI ↑i,vI ↑j] w0 (Ret w0 h0 (λh r=>r=.tuple #[vI (smZ (p.at i)),vI (smZ (p.at j)),vB (smB (p.at i)/\smB (p.at j))])):=by
 refine cb3 33 vp (vI ↑i) (vI ↑j) func213 hs ?_;refine go2 ?_;refine nB rp λG ae C=>(go8 ?_);refine gv ((yE (sz:=3) i underlying31 sizeOf29 I I I oM).cv (show _=vP G ((i*3+0)) from congrArg (vP G) oM)) I (lX (xB yC (Pc.ta pH i oM) C) λab O=>(cL (ev1 I) call146 (λw hs=>tA hs O) λaa h1 ad M=>?_));obtain rfl:=M;refine uE ?_;refine gv ((yE (sz:=3) j underlying31 sizeOf29 I I I oM).cv (show _=vP G ((j*3+0)) from congrArg (vP G) oM)) I (lX (xB yC (Pc.ta pH j oM) C) λZ J=>(cL (ev1 I) call146 (λw hs=>tA hs J) λU h2 ac H=>?_));obtain rfl:=H;refine uS ?_;refine gU 3 32 (vB ((smB (p.at i))/\(smB (p.at j)))) ?_ ?_
 ·
  refine zY (smB (p.at i)) (λD=>?_) (λD=>?_)
  ·
   refine gT D I (go4 ?_);refine gqU ?_;exact congrArg some (xC D)
  refine gF D I (go3 ?_);refine gqU ?_;exact congrArg some (xD D)
 refine go6 ?_;refine uX I I I I ?_
 rfl
theorem zDG{k:Nat}{va:Value}{a:Tq}(ra:(tPt k).Is h0 va a){vb:Value}{b:Tq}(rb:(tPt k).Is h0 vb b){vc:Value}{c:Tq}(rc:(tPt k).Is h0 vc c){i:Nat}{j:Nat}(hcd0:i<3)(hcd1:j<3)(hcd2:k<=1000000000):
 Calls Tryz.prog 206 #[va,vb,vc,vI ↑i,vI ↑j] w0 (Ret w0 h0 (λ_ r=>r=vI (orZ (pr a i j) (pr b i j) (pr c i j)))):=by
 refine jI (n:=100) (e:=[(0,va),(1,vb),(2,vc),(3,vI ↑i),(4,vI ↑j)]) (vs:=[va,vb,vc,vI ↑i,vI ↑j]) func206 rfl rfl (bL rfl) hs e5 (go2 ?_);refine nB ra λM df C=>(nB rb λb6 de U=>(nB rc λb7 dd O=>(go5 ?_)));refine lX (xB zH pH C) λcj bj=>(go2 ?_);refine cL (ev3 I I I) call213 (λw hs=>zCG (i:=i) (j:=j) hs bj oM oM) λci h1 db bi=>?_;obtain rfl:=bi;refine qA ?_;refine lX (xB zH pH U) λch bh=>(go2 ?_);refine cL (ev3 I I I) call213 (λw hs=>zCG (i:=i) (j:=j) hs bh oM oM) λcg h2 da bg=>?_;obtain rfl:=bg;refine qA ?_;refine lX (xB zH pH O) λcf bf=>(go2 ?_);refine cL (ev3 I I I) call213 (λw hs=>zCG (i:=i) (j:=j) hs bf oM oM) λce h3 cz be=>?_;obtain rfl:=be;refine sR ?_;refine gU 3 48 (vB ((smB (a.at i)/\smB (a.at j))/\(smB (b.at i)/\smB (b.at j)))) ?_ ?_
 ·
  refine zY (smB (a.at i)/\smB (a.at j)) (λD=>?_) (λD=>?_)
  ·
   refine gT D I (go4 ?_);refine gqU ?_;exact congrArg some (xC D)
  refine gF D I (go3 ?_);refine gqU ?_;exact congrArg some (xD D)
 refine gU 3 51 (vB (((smB (a.at i)/\smB (a.at j))/\(smB (b.at i)/\smB (b.at j)))/\(smB (c.at i)/\smB (c.at j)))) ?_ ?_
 ·
  refine zY ((smB (a.at i)/\smB (a.at j))/\(smB (b.at i)/\smB (b.at j))) (λD=>?_) (λD=>?_)
  ·
   refine gT D I (go4 ?_);refine gqU ?_;exact congrArg some (xC D)
  refine gF D I (go3 ?_);refine gqU ?_;exact congrArg some (xD D)
 refine gc2 (λG=>?_) λG=>?_
 ·
  obtain⟨⟨⟨ao,an⟩,am,ak⟩,J,H⟩:=G;have cp:=(sS ao).2;have co:=(sS an).2;have cn:=(sS am).2;have cm:=(sS ak).2;have cl:=(sS J).2;have ck:=(sS H).2;have kp:=zVT (u:=smZ (b.at i)-smZ (a.at i)) (v:=smZ (c.at j)-smZ (a.at j)) oM oM oM oM;have kq:=zVT (u:=smZ (b.at j)-smZ (a.at j)) (v:=smZ (c.at i)-smZ (a.at i)) oM oM oM oM;refine go8 ?_;refine gv (kU I I oM oM) I (go6 ?_);refine gv (kU I I oM oM) I (go1 ?_);refine cL (ev1 I) call148 (λw hs=>zH9 hs oM oM) λaq h4 bk bd=>?_;obtain rfl:aq=vI (zG3 ((((smZ (b.at i))-(smZ (a.at i)))*((smZ (c.at j))-(smZ (a.at j))))-(((smZ (b.at j))-(smZ (a.at j)))*((smZ (c.at i))-(smZ (a.at i)))))):=bd;refine go5 ?_;refine zC I I ?_;exact congrArg vI (zWB (a:=pr a i j) (b:=pr b i j) (c:=pr c i j) ⟨ao,an⟩ ⟨am,ak⟩ ⟨J,H⟩)
 refine go3 ?_;refine zK 16 _ [(15,(20,29,[.bool false,.slice none 0 0,.slice none 0 0]))] [(0,.q),(1,.q),(2,.q),(3,.q),(4,.q),(5,.q),(7,.q),(8,.q),(9,.q),(10,.q),(11,.q),(12,.q),(6,.c),(13,.c),(14,.c),(15,.a),(16,.t)] zX (qZ.cons I I (uJ xU I I) qZ.nil) (wJ zob) (uK I I kL) (λr hr=>hr) (go1 ?_);refine wB I (λ_ _=>(yE (sz:=3) i underlying31 sizeOf29 I I I oM).cv (show _=vP b6 ((i*3+0)) from congrArg (vP b6) oM)) I (wX I (xB yC (Pc.ta pH i oM) U) λcd bc=>(go1 ?_));refine wB I (λ_ _=>(yE (sz:=3) i underlying31 sizeOf29 I I I oM).cv (show _=vP M ((i*3+0)) from congrArg (vP M) oM)) I (wX I (xB yC (Pc.ta pH i oM) C) λcc bb=>(go1 ?_));refine wB I (λ_ _=>(yE (sz:=3) j underlying31 sizeOf29 I I I oM).cv (show _=vP b7 ((j*3+0)) from congrArg (vP b7) oM)) I (wX I (xB yC (Pc.ta pH j oM) O) λca ba=>(go1 ?_));refine wB I (λ_ _=>(yE (sz:=3) j underlying31 sizeOf29 I I I oM).cv (show _=vP M ((j*3+0)) from congrArg (vP M) oM)) I (wX I (xB yC (Pc.ta pH j oM) C) λbz az=>?_);refine w_c I (sC (ev2 I I) call121 (λw hs=>fM hs bc bb oM) λcb h4 bk ae=>?_);replace ae:=Rp.Is.le ae (Le.q (l:=2*k+1) oM);refine w_c I (sC (ev2 I I) call121 (λw hs=>fM hs ba.up az.up oM) λbx h5 cy ad=>?_);replace ad:=Rp.Is.le ad (Le.q (l:=2*k+1) oM);refine w_c I (sC (ev2 I I) call153 (λw hs=>kD hs ae.up ad oM) λbw h6 cw ac=>?_);replace ac:=Rp.Is.le ac (Le.q (l:=4*k+2) oM);refine w_a I I (λdh=>?_);have aj:(rpQ 1).R h6 [.bool false,.slice none 0 0,.slice none 0 0] (0:Rat):=(yH dC);have ah:=(Le.q (l:=4*k+2) oM).R aj;refine yJ (A:=[]) I (uB sizeOf29 pH ah ac) λbn ai=>(go3 ?_);refine zK 18 _ [] [(0,.q),(1,.q),(2,.q),(3,.q),(4,.q),(5,.q),(6,.q),(8,.q),(9,.q),(10,.q),(11,.q),(12,.q),(13,.q),(7,.c),(14,.c),(15,.c),(16,.c),(17,.q)] zX nX (wJ zob) nX (λr hr=>hr) (wX I (xB yC pH ai) λbv ay=>(go1 ?_));refine wB I (λ_ _=>(yE (sz:=3) j underlying31 sizeOf29 I I I oM).cv (show _=vP b6 ((j*3+0)) from congrArg (vP b6) oM)) I (wX I (xB yC (Pc.ta pH j oM) U) λbu ax=>(go1 ?_));refine wB I (λ_ _=>(yE (sz:=3) j underlying31 sizeOf29 I I I oM).cv (show _=vP M ((j*3+0)) from congrArg (vP M) oM)) I (wX I (xB yC (Pc.ta pH j oM) C) λbt aw=>(go1 ?_));refine wB I (λ_ _=>(yE (sz:=3) i underlying31 sizeOf29 I I I oM).cv (show _=vP b7 ((i*3+0)) from congrArg (vP b7) oM)) I (wX I (xB yC (Pc.ta pH i oM) O) λbr av=>(go1 ?_));refine wB I (λ_ _=>(yE (sz:=3) i underlying31 sizeOf29 I I I oM).cv (show _=vP M ((i*3+0)) from congrArg (vP M) oM)) I (wX I (xB yC (Pc.ta pH i oM) C) λbq au=>?_);refine w_c I (sC (ev2 I I) call121 (λw hs=>fM hs ax aw oM) λbs h7 cu ab=>?_);replace ab:=Rp.Is.le ab (Le.q (l:=2*k+1) oM);refine w_c I (sC (ev2 I I) call121 (λw hs=>fM hs av.up au.up oM) λbp h8 ct aa=>?_);replace aa:=Rp.Is.le aa (Le.q (l:=2*k+1) oM);refine w_c I (sC (ev2 I I) call153 (λw hs=>kD hs ab.up aa oM) λbo h9 cq Z=>?_);replace Z:=Rp.Is.le Z (Le.q (l:=4*k+2) oM);refine w_c I (sC (ev2 I I) call182 (λw hs=>aN hs ay.up Z oM) λap dc bm ar=>?_);obtain rfl:ap=vI (xT (((b.at i)-(a.at i))*((c.at j)-(a.at j))) (((b.at j)-(a.at j))*((c.at i)-(a.at i)))):=ar;have bl:=qV (((b.at i)-(a.at i))*((c.at j)-(a.at j))) (((b.at j)-(a.at j))*((c.at i)-(a.at i)));refine go4 ?_;refine zC I I ?_;exact congrArg vI (yF3 (pr a i j) (pr b i j) (pr c i j))
theorem zA6{k:Nat}{va:Value}{a:Rat}(ra:(rpQ k).Is h0 va a){vb:Value}{b:Rat}(rb:(rpQ k).Is h0 vb b){vx:Value}{x:Rat}(rx:(rpQ k).Is h0 vx x)(hcd0:k<=1000000000):
 Calls Tryz.prog 212 #[va,vb,vx] w0 (Ret w0 h0 (λ_ r=>r=vB (qY a b x))):=by
 refine cb3 29 va vb vx func212 hs ?_;refine go2 ?_;refine nB ra λb3 ao M=>(nB rb λb4 an J=>(nB rx λb5 am D=>(go4 ?_)));refine zK 8 _ [] [(0,.q),(1,.q),(3,.q),(4,.q),(2,.c),(5,.c),(6,.q),(7,.q)] zX nX zob nX (λr hr=>hr) (wX I (xB yC pH M) λv9 r9=>(wX I (xB yC pH D) λai ab=>(wX I (xB yC pH D) λah Z=>(wX I (xB yC pH J) λae U=>?_))));refine w_c I (sC (ev2 I I) call182 (λw hs=>aN hs r9 ab oM) λH h1 ak aa=>?_);obtain rfl:H=vI (xT a x):=aa;have ad:=qV a x;refine w_c I (sC (ev2 I I) call182 (λw hs=>aN hs Z.up U.up oM) λG h2 aj O=>?_);obtain rfl:G=vI (xT x b):=O;have ac:=qV x b;refine go8 ?_;refine gU 4 20 (vB (((xT a x)<=(0:Int))/\((xT x b)<=(0:Int)))) ?_ ?_
 ·
  refine zY ((xT a x)<=(0:Int)) (λC=>?_) (λC=>?_)
  ·
   refine gT C I (go6 ?_);refine gqU ?_;exact congrArg some (xC C)
  refine gF C I (go4 ?_);refine gqU ?_;exact congrArg some (xD C)
 refine gU 8 28 (vB ((((xT a x)<=(0:Int))/\((xT x b)<=(0:Int)))\/(((0:Int)<=(xT a x))/\((0:Int)<=(xT x b))))) ?_ ?_
 ·
  refine zY (((xT a x)<=(0:Int))/\((xT x b)<=(0:Int))) (λC=>?_) (λC=>?_)
  ·
   refine gT C I (go8 ?_);refine gqU ?_;exact congrArg some (vH C)
  refine gF C I (go4 ?_);refine gU 4 27 (vB (((0:Int)<=(xT a x))/\((0:Int)<=(xT x b)))) ?_ ?_
  ·
   refine zY ((0:Int)<=(xT a x)) (λC=>?_) (λC=>?_)
   ·
    refine go1 ?_;refine gT C I (go7 ?_);refine gqU ?_;exact congrArg some (xC C)
   refine go1 ?_;refine gF C I (go5 ?_);refine gqU ?_;exact congrArg some (xD C)
  refine go2 ?_;refine gqU ?_;exact congrArg some (vJ C)
 refine go4 ?_;refine zC I I ?_;exact kA zY2
theorem yA8{k:Nat}{va:Value}{a:Tq}(ra:(tPt k).Is h0 va a){vb:Value}{b:Tq}(rb:(tPt k).Is h0 vb b){vp:Value}{p:Tq}(rp:(tPt k).Is h0 vp p){i:Nat}{j:Nat}(hcd0:i<3)(hcd1:j<3)(hcd2:k<=1000000000):
 Calls Tryz.prog 205 #[va,vb,vp,vI ↑i,vI ↑j] w0 (Ret w0 h0 (λ_ r=>r=vB (onS (pr a i j) (pr b i j) (pr p i j)))):=by
 refine jI (n:=42) (e:=[(0,va),(1,vb),(2,vp),(3,vI ↑i),(4,vI ↑j)]) (vs:=[va,vb,vp,vI ↑i,vI ↑j]) func205 rfl rfl (bL rfl) hs e5 (go2 ?_);refine nB ra λU bi J=>(nB rb λO bh H=>(nB rp λM bg G=>(go4 ?_)));refine zK 32 _ [] [(0,.q),(1,.q),(2,.q),(3,.q),(4,.q),(5,.q),(6,.q),(7,.q),(8,.q),(9,.c),(10,.q),(11,.q),(12,.q),(13,.q),(14,.q),(15,.q),(16,.q),(17,.q),(18,.q),(19,.q),(20,.c),(21,.q),(22,.q),(23,.q),(24,.q),(25,.q),(26,.q),(27,.q),(28,.c),(29,.q),(30,.q),(31,.q)] zX nX (wJ zob) nX (λr hr=>hr) (go1 ?_);refine wB I (λ_ _=>(yE (sz:=3) i underlying31 sizeOf29 I I I oM).cv (show _=vP U ((i*3+0)) from congrArg (vP U) oM)) I (wX I (xB yC (Pc.ta pH i oM) J) λbc aq=>(go1 ?_));refine wB I (λ_ _=>(yE (sz:=3) i underlying31 sizeOf29 I I I oM).cv (show _=vP O ((i*3+0)) from congrArg (vP O) oM)) I (wX I (xB yC (Pc.ta pH i oM) H) λbb ap=>(go1 ?_));refine wB I (λ_ _=>(yE (sz:=3) i underlying31 sizeOf29 I I I oM).cv (show _=vP M ((i*3+0)) from congrArg (vP M) oM)) I (wX I (xB yC (Pc.ta pH i oM) G) λba ao=>?_);refine w_c I (sC (ev3 I I I) call212 (λw hs=>zA6 hs aq ap ao oM) λab h1 bf an=>?_);obtain rfl:ab=vB (qY (a.at i) (b.at i) (p.at i)):=an;refine go1 ?_;refine jB (qY (a.at i) (b.at i) (p.at i)) (λD=>?_) (λD=>?_)
 ·
  rw[xK D];refine yL I I I (λh' L' hh hR=>yU I) I (yL I I I (λh' L' hh hR=>(yE (sz:=3) j underlying31 sizeOf29 I I I oM).cv (show _=vP U ((j*3+0)) from congrArg (vP U) oM)) I (oX I (xB yC (Pc.ta pH j oM) J) λaz am=>(yL I I I (λh' L' hh hR=>yU I) I (yL I I I (λh' L' hh hR=>(yE (sz:=3) j underlying31 sizeOf29 I I I oM).cv (show _=vP O ((j*3+0)) from congrArg (vP O) oM)) I (oX I (xB yC (Pc.ta pH j oM) H) λay ak=>(yL I I I (λh' L' hh hR=>yU I) I (yL I I I (λh' L' hh hR=>(yE (sz:=3) j underlying31 sizeOf29 I I I oM).cv (show _=vP M ((j*3+0)) from congrArg (vP M) oM)) I (oX I (xB yC (Pc.ta pH j oM) G) λax aj=>?_))))))));refine w_c I (mT I I (sC (ev3 I I I) call212 (λw hs=>zA6 hs am ak aj oM) λaa h2 be ai=>?_));obtain rfl:aa=vB (qY (a.at j) (b.at j) (p.at j)):=ai;refine go2 ?_;refine jB (qY (a.at j) (b.at j) (p.at j)) (λC=>?_) (λC=>?_)
  ·
   rw[xK C];refine oX I (xB zH pH J) λaw ah=>(oX I (xB zH pH H) λav ae=>(oX I (xB zH pH G) λau ad=>(yL I I I (λh' L' hh hR=>yU I) I (yL I I I (λh' L' hh hR=>yU I) I ?_))));refine w_c I (mT I I (sC (vs:=[_,_,_,_,_]) e5 call206 (λw hs=>zDG (i:=i) (j:=j) hs ah ae ad oM oM oM) λZ h3 bd ac=>?_));obtain rfl:Z=vI (orZ (pr a i j) (pr b i j) (pr p i j)):=ac;have ar:=tJ (pr a i j) (pr b i j) (pr p i j);refine go6 ?_;refine zC I I ?_
   first|exact kA (by unfold onS;simp only[pr,<-fK] at *;grind)|exact(xK (by unfold onS;simp only[pr,<-fK] at *;grind)).symm|exact(yG (by unfold onS;simp only[pr,<-fK] at *;grind)).symm
  rw[yG C];refine go5 ?_;refine w_c I (lT I I I I (go6 ?_));refine zC I I ?_
  first|exact kA (by unfold onS;simp only[pr,<-fK] at *;grind)|exact(xK (by unfold onS;simp only[pr,<-fK] at *;grind)).symm|exact(yG (by unfold onS;simp only[pr,<-fK] at *;grind)).symm
 rw[yG D];refine go9 ?_;refine w_c I (lT I I I I (go7 ?_));refine w_c I (lT I I I I (go6 ?_));refine zC I I ?_
 first|exact kA (by unfold onS;simp only[pr,<-fK] at *;grind)|exact(xK (by unfold onS;simp only[pr,<-fK] at *;grind)).symm|exact(yG (by unfold onS;simp only[pr,<-fK] at *;grind)).symm
theorem zL5{k:Nat}{vl:Value}{l:(List Tq)}(rl:(tLs k).Is h0 vl l){vp:Value}{p:Tq}(rp:(tPt k).Is h0 vp p){i:Nat}{j:Nat}(hcd0:i<3)(hcd1:j<3)(hcd2:k<=100000)(hcd3:l.length<=1000):
 Calls Tryz.prog 183 #[vl,vp,vI ↑i,vI ↑j] w0 (Ret w0 h0 (λ_ r=>r=vI (gW l (pr p i j) i j))):=by
 refine jI (n:=78) (e:=[(0,vl),(1,vp),(2,vI ↑i),(3,vI ↑j)]) (vs:=[vl,vp,vI ↑i,vI ↑j]) func183 rfl rfl (bL rfl) hs e4z (go2 ?_);refine nB rp λb5 bo Z=>(mF ?_);refine gcL (ι:=Nat×Mem) (λ(m,ma)=>(MLe h0 ma/\(m<=l.length/\∀q,q<m->¬onS (vV l i j q) (vT l i j q) (pr p i j)),[(0,vl),(2,vI ↑i),(3,vI ↑j),(5,vP b5 0),(9,vB (jV l (pr p i j) i j m)),(16,vl),(17,vI (↑(l).length:Int)),(18,vI ↑m)],[.var b5 31 bo],ma,l.length-m)) (0,h0) ?_ ?_ (he:=⟨I,I,I,I,congrArg some (yG id).symm,I,I,I,trivial⟩)
 · exact⟨mle,by omega,λq hq=>by omega⟩
 rintro⟨m,ma⟩ ⟨bp,ah,M⟩
 refine yX ?_;refine gc6 (λai=>?_) λai=>?_
 ·
  refine go7 ?_;refine lX (xI zT m underlying35 zH rl) λch bj=>(lX (xA zH bj) λcg bi=>(nA (ρ:=(tPt 1)) (X:=zT) yN (xN (yH dC)) λak bs ae=>(go1 ?_)));have ac:=(Le.t (Le.q (l:=k+1) oM)).R ae;refine yB (A:=[]) (uB sizeOf31 pH ac (bi.le (Le.t (Le.q (l:=k+1) oM)))) λbq J=>(go9 ?_);refine gv (wA I I oM oM) I (lX (xI zT ((m+1)%l.length) underlying35 zH rl (hi:=by exact Nat.mod_lt _ oM)) λcf bh=>(lX (xA zH bh) λce bg=>(nA (ρ:=(tPt 1)) (X:=zT) yN (xN (yH dC)) λaj br ad=>?_)));have ab:=(Le.t (Le.q (l:=k+1) oM)).R ad;refine yB (A:=[]) (uB sizeOf31 pH ab (bg.le (Le.t (Le.q (l:=k+1) oM)))) λbn H=>(go5 ?_);refine lX (xB zH pH J) λcd bf=>(lX (xB zH pH H) λcc be=>(lX (xB zH pH Z) λcb bd=>(go2 ?_)));refine cL (vs:=[_,_,_,_,_]) e5 call205 (λw hs=>yA8 (i:=i) (j:=j) hs bf be (bd.le (Le.t (Le.q (l:=k+1) oM))) oM oM oM) λap h1 cl bc=>?_;obtain rfl:ap=vB (onS (pr (l.getD m zT) i j) (pr (l.getD ((m+1)%l.length) zT) i j) (pr p i j)):=bc;refine gc2 (λG=>?_) λG=>?_
  ·
   refine uS ?_;refine zC I I ?_;exact congrArg vI (zXO oM G)
  refine go3 ?_;refine zK 18 _ [] [(0,.q),(1,.q),(2,.q),(3,.q),(4,.q),(5,.q),(8,.q),(9,.q),(10,.q),(11,.q),(12,.q),(13,.q),(6,.c),(7,.q),(14,.c),(15,.q),(16,.q),(17,.q)] zX nX (wJ zob) nX (λr hr=>hr) (go1 ?_);refine wB I (λ_ _=>(yE (sz:=3) j underlying31 sizeOf29 I I I oM).cv (show _=vP ak ((j*3+0)) from congrArg (vP ak) oM)) I (wX I (xB yC (Pc.ta pH j oM) J) λca bb=>(go1 ?_));refine wB I (λ_ _=>(yE (sz:=3) j underlying31 sizeOf29 I I I oM).cv (show _=vP b5 ((j*3+0)) from congrArg (vP b5) oM)) I (wX I (xB yC (Pc.ta pH j oM) Z) λbz ba=>(go1 ?_));refine wB I (λ_ _=>(yE (sz:=3) j underlying31 sizeOf29 I I I oM).cv (show _=vP aj ((j*3+0)) from congrArg (vP aj) oM)) I (wX I (xB yC (Pc.ta pH j oM) H) λbx ay=>(go1 ?_));refine wB I (λ_ _=>(yE (sz:=3) j underlying31 sizeOf29 I I I oM).cv (show _=vP b5 ((j*3+0)) from congrArg (vP b5) oM)) I (wX I (xB yC (Pc.ta pH j oM) Z) λbw ax=>?_);refine w_c I (sC (ev2 I I) call182 (λw hs=>aN hs bb ba oM) λao h2 ck az=>?_);obtain rfl:ao=vI (xT ((l.getD m zT).at j) (p.at j)):=az;have bm:=qV ((l.getD m zT).at j) (p.at j);refine go1 ?_;refine w_c I (sC (ev2 I I) call182 (λw hs=>aN hs ay.up ax.up oM) λan h3 cj aw=>?_);obtain rfl:an=vI (xT ((l.getD ((m+1)%l.length) zT).at j) (p.at j)):=aw;have bl:=qV ((l.getD ((m+1)%l.length) zT).at j) (p.at j);refine uE ?_;refine gv (aW underlying4 I I) I (gc2 (λU=>?_) λU=>?_)
  ·
   have aa:(vV l i j m).2<=(pr p i j).2↔(vT l i j m).2<=(pr p i j).2:=by have h:=U;rw[jT,jT] at h;exact h
   refine go8 ?_;refine yM (A:=[]) (yM (A:=[]) ?_);refine gqL ((m+1),h3) ?_ ?_ (he:=⟨I,I,I,I,congrArg (λz=>some (vB z)) (zWJ aa),I,I,I,trivial⟩)
   · exact⟨mle,by omega,zA0 M G⟩
   omega
  have aa:¬((vV l i j m).2<=(pr p i j).2↔(vT l i j m).2<=(pr p i j).2):=by have h:=U;rw[jT,jT] at h;exact h
  refine go4 ?_;refine lX (xB zH pH J) λbv av=>(lX (xB zH pH H) λbu au=>(lX (xB zH pH Z) λbt ar=>(go2 ?_)));refine cL (vs:=[_,_,_,_,_]) e5 call206 (λw hs=>zDG (i:=i) (j:=j) hs av au (ar.le (Le.t (Le.q (l:=k+1) oM))) oM oM oM) λam h4 ci aq=>?_;obtain rfl:am=vI (orZ (pr (l.getD m zT) i j) (pr (l.getD ((m+1)%l.length) zT) i j) (pr p i j)):=aq;have bk:=tJ (pr (l.getD m zT) i j) (pr (l.getD ((m+1)%l.length) zT) i j) (pr p i j);refine go6 ?_;refine gU 4 66 (vB (((xT ((l.getD m zT).at j) (p.at j))<=(0:Int))/\((0:Int)<(orZ (pr (l.getD m zT) i j) (pr (l.getD ((m+1)%l.length) zT) i j) (pr p i j))))) ?_ ?_
  ·
   refine zY ((xT ((l.getD m zT).at j) (p.at j))<=(0:Int)) (λC=>?_) (λC=>?_)
   ·
    refine gT C I (go6 ?_);refine gqU ?_;exact congrArg some (xC C)
   refine gF C I (go4 ?_);refine gqU ?_;exact congrArg some (xD C)
  refine gU 7 73 (vB ((((xT ((l.getD m zT).at j) (p.at j))<=(0:Int))/\((0:Int)<(orZ (pr (l.getD m zT) i j) (pr (l.getD ((m+1)%l.length) zT) i j) (pr p i j))))\/(((xT ((l.getD ((m+1)%l.length) zT).at j) (p.at j))<=(0:Int))/\((orZ (pr (l.getD m zT) i j) (pr (l.getD ((m+1)%l.length) zT) i j) (pr p i j))<(0:Int))))) ?_ ?_
  ·
   refine zY (((xT ((l.getD m zT).at j) (p.at j))<=(0:Int))/\((0:Int)<(orZ (pr (l.getD m zT) i j) (pr (l.getD ((m+1)%l.length) zT) i j) (pr p i j)))) (λC=>?_) (λC=>?_)
   ·
    refine gT C I (go7 ?_);refine gqU ?_;exact congrArg some (vH C)
   refine gF C I (go2 ?_);refine gU 4 72 (vB (((xT ((l.getD ((m+1)%l.length) zT).at j) (p.at j))<=(0:Int))/\((orZ (pr (l.getD m zT) i j) (pr (l.getD ((m+1)%l.length) zT) i j) (pr p i j))<(0:Int)))) ?_ ?_
   ·
    refine zY ((xT ((l.getD ((m+1)%l.length) zT).at j) (p.at j))<=(0:Int)) (λC=>?_) (λC=>?_)
    ·
     refine go1 ?_;refine gT C I (go7 ?_);refine gqU ?_;exact congrArg some (xC C)
    refine go1 ?_;refine gF C I (go5 ?_);refine gqU ?_;exact congrArg some (xD C)
   refine go2 ?_;refine gqU ?_;exact congrArg some (vJ C)
  refine gc2 (λD=>?_) λD=>?_
  ·
   rw[jT,jT] at D;refine qA ?_;refine yM (A:=[]) (yM (A:=[]) ?_);refine gqL ((m+1),h4) ?_ ?_ (he:=⟨I,I,I,I,congrArg (λz=>some (vB z)) (zWK aa D),I,I,I,trivial⟩)
   · exact⟨mle,by omega,zA0 M G⟩
   omega
  rw[jT,jT] at D;refine go7 ?_;refine yM (A:=[]) (yM (A:=[]) ?_);refine gqL ((m+1),h4) ?_ ?_ (he:=⟨I,I,I,I,congrArg (λz=>some (vB z)) (zWI D),I,I,I,trivial⟩)
  · exact⟨mle,by omega,zA0 M G⟩
  omega
 refine zCQ (λO=>?_) λO=>?_
 ·
  refine go7 ?_;refine zC I I ?_;exact congrArg vI (zXP oM ah M O)
 refine go8 ?_;refine zC I I ?_;exact congrArg vI (zQZ oM ah M O)
end
end Go.Proofs.YtpkaegemlpaenaaGreat
namespace Bk
open Go Go.RowKit
theorem Is.up{h h':Mem}{v:Value}{xs:List Int}(r:Is h v xs)(hm:MLe h h':=by exact mle):Is h' v xs:=r.mono hm
end Bk
namespace Go.Proofs.YtpkaegemlpaenaaGreat
open Bk Go Tryz
set_option maxRecDepth 10000
set_option maxHeartbeats 1000000
attribute [local irreducible] GL GC GQ W OpV
section
variable{w0:World}{h0:Mem}(hs:MLe h0 (mem w0))
include hs
theorem zWL{k l:Nat}{va:Value}{a:Tq}(ra:(tPt k).Is h0 va a){vb:Value}{b:Tq}(rb:(tPt l).Is h0 vb b)(hcd0:k+l<=1000000000):
 Calls Tryz.prog 14 #[va,vb] w0 (Ret w0 h0 (λh r=>(tPt (k+3*l+3)).Is h r (T3.mk (a.x+b.x) (a.y+b.y) (a.z+b.z)))):=by
 refine cb2 20 va vb func14 hs ?_;refine go2 ?_;refine nB ra λb2 bm ar=>(nB rb λb3 bl ac=>(nA (ρ:=(tPt (k+3*l+3))) (X:=zT) yN (xN (yH oM)) λb4 bk bb=>(go9 ?_)));refine fO (go4 ?_);refine gv (OpV.tr dC (yI (q:=3) I I)) I (go7 ?_);refine zK 9 _ [] [(0,.q),(1,.q),(2,.q),(3,.q),(4,.q),(5,.q),(6,.q),(7,.c),(8,.q),(9,.t)] zX nX zob nX (λr hr=>hr) (go3 ?_);refine wX I (xB yC (Pc.tx pH) ar) λba am=>(go2 ?_);refine wX I (xB yC (Pc.tx pH) ac) λax ai=>?_;refine w_c I (sC (ev2 I I) call45 (λw hs=>rW hs am ai oM) λZ h1 bj G=>?_)
 change (rpQ (k+l+1)).Is h1 Z (a.x+b.x) at G
 refine go1 ?_;have ap:=(Le.t (Le.q (l:=k+l+1) oM)).R ar;refine yJ (A:=[_,_]) I (uB sizeOf29 (Pc.tx pH) ap G) λbg M=>(go5 ?_);refine gv ((zQ (q:=1) I I oM oM).cv (show _=vI (1) from I)) I (go2 ?_);refine wG (go4 ?_);refine gv (OpV.tr dC (yI (q:=3) I I)) I (go7 ?_);refine zK 9 _ [] [(0,.q),(1,.q),(2,.q),(3,.q),(4,.q),(5,.q),(6,.q),(7,.c),(8,.q),(9,.t)] zX nX zob nX (λr hr=>hr) (go3 ?_);refine wX I (xB yC (Pc.ty pH) M) λaz ak=>(go2 ?_);refine wX I (xB yC (Pc.ty pH) ac) λaw ah=>?_;refine w_c I (sC (ev2 I I) call45 (λw hs=>rW hs ak ah oM) λU h2 bi D=>?_)
 change (rpQ ((k+l+1)+l+1)).Is h2 U (a.y+b.y) at D
 replace D:=Rp.Is.le D (Le.q (l:=k+2*l+2) oM);refine go1 ?_;have ao:=(Le.t (Le.q (l:=k+2*l+2) oM)).R M;refine yJ (A:=[_,_]) I (uB sizeOf29 (Pc.ty pH) ao D) λbf J=>(go5 ?_);refine gv ((zQ (q:=1) I I oM oM).cv (show _=vI (2) from I)) I (go2 ?_);refine wG (go4 ?_);refine gv (OpV.tr dC (yI (q:=3) I I)) I (go7 ?_);refine zK 9 _ [] [(0,.q),(1,.q),(2,.q),(3,.q),(4,.q),(5,.q),(6,.q),(7,.c),(8,.q),(9,.t)] zX nX zob nX (λr hr=>hr) (go3 ?_);refine wX I (xB yC (Pc.tz pH) J) λay aj=>(go2 ?_);refine wX I (xB yC (Pc.tz pH) ac) λav ae=>?_;refine w_c I (sC (ev2 I I) call45 (λw hs=>rW hs aj ae oM) λO h3 bh C=>?_)
 change (rpQ ((k+2*l+2)+l+1)).Is h3 O (a.z+b.z) at C
 replace C:=Rp.Is.le C (Le.q (l:=k+3*l+3) oM);refine go1 ?_;have an:=(Le.t (Le.q (l:=k+3*l+3) oM)).R J;refine yJ (A:=[_,_]) I (uB sizeOf29 (Pc.tz pH) an C) λbe aq=>(go5 ?_);refine gv ((zQ (q:=1) I I oM oM).cv (show _=vI (3) from I)) I (go2 ?_);refine wG (go4 ?_);refine gv (OpV.fa dC (yI (q:=3) I I)) I (uE ?_);refine lX (xB zH pH aq) λau ad=>(yB (A:=[]) (uB sizeOf31 pH bb ad) λbc ab=>(go3 ?_));refine wT (kE (t:=4) zH mh0 I ab) ?_;intro bd H aa;refine yW (λE S=>zW I H E S) ?_;exact aa
theorem zL0{k l:Nat}{va:Value}{a:Tq}(ra:(tPt k).Is h0 va a){vb:Value}{b:Tq}(rb:(tPt l).Is h0 vb b)(hcd0:k+l<=1000000000):
 Calls Tryz.prog 22 #[va,vb] w0 (Ret w0 h0 (λh r=>(tPt (k+3*l+3)).Is h r (T3.mk (a.x-b.x) (a.y-b.y) (a.z-b.z)))):=by
 refine cb2 20 va vb func22 hs ?_;refine go2 ?_;refine nB ra λb2 bm ar=>(nB rb λb3 bl ai=>(nA (ρ:=(tPt (k+3*l+3))) (X:=zT) yN (xN (yH oM)) λb4 bk bb=>(go9 ?_)));refine fO (go4 ?_);refine gv (OpV.tr dC (yI (q:=3) I I)) I (go7 ?_);refine zK 9 _ [] [(0,.q),(1,.q),(2,.q),(3,.q),(4,.q),(5,.q),(6,.q),(7,.c),(8,.q),(9,.t)] zX nX zob nX (λr hr=>hr) (go3 ?_);refine wX I (xB yC (Pc.tx pH) ar) λba aq=>(go2 ?_);refine wX I (xB yC (Pc.tx pH) ai) λax an=>?_;refine w_c I (sC (ev2 I I) call55 (λw hs=>gP hs aq an oM) λZ h1 bj J=>?_)
 change (rpQ (k+l+1)).Is h1 Z (a.x-b.x) at J
 refine go1 ?_;have ac:=(Le.t (Le.q (l:=k+l+1) oM)).R ar;refine yJ (A:=[_,_]) I (uB sizeOf29 (Pc.tx pH) ac J) λbf H=>(go5 ?_);refine gv ((zQ (q:=1) I I oM oM).cv (show _=vI (1) from I)) I (go2 ?_);refine wG (go4 ?_);refine gv (OpV.tr dC (yI (q:=3) I I)) I (go7 ?_);refine zK 9 _ [] [(0,.q),(1,.q),(2,.q),(3,.q),(4,.q),(5,.q),(6,.q),(7,.c),(8,.q),(9,.t)] zX nX zob nX (λr hr=>hr) (go3 ?_);refine wX I (xB yC (Pc.ty pH) H) λaz ap=>(go2 ?_);refine wX I (xB yC (Pc.ty pH) ai) λaw am=>?_;refine w_c I (sC (ev2 I I) call55 (λw hs=>gP hs ap am oM) λU h2 bi D=>?_)
 change (rpQ ((k+l+1)+l+1)).Is h2 U (a.y-b.y) at D
 replace D:=Rp.Is.le D (Le.q (l:=k+2*l+2) oM);refine go1 ?_;have ab:=(Le.t (Le.q (l:=k+2*l+2) oM)).R H;refine yJ (A:=[_,_]) I (uB sizeOf29 (Pc.ty pH) ab D) λbe G=>(go5 ?_);refine gv ((zQ (q:=1) I I oM oM).cv (show _=vI (2) from I)) I (go2 ?_);refine wG (go4 ?_);refine gv (OpV.tr dC (yI (q:=3) I I)) I (go7 ?_);refine zK 9 _ [] [(0,.q),(1,.q),(2,.q),(3,.q),(4,.q),(5,.q),(6,.q),(7,.c),(8,.q),(9,.t)] zX nX zob nX (λr hr=>hr) (go3 ?_);refine wX I (xB yC (Pc.tz pH) G) λay ao=>(go2 ?_);refine wX I (xB yC (Pc.tz pH) ai) λav ak=>?_;refine w_c I (sC (ev2 I I) call55 (λw hs=>gP hs ao ak oM) λO h3 bh C=>?_)
 change (rpQ ((k+2*l+2)+l+1)).Is h3 O (a.z-b.z) at C
 replace C:=Rp.Is.le C (Le.q (l:=k+3*l+3) oM);refine go1 ?_;have aa:=(Le.t (Le.q (l:=k+3*l+3) oM)).R G;refine yJ (A:=[_,_]) I (uB sizeOf29 (Pc.tz pH) aa C) λbd ah=>(go5 ?_);refine gv ((zQ (q:=1) I I oM oM).cv (show _=vI (3) from I)) I (go2 ?_);refine wG (go4 ?_);refine gv (OpV.fa dC (yI (q:=3) I I)) I (uE ?_);refine lX (xB zH pH ah) λau aj=>(yB (A:=[]) (uB sizeOf31 pH bb aj) λbc ae=>(go3 ?_));refine wT (kE (t:=4) zH mh0 I ae) ?_;intro bg M ad;refine yW (λE S=>zW I M E S) ?_;exact ad
theorem zFM{l k:Nat}{vq:Value}{q:Rat}(rq:(rpQ l).Is h0 vq q){va:Value}{a:Tq}(ra:(tPt k).Is h0 va a)(hcd0:k+l<=1000000000):
 Calls Tryz.prog 20 #[vq,va] w0 (Ret w0 h0 (λh r=>(tPt (k+3*l+1)).Is h r (T3.mk (q*a.x) (q*a.y) (q*a.z)))):=by
 refine cb2 18 vq va func20 hs ?_;refine go2 ?_;refine nB rq λb2 bm ao=>(nB ra λb3 bl ar=>(nA (ρ:=(tPt (k+3*l+1))) (X:=zT) yN (xN (yH oM)) λb4 bk bb=>(go9 ?_)));refine fO (go4 ?_);refine gv (OpV.tr dC (yI (q:=3) I I)) I (go7 ?_);refine zK 7 _ [] [(0,.q),(1,.q),(2,.q),(3,.q),(4,.q),(5,.c),(6,.q),(7,.t)] zX nX zob nX (λr hr=>hr) (go1 ?_);refine wX I (xB yC pH ao) λba aq=>(go2 ?_);refine wX I (xB yC (Pc.tx pH) ar) λaz ap=>?_;refine w_c I (sC (ev2 I I) call53 (λw hs=>qS hs aq ap oM) λae h1 bj G=>?_)
 change (rpQ (l+k)).Is h1 ae (q*a.x) at G
 replace G:=Rp.Is.le G (Le.q (l:=k+l) oM);refine go1 ?_;have aj:=(Le.t (Le.q (l:=k+l) oM)).R ar;refine yJ (A:=[_]) I (uB sizeOf29 (Pc.tx pH) aj G) λbf J=>(go5 ?_);refine gv ((zQ (q:=1) I I oM oM).cv (show _=vI (1) from I)) I (go2 ?_);refine wG (go4 ?_);refine gv (OpV.tr dC (yI (q:=3) I I)) I (go7 ?_);refine zK 7 _ [] [(0,.q),(1,.q),(2,.q),(3,.q),(4,.q),(5,.c),(6,.q),(7,.t)] zX nX zob nX (λr hr=>hr) (go1 ?_);refine wX I (xB yC pH ao) λay ac=>(go2 ?_);refine wX I (xB yC (Pc.ty pH) J) λaw aa=>?_;refine w_c I (sC (ev2 I I) call53 (λw hs=>qS hs ac aa oM) λO h2 bi D=>?_)
 change (rpQ (l+(k+l))).Is h2 O (q*a.y) at D
 replace D:=Rp.Is.le D (Le.q (l:=k+2*l) oM);refine go1 ?_;have ai:=(Le.t (Le.q (l:=k+2*l) oM)).R J;refine yJ (A:=[_]) I (uB sizeOf29 (Pc.ty pH) ai D) λbe H=>(go5 ?_);refine gv ((zQ (q:=1) I I oM oM).cv (show _=vI (2) from I)) I (go2 ?_);refine wG (go4 ?_);refine gv (OpV.tr dC (yI (q:=3) I I)) I (go7 ?_);refine zK 7 _ [] [(0,.q),(1,.q),(2,.q),(3,.q),(4,.q),(5,.c),(6,.q),(7,.t)] zX nX zob nX (λr hr=>hr) (go1 ?_);refine wX I (xB yC pH ao) λax ab=>(go2 ?_);refine wX I (xB yC (Pc.tz pH) H) λav Z=>?_;refine w_c I (sC (ev2 I I) call53 (λw hs=>qS hs ab Z oM) λM h3 bh C=>?_)
 change (rpQ (l+(k+2*l))).Is h3 M (q*a.z) at C
 replace C:=Rp.Is.le C (Le.q (l:=k+3*l) oM);refine go1 ?_;have ah:=(Le.t (Le.q (l:=k+3*l) oM)).R H;refine yJ (A:=[_]) I (uB sizeOf29 (Pc.tz pH) ah C) λbd an=>(go5 ?_);refine gv ((zQ (q:=1) I I oM oM).cv (show _=vI (3) from I)) I (go2 ?_);refine wG (go4 ?_);refine gv (OpV.fa dC (yI (q:=3) I I)) I (uE ?_);refine lX (xB zH pH an) λau U=>(yB (A:=[]) (uB sizeOf31 pH bb (U.le (Le.t (Le.q (l:=k+3*l+1) oM)))) λbc am=>(go3 ?_));refine wT (kE (t:=4) zH mh0 I am) ?_;intro bg ad ak;refine yW (λE S=>zW I ad E S) ?_;exact ak
theorem gQ{x:Int}(hx1:-9223372036854775808<=x)(hx2:x<9223372036854775808){y:Int}(hy1:-9223372036854775808<=y)(hy2:y<9223372036854775808){z:Int}(hz1:-9223372036854775808<=z)(hz2:z<9223372036854775808):
 Calls Tryz.prog 12 #[vI x,vI y,vI z] w0 (Ret w0 h0 (λh r=>(tPt 2).Is h r (T3.mk ((x:Int):Rat) ((y:Int):Rat) ((z:Int):Rat)))):=by
 refine cb3 14 (vI x) (vI y) (vI z) func12 hs ?_;refine go2 ?_;refine nA (ρ:=(tPt 1)) (X:=zT) yN (xN (yH dC)) λb6 aj J=>(go5 ?_);refine cL (ev1 I) call27 (λw hs=>qT hs oM oM) λv8 h1 ai r8=>(go1 ?_);refine cL (ev1 I) call27 (λw hs=>qT hs oM oM) λad h2 ah U=>(go1 ?_);refine cL (ev1 I) call27 (λw hs=>qT hs oM oM) λac h3 ae O=>(lX (xV (ρ:=(tPt 2)) (wD (ps':=[(0,_),(1,_),(2,_)]) underlying31 yN I I sizeOf29 e6z I (xN (yH dC)) (zD I (Pc.tx (Pc.here _)) r8.up (zD I (Pc.ty (Pc.here _)) U.up (zD I (Pc.tz (Pc.here _)) O zO))))) λab M=>?_);have D:=(Le.t (Le.q (l:=2) dC)).R J;refine yB (A:=[]) (uB sizeOf31 pH D M) λZ H=>(go3 ?_);refine wT (kE (t:=6) zH mh0 I H) ?_;intro aa C G;refine yW (λE S=>zW I C E S) ?_;exact G
end
end Go.Proofs.YtpkaegemlpaenaaGreat
namespace Bk
open Go Go.RowKit
open Classical
abbrev Pl:=Pt×Rat
theorem fW{x:Rat}:yR x=1↔0<x:=by
 have h2:=yV x;rw[<-iX];omega
theorem gG{x:Rat}:yR x= -1↔x<0:=by
 have h2:=yV x;rw[<-jK];omega
theorem tR{a b:Pt}:a=b↔a.x=b.x/\a.y=b.y/\a.z=b.z:=by cases a;cases b;exact T3.mk.injEq ..▸Iff.rfl
noncomputable def axI(n:Pt):Nat:=if 0<n.z then 0 else if n.z<0 then 1 else if 0<n.y then 2 else if n.y<0 then 0 else if 0<n.x then 1 else if n.x<0 then 2 else 1
noncomputable def axJ(n:Pt):Nat:=if 0<n.z then 1 else if n.z<0 then 0 else if 0<n.y then 0 else if n.y<0 then 2 else if 0<n.x then 2 else if n.x<0 then 1 else 2
noncomputable def axK(n:Pt):Nat:=if n.z≠0 then 2 else if n.y≠0 then 1 else 0
theorem zBW(n:Pt):(0<n.z/\axI n=0/\axJ n=1/\axK n=2)\/(n.z<0/\axI n=1/\axJ n=0/\axK n=2)\/(n.z=0/\0<n.y/\axI n=2/\axJ n=0/\axK n=1)\/(n.z=0/\n.y<0/\axI n=0/\axJ n=2/\axK n=1)\/
 (n.z=0/\n.y=0/\0<n.x/\axI n=1/\axJ n=2/\axK n=0)\/(n.z=0/\n.y=0/\n.x<0/\axI n=2/\axJ n=1/\axK n=0)\/(n.z=0/\n.y=0/\n.x=0/\axI n=1/\axJ n=2/\axK n=0):=by
 have C:∀a:Rat,0<a\/(a<0/\¬0<a)\/(a=0/\¬0<a/\¬a<0):=λa=>by grind
 unfold axI axJ axK
 rcases C n.z with h|⟨h,h'⟩|⟨h,h',h''⟩
 · left;simp only[if_pos h,if_pos (show n.z≠0 by grind)];exact⟨h,trivial,trivial,trivial⟩
 · right;left;simp only[if_neg h',if_pos h,if_pos (show n.z≠0 by grind)];exact⟨h,trivial,trivial,trivial⟩
 · simp only[if_neg h',if_neg h'',if_neg (show ¬n.z≠0 by grind)]
   rcases C n.y with k|⟨k,k'⟩|⟨k,k',k''⟩
   · right;right;left;simp only[if_pos k,if_pos (show n.y≠0 by grind)];exact⟨h,k,trivial,trivial,trivial⟩
   · right;right;right;left;simp only[if_neg k',if_pos k,if_pos (show n.y≠0 by grind)];exact⟨h,k,trivial,trivial,trivial⟩
   · simp only[if_neg k',if_neg k'',if_neg (show ¬n.y≠0 by grind)]
     rcases C n.x with l|⟨l,l'⟩|⟨l,l',l''⟩
     · right;right;right;right;left;simp only[if_pos l];exact⟨h,k,l,trivial,trivial,trivial⟩
     · right;right;right;right;right;left;simp only[if_neg l',if_pos l];exact⟨h,k,l,trivial,trivial,trivial⟩
     · right;right;right;right;right;right;simp only[if_neg l',if_neg l''];exact⟨h,k,l,trivial,trivial,trivial⟩
theorem zC2(n:Pt):axI n+axJ n<=3/\axI n<3/\axJ n<3/\axK n=3-axI n-axJ n:=by
 rcases zBW n with h|h|h|h|h|h|h<;>omega
theorem zZC(n:Pt):axI n<3:=(zC2 n).2.1
theorem zZB(n:Pt):axJ n<3:=(zC2 n).2.2.1
theorem zRU(n:Pt):n.at (axK n)=0↔n=T3.mk (0:Rat) 0 0:=by
 obtain⟨x,y,z⟩:=n;rw[T3.mk.injEq]
 rcases zBW ⟨x,y,z⟩ with h|h|h|h|h|h|h<;>simp only at h<;>obtain⟨h,h1⟩:=h
 all_goals first|rw[h1.2.2]|rw[h1.2.2.2]|rw[h1.2.2.2.2]
 all_goals simp only[T3.at]
 all_goals grind
noncomputable def qC(pl:Pl)(p:Pt):Pt:=T3.mk (p.at (axI pl.1)) (p.at (axJ pl.1)) (0:Rat)
noncomputable def zXG(pl:Pl)(q:Pt):Rat:=if pl.1.at (axK pl.1)=0 then 0 else(pl.2-(pl.1.at (axI pl.1)*q.x+pl.1.at (axJ pl.1)*q.y))/pl.1.at (axK pl.1)
noncomputable def y8(pl:Pl)(q:Pt):Pt:=if pl.1.at (axK pl.1)=0 then T3.mk (0:Rat) 0 0 else(((T3.mk (0:Rat) 0 0).set (axI pl.1) q.x).set (axJ pl.1) q.y).set (axK pl.1) (zXG pl q)
def xE(a b:Pt):Rat:=a.x*b.x+a.y*b.y+a.z*b.z
def xH(a b:Pt):Pt:=T3.mk (a.y*b.z-a.z*b.y) (a.z*b.x-a.x*b.z) (a.x*b.y-a.y*b.x)
def wV(a b:Pt):Pt:=T3.mk (a.x-b.x) (a.y-b.y) (a.z-b.z)
theorem yDN(a b c:Pt):uQ [a,b,c] 0 1 3=(b.x-a.x)*(c.y-a.y)-(b.y-a.y)*(c.x-a.x):=by
 simp[uQ,gp,T3.at];grind
theorem zHO{ni nj nk d ai aj ak bi bj bk ci cj ck:Rat}(ha:nk*ak=d-(ni*ai+nj*aj))(hb:nk*bk=d-(ni*bi+nj*bj))(hc:nk*ck=d-(ni*ci+nj*cj)):
 nk*(((bj-aj)*(ck-ak)-(bk-ak)*(cj-aj))*ni+((bk-ak)*(ci-ai)-(bi-ai)*(ck-ak))*nj+((bi-ai)*(cj-aj)-(bj-aj)*(ci-ai))*nk)=(ni*ni+nj*nj+nk*nk)*((bi-ai)*(cj-aj)-(bj-aj)*(ci-ai)):=by
 grind
theorem zK5(a:Rat):xT a 0=yR a:=by rw[zGR,show a-0=a by grind]
theorem eU{c:Rat}(hc:0<c)(x:Rat):yR (c*x)=yR x:=by
 have h:=zYN x 0 c;rw[Rat.zero_mul,zK5,zK5,fW.2 hc,Int.mul_one,Rat.mul_comm] at h;exact h
theorem zHU{c e x y:Rat}(hc:0<c)(he:0<e)(h:c*x=e*y):yR x=yR y:=by
 rw[<-eU hc x,<-eU he y,h]
theorem zUR{i j k:Rat}(hk:k≠0):0<i*i+j*j+k*k:=by
 have h1:0<=i*i:=by rcases @Rat.le_total 0 i with h|h;exact Rat.mul_nonneg h h;have:=Rat.mul_nonneg (a:=-i) (b:=-i) zoi zoi;grind
 have h2:0<=j*j:=by rcases @Rat.le_total 0 j with h|h;exact Rat.mul_nonneg h h;have:=Rat.mul_nonneg (a:=-j) (b:=-j) zoi zoi;grind
 have h3:0<k*k:=by
  rcases @Rat.le_total 0 k with h|h
  · exact Rat.mul_pos zoi zoi
  · have:=Rat.mul_pos (a:=-k) (b:=-k) zoi zoi;grind
 grind
theorem zEA{n d m q:Rat}(h:¬n=0):n*((d-m)/n)=d-m:=by
 rw[Rat.mul_comm,Rat.div_mul_cancel h]
theorem zEJ{ni nj nk d ai aj ak bi bj bk ci cj ck:Rat}(hk:0<nk)(ha:nk*ak=d-(ni*ai+nj*aj))(hb:nk*bk=d-(ni*bi+nj*bj))(hc:nk*ck=d-(ni*ci+nj*cj)){X:Rat}
    (hX:X=((bj-aj)*(ck-ak)-(bk-ak)*(cj-aj))*ni+((bk-ak)*(ci-ai)-(bi-ai)*(ck-ak))*nj+((bi-ai)*(cj-aj)-(bj-aj)*(ci-ai))*nk):
    yR ((bi-ai)*(cj-aj)-(bj-aj)*(ci-ai))=yR X:=by
 rw[hX];exact(zHU hk (zUR zoi) (zHO ha hb hc)).symm
theorem zEK{ni nj nk d ai aj ak bi bj bk ci cj ck:Rat}(hk:nk<0)(ha:nk*ak=d-(ni*ai+nj*aj))(hb:nk*bk=d-(ni*bi+nj*bj))(hc:nk*ck=d-(ni*ci+nj*cj)){X:Rat}
    (hX:X= -(((bj-aj)*(ck-ak)-(bk-ak)*(cj-aj))*ni+((bk-ak)*(ci-ai)-(bi-ai)*(ck-ak))*nj+((bi-ai)*(cj-aj)-(bj-aj)*(ci-ai))*nk)):
    yR ((bi-ai)*(cj-aj)-(bj-aj)*(ci-ai))=yR X:=by
 refine(zHU (c:=-nk) zoi (zUR (i:=ni) (j:=nj) (k:=nk) zoi) ?_).symm;rw[hX,<-zHO ha hb hc];grind
theorem zUE(pl:Pl)(p q r:Pt)(h:¬pl.1.at (axK pl.1)=0):
 yR (uQ [qC pl (y8 pl p),qC pl (y8 pl q),qC pl (y8 pl r)] 0 1 3)=yR (xE (xH (wV (y8 pl q) (y8 pl p)) (wV (y8 pl r) (y8 pl p))) pl.1):=by
 rw[yDN];have O:=zEA (d:=pl.2) (m:=pl.1.at (axI pl.1)*p.x+pl.1.at (axJ pl.1)*p.y) (q:=0) h;have M:=zEA (d:=pl.2) (m:=pl.1.at (axI pl.1)*q.x+pl.1.at (axJ pl.1)*q.y) (q:=0) h;have J:=zEA (d:=pl.2) (m:=pl.1.at (axI pl.1)*r.x+pl.1.at (axJ pl.1)*r.y) (q:=0) h;unfold y8 zXG qC;rw[if_neg h,if_neg h,if_neg h,if_neg h,if_neg h,if_neg h];generalize (pl.2-(pl.1.at (axI pl.1)*p.x+pl.1.at (axJ pl.1)*p.y))/pl.1.at (axK pl.1)=u at *;generalize (pl.2-(pl.1.at (axI pl.1)*q.x+pl.1.at (axJ pl.1)*q.y))/pl.1.at (axK pl.1)=v at *;generalize (pl.2-(pl.1.at (axI pl.1)*r.x+pl.1.at (axJ pl.1)*r.y))/pl.1.at (axK pl.1)=w at *;obtain⟨⟨x,y,z⟩,d⟩:=pl;obtain⟨p1,p2,p3⟩:=p;obtain⟨q1,Z,U⟩:=q;obtain⟨r1,r2,r3⟩:=r
 rcases zBW ⟨x,y,z⟩ with e|e|e|e|e|e|e
 · obtain⟨H,G,D,C⟩:=e
   simp only[G,D,C,T3.at,T3.set,xE,xH,wV] at *;exact zEJ H O M J zoi
 · obtain⟨H,G,D,C⟩:=e
   simp only[G,D,C,T3.at,T3.set,xE,xH,wV] at *;exact zEK H O M J zoi
 · obtain⟨h1,H,G,D,C⟩:=e
   simp only[G,D,C,T3.at,T3.set,xE,xH,wV] at *;exact zEJ H O M J zoi
 · obtain⟨h1,H,G,D,C⟩:=e
   simp only[G,D,C,T3.at,T3.set,xE,xH,wV] at *;exact zEK H O M J zoi
 · obtain⟨h1,h2,H,G,D,C⟩:=e
   simp only[G,D,C,T3.at,T3.set,xE,xH,wV] at *;exact zEJ H O M J zoi
 · obtain⟨h1,h2,H,G,D,C⟩:=e
   simp only[G,D,C,T3.at,T3.set,xE,xH,wV] at *;exact zEK H O M J zoi
 · obtain⟨h1,h2,h3,G,D,C⟩:=e
   rw[C] at h;exact absurd h3 h
theorem zRV(n:Pt):(axI n=0/\axJ n=1/\axK n=2)\/(axI n=1/\axJ n=0/\axK n=2)\/(axI n=2/\axJ n=0/\axK n=1)\/(axI n=0/\axJ n=2/\axK n=1)\/(axI n=1/\axJ n=2/\axK n=0)\/(axI n=2/\axJ n=1/\axK n=0):=by
 rcases zBW n with h|h|h|h|h|h|h<;>omega
theorem zCM{s:Pl}{p:Pt}(h:¬s.1.at (axK s.1)=0)(hs:yR (xE s.1 p-s.2)=0):y8 s (qC s p)=p:=by
 rw[uP] at hs;have C:=zEA (d:=s.2) (m:=s.1.at (axI s.1)*p.at (axI s.1)+s.1.at (axJ s.1)*p.at (axJ s.1)) (q:=0) h;unfold y8 zXG qC;rw[if_neg h,if_neg h];simp only;generalize (s.2-(s.1.at (axI s.1)*p.at (axI s.1)+s.1.at (axJ s.1)*p.at (axJ s.1)))/s.1.at (axK s.1)=u at *;obtain⟨⟨x,y,z⟩,d⟩:=s;obtain⟨a,b,c⟩:=p;have hz:∀{n u v:Rat},¬n=0->n*u=n*v->u=v:=λ{n u v} h e=>by
  have h1:n*(u-v)=0:=by grind
  rcases Rat.mul_eq_zero.1 h1 with h2|h2
  · exact absurd h2 h
  · grind
 rcases zRV ⟨x,y,z⟩ with⟨e1,e2,e3⟩|⟨e1,e2,e3⟩|⟨e1,e2,e3⟩|⟨e1,e2,e3⟩|⟨e1,e2,e3⟩|⟨e1,e2,e3⟩<;>simp only[e1,e2,e3,T3.at,T3.set,xE] at *<;>rw[T3.mk.injEq]<;>simp only[true_and,and_true]<;>exact hz h zoi
end Bk
namespace Bk
open Classical
def i3(x y z:Int):Pt:=T3.mk ((x:Int):Rat) ((y:Int):Rat) ((z:Int):Rat)
abbrev bdI(z:Int)(n:Nat):Prop:=z.natAbs<=n
def smN(e:Pl):Prop:=∃a b c d:Int,(bdI a 2/\bdI b 2/\bdI c 2/\bdI d 30)/\e=(i3 a b c,(d:Rat)/2)
def y9(q:Rat)(n:Nat):Prop:=∃z:Int,bdI z n/\q=(z:Rat)/2
def spP(p:Pt):Prop:=y9 p.x 9/\y9 p.y 9/\y9 p.z 9
theorem zBI{z:Int}{n m:Nat}(h:bdI z n)(hm:2*n<=m):y9 ((z:Int):Rat) m:=by
 refine⟨2*z,by unfold bdI at *;omega,?_⟩;rw[Rat.intCast_mul];have C:((2:Int):Rat)=2:=I;rw[C];grind
theorem zMV{z:Int}{n:Nat}(h:bdI z n):y9 (jW z 2) n:=⟨z,h,rfl⟩
theorem iV{p:Pt}{i:Nat}{q:Rat}(hi:i<3)(h:∀u,u<i->y9 (p.at u) 9)(hq:y9 q 9):∀u,u<i+1->y9 ((p.set i q).at u) 9:=by
 intro u D
 by_cases e:u=i
 · subst e
   match u,hi with
   |0,_=>exact hq
   |1,_=>exact hq
   |2,_=>exact hq
 · have h1:u<i:=by omega
   have h2:=h u h1;have C:(i=1/\u=0)\/(i=2/\u=0)\/(i=2/\u=1):=by omega
   rcases C with⟨rfl,rfl⟩|⟨rfl,rfl⟩|⟨rfl,rfl⟩<;>exact h2
theorem yIX{p:Pt}(h:∀u,u<3->y9 (p.at u) 9):spP p:=⟨h 0 zod,h 1 zod,h 2 zod⟩
abbrev rows7:List (T3 Int):=[T3.mk 1 0 0,T3.mk 0 1 0,T3.mk 0 0 1,T3.mk 1 1 0,T3.mk (-1) 0 0,T3.mk 1 (-1) 2,T3.mk 0 2 1]
end Bk
namespace Go.Proofs.YtpkaegemlpaenaaGreat
open Bk Go Tryz
set_option maxRecDepth 10000
set_option maxHeartbeats 1000000
attribute [local irreducible] GL GC GQ W OpV
section
variable{w0:World}{h0:Mem}(hs:MLe h0 (mem w0))
include hs
theorem zS9{k:Nat}{vn:Value}{n:Tq}(rn:(tPt k).Is h0 vn n)(hcd0:k<=1000000000):
 Calls Tryz.prog 106 #[vn] w0 (Ret w0 h0 (λh r=>r=.tuple #[vI (↑(axI n):Int),vI (↑(axJ n):Int)])):=by
 refine cb1 29 vn func106 hs ?_;refine go2 ?_;refine nB rn λb1 ar U=>(qA ?_);refine fO (go4 ?_);refine gv (OpV.tr dC (rG (q:=0) I I)) I (uE ?_);refine gv ((zQ (q:=1) I I oM oM).cv (show _=vI (3) from I)) I (gv ((wA (q:=3) I I oM oM).cv (show _=vI (0) from I)) I (go1 ?_));refine gv ((zQ (q:=2) I I oM oM).cv (show _=vI (4) from I)) I (gv ((wA (q:=3) I I oM oM).cv (show _=vI (1) from I)) I (go8 ?_));refine lX (xB yC (Pc.tz pH) U) λan ae=>(cL (ev1 I) call122 (λw hs=>rX hs ae oM) λO h1 aq ab=>?_);obtain rfl:O=vI (yR n.z):=ab;have aj:=yV n.z;refine gc9 (λD=>?_) λD=>?_
 ·
  refine sZ ?_;refine wH I I I ?_;have H:axI n=0:=by unfold axI;simp only[fW,gG] at *;grind
  have G:axJ n=1:=by unfold axJ;simp only[fW,gG] at *;grind
  rw[H,G];rfl
 refine gc6 (λC=>?_) λC=>?_
 ·
  refine sZ ?_;refine wH I I I ?_;have H:axI n=1:=by unfold axI;simp only[fW,gG] at *;grind
  have G:axJ n=0:=by unfold axJ;simp only[fW,gG] at *;grind
  rw[H,G];rfl
 refine go6 ?_;refine gv ((qX (q:=1) I I oM oM).cv (show _=vI (1) from I)) I (go2 ?_);refine wG (go4 ?_);refine gv (OpV.tr dC (rG (q:=0) I I)) I (uE ?_);refine gv ((zQ (q:=1) I I oM oM).cv (show _=vI (2) from I)) I (gv ((wA (q:=3) I I oM oM).cv (show _=vI (2) from I)) I (go1 ?_));refine gv ((zQ (q:=2) I I oM oM).cv (show _=vI (3) from I)) I (gv ((wA (q:=3) I I oM oM).cv (show _=vI (0) from I)) I (go8 ?_));refine lX (xB yC (Pc.ty pH) U) λam ad=>(cL (ev1 I) call122 (λw hs=>rX hs ad oM) λM h2 ap aa=>?_);obtain rfl:M=vI (yR n.y):=aa;have ai:=yV n.y;refine gc9 (λD=>?_) λD=>?_
 ·
  refine sZ ?_;refine wH I I I ?_;have H:axI n=2:=by unfold axI;simp only[fW,gG] at *;grind
  have G:axJ n=0:=by unfold axJ;simp only[fW,gG] at *;grind
  rw[H,G];rfl
 refine gc6 (λC=>?_) λC=>?_
 ·
  refine sZ ?_;refine wH I I I ?_;have H:axI n=0:=by unfold axI;simp only[fW,gG] at *;grind
  have G:axJ n=2:=by unfold axJ;simp only[fW,gG] at *;grind
  rw[H,G];rfl
 refine go6 ?_;refine gv ((qX (q:=1) I I oM oM).cv (show _=vI (0) from I)) I (go2 ?_);refine wG (go4 ?_);refine gv (OpV.tr dC (rG (q:=0) I I)) I (uE ?_);refine gv ((zQ (q:=1) I I oM oM).cv (show _=vI (1) from I)) I (gv ((wA (q:=3) I I oM oM).cv (show _=vI (1) from I)) I (go1 ?_));refine gv ((zQ (q:=2) I I oM oM).cv (show _=vI (2) from I)) I (gv ((wA (q:=3) I I oM oM).cv (show _=vI (2) from I)) I (go8 ?_));refine lX (xB yC (Pc.tx pH) U) λak ac=>(cL (ev1 I) call122 (λw hs=>rX hs ac oM) λJ h3 ao Z=>?_);obtain rfl:J=vI (yR n.x):=Z;have ah:=yV n.x;refine gc9 (λD=>?_) λD=>?_
 ·
  refine sZ ?_;refine wH I I I ?_;have H:axI n=1:=by unfold axI;simp only[fW,gG] at *;grind
  have G:axJ n=2:=by unfold axJ;simp only[fW,gG] at *;grind
  rw[H,G];rfl
 refine gc6 (λC=>?_) λC=>?_
 ·
  refine sZ ?_;refine wH I I I ?_;have H:axI n=2:=by unfold axI;simp only[fW,gG] at *;grind
  have G:axJ n=1:=by unfold axJ;simp only[fW,gG] at *;grind
  rw[H,G];rfl
 refine go6 ?_;refine gv ((qX (q:=1) I I oM oM).cv (show _=vI (-1) from I)) I (go2 ?_);refine wG (go4 ?_);refine gv (OpV.fa dC (rG (q:=0) I I)) I (sZ ?_);refine wH I I I ?_;have H:axI n=1:=by unfold axI;simp only[fW,gG] at *;grind
 have G:axJ n=2:=by unfold axJ;simp only[fW,gG] at *;grind
 rw[H,G];rfl
theorem dG{k l:Nat}{va:Value}{a:Tq}(ra:(tPt k).Is h0 va a){vb:Value}{b:Tq}(rb:(tPt l).Is h0 vb b)(hcd0:k+l<=1000000000):
 Calls Tryz.prog 35 #[va,vb] w0 (Ret w0 h0 (λ_ r=>r=vB (a=b))):=by
 refine cb2 24 va vb func35 hs ?_;refine go2 ?_;refine nB ra λb2 aa H=>(nB rb λb3 Z G=>(go6 ?_));refine lX (xB yC (Pc.tx pH) H) λv6 r6=>(go1 ?_);refine lX (xB yC (Pc.tx pH) G) λv8 r8=>(cL (ev2 I I) call73 (λw hs=>tY hs r6 r8 oM) λv9 h1 ar r9=>?_);obtain rfl:v9=vB (a.x=b.x):=r9;refine qB (ι:=Mem) 7 (λJ=>MLe h1 J) (λ_=>[(16,vB ((a.x=b.x)/\(a.y=b.y))),(2,vP b2 0),(3,vP b3 0)]) (λ_=>[.var b3 31 Z,.var b2 31 aa]) (λJ=>J) ?_ ?_
 ·
  refine zY (a.x=b.x) (λD=>?_) (λD=>?_)
  ·
   refine gT D I (go3 ?_);refine lX (xB yC (Pc.ty pH) H) λaq am=>(go3 ?_);refine lX (xB yC (Pc.ty pH) G) λap ak=>(go1 ?_);refine cL (ev2 I I) call73 (λw hs=>tY hs am ak oM) λad h2 M aj=>?_;obtain rfl:ad=vB (a.y=b.y):=aj;refine go2 ?_;refine zR h2 M ⟨?_,I,I,trivial⟩ I I;exact congrArg some (xC D)
  refine gF D I (go7 ?_);refine zR h1 (MLe.refl _) ⟨?_,I,I,trivial⟩ I I;exact congrArg some (xD D)
 intro C U;refine tZ ?_;refine qB (ι:=Mem) 7 (λJ=>MLe C J) (λ_=>[(23,vB (((a.x=b.x)/\(a.y=b.y))/\(a.z=b.z)))]) (λ_=>[.var b3 31 Z,.var b2 31 aa]) (λJ=>J) ?_ ?_
 ·
  refine zY ((a.x=b.x)/\(a.y=b.y)) (λD=>?_) (λD=>?_)
  ·
   refine gT D I (go3 ?_);refine lX (xB yC (Pc.tz pH) H) λao ai=>(go3 ?_);refine lX (xB yC (Pc.tz pH) G) λan ah=>(go1 ?_);refine cL (ev2 I I) call73 (λw hs=>tY hs ai ah oM) λac h2 M ae=>?_;obtain rfl:ac=vB (a.z=b.z):=ae;refine go2 ?_;refine zR h2 M ⟨?_,trivial⟩ I I;exact congrArg some (xC D)
  refine gF D I (go7 ?_);refine zR C (MLe.refl _) ⟨?_,trivial⟩ I I;exact congrArg some (xD D)
 intro ab O;refine tZ ?_;refine go4 ?_;refine zC I I ?_
 first|exact kA (by rw[tR];grind)|exact(xK (by rw[tR];grind)).symm|exact(yG (by rw[tR];grind)).symm
theorem aP{k:Nat}{va:Value}{a:Tq}(ra:(tPt k).Is h0 va a)(hcd0:k<=1000000):
 Calls Tryz.prog 80 #[va] w0 (Ret w0 h0 (λ_ r=>r=vB (a=zT))):=by
 refine cb1 6 va func80 hs ?_;refine go2 ?_;refine nB ra λM J C=>(go5 ?_);refine lX (xB zH pH C) λv3 r3=>(lX (xV (ρ:=(tPt 1)) (wD (ps':=[]) underlying31 yN I I sizeOf29 trivial I (xN (yH dC)) zO)) λv4 r4=>(cL (ev2 I I) call35 (λw hs=>dG hs r3 r4 oM) λD h1 H G=>?_));obtain rfl:D=vB (a=zT):=G;refine go4 ?_;refine zC I I ?_
 rfl
theorem pX{k l:Nat}{va:Value}{a:Tq}(ra:(tPt k).Is h0 va a){vb:Value}{b:Tq}(rb:(tPt l).Is h0 vb b)(hcd0:k+l<=1000000000):
 Calls Tryz.prog 56 #[va,vb] w0 (Ret w0 h0 (λh r=>(rpQ (3*k+3*l+9)).Is h r (xE a b))):=by
 refine cb2 21 va vb func56 hs ?_;refine go2 ?_;refine nB ra λb2 ce am=>(nB rb λb3 cd ak=>(nA (ρ:=(rpQ (3*k+3*l+9))) (X:=(0:Rat)) xU (yH oM) λb4 cc bo=>(go4 ?_)));refine nA (ρ:=(rpQ 1)) (X:=(0:Rat)) xU (yH dC) λb5 cb bd=>(go9 ?_);refine fO (go4 ?_);refine gv (OpV.tr dC (yI (q:=3) I I)) I (go7 ?_);refine zK 9 _ [] [(0,.q),(1,.q),(2,.q),(3,.q),(4,.q),(5,.q),(6,.q),(7,.c),(8,.c),(9,.t)] zX nX zob nX (λr hr=>hr) (wX I (xB yC pH bd) λbn ay=>(go2 ?_));refine wX I (xB yC (Pc.tx pH) am) λbk av=>(go2 ?_);refine wX I (xB yC (Pc.tx pH) ak) λbh aq=>?_;refine w_c I (sC (ev2 I I) call53 (λw hs=>qS hs av aq oM) λah h1 ca M=>?_)
 change (rpQ (k+l)).Is h1 ah (a.x*b.x) at M
 refine w_c I (sC (ev2 I I) call45 (λw hs=>rW hs ay.up M oM) λac h2 bz G=>?_)
 change (rpQ (1+(k+l)+1)).Is h2 ac ((0:Rat)+(a.x*b.x)) at G
 replace G:=Rp.Is.le G (Le.q (l:=k+l+2) oM);have bb:=(Le.q (l:=k+l+2) oM).R bd;refine yJ (A:=[]) I (uB sizeOf29 pH bb G) λbt Z=>(go5 ?_);refine gv ((zQ (q:=1) I I oM oM).cv (show _=vI (1) from I)) I (go2 ?_);refine wG (go4 ?_);refine gv (OpV.tr dC (yI (q:=3) I I)) I (go7 ?_);refine zK 9 _ [] [(0,.q),(1,.q),(2,.q),(3,.q),(4,.q),(5,.q),(6,.q),(7,.c),(8,.c),(9,.t)] zX nX zob nX (λr hr=>hr) (wX I (xB yC pH Z) λbm ax=>(go2 ?_));refine wX I (xB yC (Pc.ty pH) am) λbj au=>(go2 ?_);refine wX I (xB yC (Pc.ty pH) ak) λbg ap=>?_;refine w_c I (sC (ev2 I I) call53 (λw hs=>qS hs au ap oM) λae h3 bx J=>?_)
 change (rpQ (k+l)).Is h3 ae (a.y*b.y) at J
 refine w_c I (sC (ev2 I I) call45 (λw hs=>rW hs ax.up J oM) λab h4 bw D=>?_)
 change (rpQ ((k+l+2)+(k+l)+1)).Is h4 ab (((0:Rat)+(a.x*b.x))+(a.y*b.y)) at D
 replace D:=Rp.Is.le D (Le.q (l:=2*k+2*l+3) oM);have ba:=(Le.q (l:=2*k+2*l+3) oM).R Z;refine yJ (A:=[]) I (uB sizeOf29 pH ba D) λbs U=>(go5 ?_);refine gv ((zQ (q:=1) I I oM oM).cv (show _=vI (2) from I)) I (go2 ?_);refine wG (go4 ?_);refine gv (OpV.tr dC (yI (q:=3) I I)) I (go7 ?_);refine zK 9 _ [] [(0,.q),(1,.q),(2,.q),(3,.q),(4,.q),(5,.q),(6,.q),(7,.c),(8,.c),(9,.t)] zX nX zob nX (λr hr=>hr) (wX I (xB yC pH U) λbl aw=>(go2 ?_));refine wX I (xB yC (Pc.tz pH) am) λbi ar=>(go2 ?_);refine wX I (xB yC (Pc.tz pH) ak) λbf ao=>?_;refine w_c I (sC (ev2 I I) call53 (λw hs=>qS hs ar ao oM) λad h5 bv H=>?_)
 change (rpQ (k+l)).Is h5 ad (a.z*b.z) at H
 refine w_c I (sC (ev2 I I) call45 (λw hs=>rW hs aw.up H oM) λaa h6 bu C=>?_)
 change (rpQ ((2*k+2*l+3)+(k+l)+1)).Is h6 aa ((((0:Rat)+(a.x*b.x))+(a.y*b.y))+(a.z*b.z)) at C
 replace C:=Rp.Is.le C (Le.q (l:=3*k+3*l+4) oM);have az:=(Le.q (l:=3*k+3*l+4) oM).R U;refine yJ (A:=[]) I (uB sizeOf29 pH az C) λbr bc=>(go5 ?_);refine gv ((zQ (q:=1) I I oM oM).cv (show _=vI (3) from I)) I (go2 ?_);refine wG (go4 ?_);refine gv (OpV.fa dC (yI (q:=3) I I)) I (uE ?_);refine lX (xB yC pH bc) λbe an=>(yB (A:=[_]) (uB sizeOf29 pH bo (an.le (Le.q (l:=3*k+3*l+9) oM))) λbp aj=>(go3 ?_));refine wT (kE (t:=4) yC mh1 I aj) ?_;intro bq O ai;refine yW (λE S=>zW I O E S) ?_;exact(Rp.Is.cast ai (by unfold xE;grind))
theorem oE{k l:Nat}{va:Value}{a:Tq}(ra:(tPt k).Is h0 va a){vb:Value}{b:Tq}(rb:(tPt l).Is h0 vb b)(hcd0:k+l<=1000000000):
 Calls Tryz.prog 102 #[va,vb] w0 (Ret w0 h0 (λh r=>(tPt (2*k+2*l+3)).Is h r (xH a b))):=by
 refine cb2 37 va vb func102 hs ?_;refine go2 ?_;refine nB ra λb2 cq Z=>(nB rb λb3 cp U=>(nA (ρ:=(tPt (2*k+2*l+3))) (X:=zT) yN (xN (yH oM)) λb4 co bx=>(go4 ?_)));refine nA (ρ:=(tPt (2*k+2*l+3))) (X:=zT) yN (xN (yH oM)) λb5 cn bw=>(go9 ?_);refine fO (go4 ?_);refine gv (OpV.tr dC (yI (q:=3) I I)) I (uE ?_);refine gv ((zQ (q:=1) I I oM oM).cv (show _=vI (1) from I)) I (gv ((wA (q:=3) I I oM oM).cv (show _=vI (1) from I)) I (go1 ?_));refine gv ((zQ (q:=2) I I oM oM).cv (show _=vI (2) from I)) I (gv ((wA (q:=3) I I oM oM).cv (show _=vI (2) from I)) I (go4 ?_));refine zK 17 _ [] [(0,.q),(1,.q),(2,.q),(3,.q),(4,.q),(5,.q),(6,.q),(8,.q),(9,.q),(10,.q),(11,.q),(12,.q),(13,.q),(7,.c),(14,.c),(15,.c),(16,.q),(17,.t)] zX nX (wJ zob) nX (λr hr=>hr) (go3 ?_);refine wX I (xB yC (Pc.ty pH) Z) λbv bi=>(go2 ?_);refine wX I (xB yC (Pc.tz pH) U) λbu bh=>(go2 ?_);refine wX I (xB yC (Pc.tz pH) Z) λbt bg=>(go2 ?_);refine wX I (xB yC (Pc.ty pH) U) λbs bf=>?_;refine w_c I (sC (ev2 I I) call53 (λw hs=>qS hs bi bh oM) λaz h1 cm ab=>?_)
 change (rpQ (k+l)).Is h1 az (a.y*b.z) at ab
 refine w_c I (sC (ev2 I I) call53 (λw hs=>qS hs bg.up bf.up oM) λay h2 cl aa=>?_)
 change (rpQ (k+l)).Is h2 ay (a.z*b.y) at aa
 refine w_c I (sC (ev2 I I) call55 (λw hs=>gP hs ab.up aa oM) λax h3 ck G=>?_)
 change (rpQ ((k+l)+(k+l)+1)).Is h3 ax ((a.y*b.z)-(a.z*b.y)) at G
 replace G:=Rp.Is.le G (Le.q (l:=2*k+2*l+1) oM);refine go1 ?_;refine yJ (A:=[]) I (uB sizeOf29 (Pc.tx pH) bw (G.le (Le.q (l:=2*k+2*l+3) oM))) λcc be=>(go5 ?_);refine gv ((zQ (q:=1) I I oM oM).cv (show _=vI (1) from I)) I (go2 ?_);refine wG (go4 ?_);refine gv (OpV.tr dC (yI (q:=3) I I)) I (uE ?_);refine gv ((zQ (q:=1) I I oM oM).cv (show _=vI (2) from I)) I (gv ((wA (q:=3) I I oM oM).cv (show _=vI (2) from I)) I (go1 ?_));refine gv ((zQ (q:=2) I I oM oM).cv (show _=vI (3) from I)) I (gv ((wA (q:=3) I I oM oM).cv (show _=vI (0) from I)) I (go4 ?_));refine zK 17 _ [] [(0,.q),(1,.q),(2,.q),(3,.q),(4,.q),(5,.q),(6,.q),(8,.q),(9,.q),(10,.q),(11,.q),(12,.q),(13,.q),(7,.c),(14,.c),(15,.c),(16,.q),(17,.t)] zX nX (wJ zob) nX (λr hr=>hr) (go3 ?_);refine wX I (xB yC (Pc.tz pH) Z) λbr av=>(go2 ?_);refine wX I (xB yC (Pc.tx pH) U) λbp ar=>(go2 ?_);refine wX I (xB yC (Pc.tx pH) Z) λbn ap=>(go2 ?_);refine wX I (xB yC (Pc.tz pH) U) λbl an=>?_;refine w_c I (sC (ev2 I I) call53 (λw hs=>qS hs av ar oM) λaj h4 cj O=>?_)
 change (rpQ (k+l)).Is h4 aj (a.z*b.x) at O
 refine w_c I (sC (ev2 I I) call53 (λw hs=>qS hs ap.up an.up oM) λah h5 ci J=>?_)
 change (rpQ (k+l)).Is h5 ah (a.x*b.z) at J
 refine w_c I (sC (ev2 I I) call55 (λw hs=>gP hs O.up J oM) λad h6 ch D=>?_)
 change (rpQ ((k+l)+(k+l)+1)).Is h6 ad ((a.z*b.x)-(a.x*b.z)) at D
 replace D:=Rp.Is.le D (Le.q (l:=2*k+2*l+1) oM);refine go1 ?_;refine yJ (A:=[]) I (uB sizeOf29 (Pc.ty pH) be (D.le (Le.q (l:=2*k+2*l+3) oM))) λcb bd=>(go5 ?_);refine gv ((zQ (q:=1) I I oM oM).cv (show _=vI (2) from I)) I (go2 ?_);refine wG (go4 ?_);refine gv (OpV.tr dC (yI (q:=3) I I)) I (uE ?_);refine gv ((zQ (q:=1) I I oM oM).cv (show _=vI (3) from I)) I (gv ((wA (q:=3) I I oM oM).cv (show _=vI (0) from I)) I (go1 ?_));refine gv ((zQ (q:=2) I I oM oM).cv (show _=vI (4) from I)) I (gv ((wA (q:=3) I I oM oM).cv (show _=vI (1) from I)) I (go4 ?_));refine zK 17 _ [] [(0,.q),(1,.q),(2,.q),(3,.q),(4,.q),(5,.q),(6,.q),(8,.q),(9,.q),(10,.q),(11,.q),(12,.q),(13,.q),(7,.c),(14,.c),(15,.c),(16,.q),(17,.t)] zX nX (wJ zob) nX (λr hr=>hr) (go3 ?_);refine wX I (xB yC (Pc.tx pH) Z) λbq au=>(go2 ?_);refine wX I (xB yC (Pc.ty pH) U) λbo aq=>(go2 ?_);refine wX I (xB yC (Pc.ty pH) Z) λbm ao=>(go2 ?_);refine wX I (xB yC (Pc.tx pH) U) λbk am=>?_;refine w_c I (sC (ev2 I I) call53 (λw hs=>qS hs au aq oM) λai h7 cg M=>?_)
 change (rpQ (k+l)).Is h7 ai (a.x*b.y) at M
 refine w_c I (sC (ev2 I I) call53 (λw hs=>qS hs ao.up am.up oM) λae h8 cf H=>?_)
 change (rpQ (k+l)).Is h8 ae (a.y*b.x) at H
 refine w_c I (sC (ev2 I I) call55 (λw hs=>gP hs M.up H oM) λac h9 ce C=>?_)
 change (rpQ ((k+l)+(k+l)+1)).Is h9 ac ((a.x*b.y)-(a.y*b.x)) at C
 replace C:=Rp.Is.le C (Le.q (l:=2*k+2*l+1) oM);refine go1 ?_;refine yJ (A:=[]) I (uB sizeOf29 (Pc.tz pH) bd (C.le (Le.q (l:=2*k+2*l+3) oM))) λca bc=>(go5 ?_);refine gv ((zQ (q:=1) I I oM oM).cv (show _=vI (3) from I)) I (go2 ?_);refine wG (go4 ?_);refine gv (OpV.fa dC (yI (q:=3) I I)) I (uE ?_);refine lX (xB zH pH bc) λbj ak=>(yB (A:=[_]) (uB sizeOf31 pH bx ak) λbz bb=>(go3 ?_));refine wT (kE (t:=4) zH mh1 I bb) ?_;intro cd aw ba;refine yW (λE S=>zW I aw E S) ?_;exact ba
end
theorem zL9{w0 w:World}{h0 h:Mem}{b k:Nat}{vl:Value}{xs:List Int}(hl:Is h vl xs)(hk:k<=xs.length){n:Int}(hn:0<n)(hn2:n<4611686018427387904){L:List Res}(hs:St w0 h0 (.var b 72 [vl,vI ↑k]::L) h w):
 Calls Tryz.prog 38 #[vP b 0,vI n] w (lJ w0 h0 h L (λg r q'=>∃k':Nat,∃p:Prop,q'=.var b 72 [vl,vI ↑k']/\k'<=xs.length/\r=vB p)):=by
 have G:=hl.lt63;refine qI (n:=11) (e:=[(0,vP b 0),(1,vI n)]) (vs:=[vP b 0,vI n]) func38 rfl rfl (bL rfl) hs e2z (go9 ?_);refine yO (A:=[]) (vs:=[_,_]) call13 e2z (λX w hs=>wK hl zoe oM oM hs) I ?_;intro U g7 Z D C;obtain⟨k7,O,rfl,M,rfl,H,J⟩:=C;refine go7 ?_;refine uY I I ?_;exact⟨_,(List.Sublist.refl _),D,_,_,I,by omega,I⟩
theorem zL8{w0 w:World}{h0 h:Mem}{b k:Nat}{vl:Value}{xs:List Int}(hl:Is h vl xs)(hk:k<=xs.length){L:List Res}(hs:St w0 h0 (.var b 72 [vl,vI ↑k]::L) h w):
 Calls Tryz.prog 16 #[vP b 0] w (lJ w0 h0 h L (λg r q'=>∃k':Nat,∃m:T3 Rat,q'=.var b 72 [vl,vI ↑k']/\k'<=xs.length/\spP m/\(tPt 2).Is g r m)):=by
 have bf:=hl.lt63;refine qI (n:=22) (e:=[(0,vP b 0)]) (vs:=[vP b 0]) func16 rfl rfl (bL rfl) hs ⟨rfl,trivial⟩ (go2 ?_);refine nA (ρ:=(tPt 2)) (X:=zT) yN (xN (yH dC)) λb2 az an=>(go4 ?_);refine nA (ρ:=(tPt 2)) (X:=zT) yN (xN (yH dC)) λU ay am=>(go9 ?_);refine gcL (ι:=Nat×T3 Rat×List Value×Nat×Mem) (λ(i,m0,D,C,ma)=>(MLe h ma/\((tPt 2).R ma D m0/\C<=xs.length/\i<=3/\∀u,u<i->y9 (m0.at u) 9),[(0,vP b 0),(2,vP b2 0),(3,vP U 0),(4,vI ↑i)],(.var U 31 D::.var b2 31 az::.var b 72 [vl,vI ↑C]::L),ma,3-i)) (0,(T3.mk 0 0 0),ay,k,h) ?_ ?_
 · exact⟨mle,am,oM,by omega,λu h=>by omega⟩
 rintro⟨i,m0,D,C,ma⟩ ⟨ae,J,av,hi,hh⟩
 refine yX ?_;refine gc7 (λaw=>?_) λaw=>?_
 ·
  refine go8 ?_;refine yO (A:=[_,_]) (vs:=[_,vI (5)]) call13 e2z (λX w hs=>wK hl.up zoe oM oM hs) I ?_;intro bs cb bv bl ad;obtain⟨bw,Z,rfl,bi,rfl,bc,be⟩:=ad;refine cL (ev1 I) call27 (λw hs=>qT hs oM oM) λbr h1 bz aq=>(gv ((yE (sz:=3) i underlying31 sizeOf29 I I I oM).cv (show _=vP U ((i*3+0)) from congrArg (vP U) oM)) I (yB (A:=[]) (uB sizeOf29 (Pc.ta pH i oM) J aq) λaj H=>(go5 ?_)));refine yO (A:=[_,_]) (vs:=[_,vI (4)]) call38 e2z (λX w hs=>zL9 hl.up zoe oM oM hs) I ?_;intro bq ax bu bk ac;obtain⟨au,cc,rfl,bh,rfl⟩:=ac;refine gc2 (λah=>?_) λah=>?_
  ·
   refine go3 ?_;refine yO (A:=[_,_]) (vs:=[_,vI (9)]) call13 e2z (λX w hs=>wK hl.up zoe oM oM hs) I ?_;intro bp ca bt bj ab;obtain⟨ar,ak,rfl,bg,rfl,bb,bd⟩:=ab;refine cL (vs:=[_,vI (2)]) e2z call21 (λw hs=>iC hs oM oM dC dC) λbo h2 bx ap=>(gv ((yE (sz:=3) i underlying31 sizeOf29 I I I oM).cv (show _=vP U ((i*3+0)) from congrArg (vP U) oM)) I (yB (A:=[]) (uB sizeOf29 (Pc.ta pH i oM) H ap) λai aa=>(go8 ?_)));refine gqL ((i+1),((m0.set i ((Z:Int):Rat)).set i (jW ak (2:Int))),ai,ar,h2) ?_ ?_
   · exact⟨mle,aa,oM,by omega,by first|exact iV oM hh (zBI (n:=4) oM dC)|exact iV oM (λu hu=>iV oM hh (zBI (n:=4) oM dC) u oM) (zMV oM)⟩
   omega
  refine go8 ?_;refine gqL ((i+1),(m0.set i ((Z:Int):Rat)),aj,au,ax) ?_ ?_
  · exact⟨mle,H.up,oM,by omega,by first|exact iV oM hh (zBI (n:=4) oM dC)|exact iV oM (λu hu=>iV oM hh (zBI (n:=4) oM dC) u oM) (zMV oM)⟩
  omega
 refine go7 ?_;refine lX (xB zH pH J) λbn ao=>(yB (A:=[_]) (uB sizeOf31 pH an ao) λbm O=>(go3 ?_));refine wT (kE (t:=2) zH mh1 I O) ?_;intro ba G M;refine kX (λE S=>zW I G E S) ?_;exact⟨_,(.cons _ (.cons _ (List.Sublist.refl _))),ae,_,_,I,by omega,yIX (λu hu=>hh u oM),M⟩
section
variable{w0:World}{h0:Mem}(hs:MLe h0 (mem w0))
include hs
theorem zSZ{m l:Nat}{vs:Value}{s:Pq}(rs:(tPl m l).Is h0 vs s)(hcd0:m<=1000000000):
 Calls Tryz.prog 152 #[vs] w0 (Ret w0 h0 (λh r=>r=.tuple #[vI (↑(axI s.1):Int),vI (↑(axJ s.1):Int),vI (↑(axK s.1):Int)])):=by
 refine cb1 29 vs func152 hs ?_;refine go2 ?_;refine nB rs λb1 av G=>(mF ?_);refine lX (xB yC (Pc.fst (Pc.tz pH)) G) λar ak=>(cL (ev1 I) call48 (λw hs=>vM hs ak oM) λae h1 au aj=>?_);obtain rfl:ae=vI (yR s.1.z):=aj;have an:=yV s.1.z;refine gc3 (λac=>?_) λac=>?_
 ·
  refine qA ?_;refine lX (xB yC (Pc.fst (Pc.ty pH)) G) λaq ai=>(cL (ev1 I) call48 (λw hs=>vM hs ai oM) λad h2 ap ah=>?_);obtain rfl:ad=vI (yR s.1.y):=ah;have am:=yV s.1.y;refine gc3 (λab=>?_) λab=>?_
  ·
   refine uS ?_;refine lX (xB yC (Pc.fst (Pc.tx pH)) G) λaa J=>(cL (ev1 I) call48 (λw hs=>vM hs J oM) λD h3 ao H=>?_);obtain rfl:D=vI (yR s.1.x):=H;have M:=yV s.1.x;refine gc3 (λC=>?_) λC=>?_
   ·
    refine yBT ?_;refine uX I I I I ?_;have Z:axI s.1=2:=by unfold axI;simp only[uP,jK] at *;grind
    have U:axJ s.1=1:=by unfold axJ;simp only[uP,jK] at *;grind
    have O:axK s.1=0:=by unfold axK;simp only[uP,jK] at *;grind
    rw[Z,U,O];rfl
   refine sR ?_;refine uX I I I I ?_;have Z:axI s.1=1:=by unfold axI;simp only[uP,jK] at *;grind
   have U:axJ s.1=2:=by unfold axJ;simp only[uP,jK] at *;grind
   have O:axK s.1=0:=by unfold axK;simp only[uP,jK] at *;grind
   rw[Z,U,O];rfl
  refine go8 ?_;refine lX (xB yC (Pc.fst (Pc.ty pH)) G) λaa J=>(cL (ev1 I) call48 (λw hs=>vM hs J oM) λD h3 ao H=>?_);obtain rfl:D=vI (yR s.1.y):=H;have M:=yV s.1.y;refine gc3 (λC=>?_) λC=>?_
  ·
   refine yBT ?_;refine uX I I I I ?_;have Z:axI s.1=0:=by unfold axI;simp only[uP,jK] at *;grind
   have U:axJ s.1=2:=by unfold axJ;simp only[uP,jK] at *;grind
   have O:axK s.1=1:=by unfold axK;simp only[uP,jK] at *;grind
   rw[Z,U,O];rfl
  refine sR ?_;refine uX I I I I ?_;have Z:axI s.1=2:=by unfold axI;simp only[uP,jK] at *;grind
  have U:axJ s.1=0:=by unfold axJ;simp only[uP,jK] at *;grind
  have O:axK s.1=1:=by unfold axK;simp only[uP,jK] at *;grind
  rw[Z,U,O];rfl
 refine go8 ?_;refine lX (xB yC (Pc.fst (Pc.tz pH)) G) λaa J=>(cL (ev1 I) call48 (λw hs=>vM hs J oM) λD h2 ap H=>?_);obtain rfl:D=vI (yR s.1.z):=H;have M:=yV s.1.z;refine gc3 (λC=>?_) λC=>?_
 ·
  refine yBT ?_;refine uX I I I I ?_;have Z:axI s.1=1:=by unfold axI;simp only[uP,jK] at *;grind
  have U:axJ s.1=0:=by unfold axJ;simp only[uP,jK] at *;grind
  have O:axK s.1=2:=by unfold axK;simp only[uP,jK] at *;grind
  rw[Z,U,O];rfl
 refine sR ?_;refine uX I I I I ?_;have Z:axI s.1=0:=by unfold axI;simp only[uP,jK] at *;grind
 have U:axJ s.1=1:=by unfold axJ;simp only[uP,jK] at *;grind
 have O:axK s.1=2:=by unfold axK;simp only[uP,jK] at *;grind
 rw[Z,U,O];rfl
theorem zA3{m l k:Nat}{vs:Value}{s:Pq}(rs:(tPl m l).Is h0 vs s){vp:Value}{p:Tq}(rp:(tPt k).Is h0 vp p)(hcd0:k<=1000000000)(hcd1:m<=1000000000):
 Calls Tryz.prog 112 #[vs,vp] w0 (Ret w0 h0 (λh r=>(tPt (k+1)).Is h r (qC s p))):=by
 refine cb2 21 vs vp func112 hs ?_;refine go2 ?_;refine nB rs λb2 ao O=>(nB rp λJ an H=>(nA (ρ:=(tPt (k+1))) (X:=zT) yN (xN (yH oM)) λb4 am M=>(go4 ?_)));refine lX (xB bZ pH O) λv9 r9=>(cL (ev1 I) call152 (λw hs=>zSZ hs r9 oM) λaj h1 ak ab=>?_);obtain rfl:=ab;refine uE ?_;refine zK 7 _ [] [(0,.q),(1,.q),(2,.q),(3,.q),(4,.q),(5,.q),(6,.q),(7,.t)] zX nX zob nX (λr hr=>hr) (go1 ?_);refine wB I (λ_ _=>(yE (sz:=3) (axI s.1) underlying31 sizeOf29 I I zok (by exact zZC _)).cv (show _=vP J (((axI s.1)*3+0)) from congrArg (vP J) oM)) I (wX I (xB yC (Pc.ta pH (axI s.1) (by exact zZC _)) H) λai aa=>(go1 ?_));refine wB I (λ_ _=>(yE (sz:=3) (axJ s.1) underlying31 sizeOf29 I I zok (by exact zZB _)).cv (show _=vP J (((axJ s.1)*3+0)) from congrArg (vP J) oM)) I (wX I (xB yC (Pc.ta pH (axJ s.1) (by exact zZB _)) H) λah Z=>(wX I (xV (ρ:=(tPt (k+1))) (wD (ps':=[(0,_),(1,_)]) underlying31 yN I I sizeOf29 e4z I (xN (yH oM)) (zD I (Pc.tx (Pc.here _)) (aa.le (Le.q (l:=k+1) oM)) (zD I (Pc.ty (Pc.here _)) (Z.le (Le.q (l:=k+1) oM)) zO)))) λae U=>(yJ (A:=[]) I (uB sizeOf31 pH M U) λac G=>(go3 ?_))));refine wT (kE (t:=4) zH mh0 I G) ?_;intro ad C D;refine yW (λE S=>zW I C E S) ?_;exact D
theorem zS0{m l k:Nat}{vs:Value}{s:Pq}(rs:(tPl m l).Is h0 vs s){vp:Value}{p:Tq}(rp:(tPt k).Is h0 vp p)(hcd0:k<=1000000)(hcd1:l<=1000000)(hcd2:m<=1000000):
 Calls Tryz.prog 23 #[vs,vp] w0 (Ret w0 h0 (λ_ r=>r=vI (yR (xE s.1 p-s.2)))):=by
 refine cb2 13 vs vp func23 hs ?_;refine go2 ?_;refine nB rs λb2 ah D=>(nB rp λb3 ae H=>(go4 ?_));refine zK 9 _ [] [(0,.q),(1,.q),(2,.q),(4,.q),(5,.q),(3,.c),(6,.c),(7,.c),(8,.q)] zX nX zob nX (λr hr=>hr) (go1 ?_);refine wX I (xB zH (Pc.fst pH) D) λv6 r6=>(wX I (xB zH pH H) λv7 r7=>(go1 ?_));refine wX I (xB yC (Pc.snd pH) D) λaa O=>?_;refine w_c I (sC (ev2 I I) call56 (λw hs=>pX hs r6 r7 oM) λv8 h1 ad J=>?_);replace J:=Rp.Is.le J (Le.q (l:=3*k+3*m+9) oM);refine w_c I (sC (ev2 I I) call55 (λw hs=>gP hs J O.up oM) λZ h2 ac C=>?_);replace C:=Rp.Is.le C (Le.q (l:=3*k+l+3*m+10) oM);refine w_c I (sC (ev1 I) call48 (λw hs=>vM hs C oM) λG h3 ab M=>?_);obtain rfl:G=vI (yR ((xE s.1 p)-s.2)):=M;have U:=yV ((xE s.1 p)-s.2);refine go4 ?_;refine zC I I ?_
 rfl
theorem zL6{n:Int}(hn1:-9223372036854775808<=n)(hn2:n<9223372036854775808):Calls Tryz.prog 59 #[vI n] w0 (Ret w0 h0 (λh r=>(rpQ 2).Is h r (zQH n))):=
 (zTF hs hn1 hn2).mono (gA λh r x=>s5 x.2 x.1)
end
end Go.Proofs.YtpkaegemlpaenaaGreat
namespace Bk
open Classical
def lpP(x:List Int):Prop:=(3<=x.length/\x.length<=64)/\∀i,i<x.length->(0<=(x.getD i 0)/\(x.getD i 0)<512)/\∀k,k<i->¬(x.getD i 0)=(x.getD k 0)
def vfP(L:List (List Int)):Prop:=(1<=L.length/\L.length<=16)/\∀l,l<L.length->lpP ((L.getD l []))
def vaP(F:List (List (List Int))):Prop:=F.length<=256/\∀f,f<F.length->vfP ((F.getD f []))
abbrev E5:=Int×Int×Int×Int×Int
def edX(x:List Int)(f l:Nat):Nat->List E5:=qG λi=>((x.getD i 0),(x.getD ((i+1)%x.length) 0),(f:Int),(l:Int),(i:Int))
def edL(L:List (List Int))(f:Nat):Nat->List E5:=tO λl=>edX ((L.getD l [])) f l ((L.getD l [])).length
def edF(F:List (List (List Int))):Nat->List E5:=tO λf=>edL ((F.getD f [])) f ((F.getD f [])).length
def edZ(F:List (List (List Int))):List E5:=edF F F.length
abbrev e0:E5:=((0:Int),(0:Int),(0:Int),(0:Int),(0:Int))
def yB8(e:E5)(a b:Int):Prop:=e.1=a/\e.2.1=b
noncomputable def zAI(E:List E5)(a b:Int):Nat->Int
  |0=>0
  |m+1=>if yB8 ((E.getD m ((0:Int),(0:Int),(0:Int),(0:Int),(0:Int)))) a b then zAI E a b m+1 else zAI E a b m
theorem zAH(E:List E5)(a b:Int):∀m,0<=zAI E a b m/\zAI E a b m<=m
  |0=>by unfold zAI;omega
  |m+1=>by
   have h:=zAH E a b m;unfold zAI
   split<;>omega
theorem tm_t{E:List E5}{a b:Int}{m:Nat}(h:yB8 ((E.getD m ((0:Int),(0:Int),(0:Int),(0:Int),(0:Int)))) a b):zAI E a b m+1=zAI E a b (m+1):=(if_pos h).symm
theorem tm_f{E:List E5}{a b:Int}{m:Nat}(h:¬yB8 ((E.getD m ((0:Int),(0:Int),(0:Int),(0:Int),(0:Int)))) a b):zAI E a b m=zAI E a b (m+1):=(if_neg h).symm
noncomputable def tmZ(E:List E5)(a b:Int):Int:=zAI E a b E.length
def yJ1(E:List E5)(i:Nat):Prop:=tmZ E ((E.getD i ((0:Int),(0:Int),(0:Int),(0:Int),(0:Int)))).2.1 ((E.getD i ((0:Int),(0:Int),(0:Int),(0:Int),(0:Int)))).1<tmZ E ((E.getD i ((0:Int),(0:Int),(0:Int),(0:Int),(0:Int)))).1 ((E.getD i ((0:Int),(0:Int),(0:Int),(0:Int),(0:Int)))).2.1
noncomputable def yHX(E:List E5):Nat->List E5:=cH (yJ1 E) λi=>((30:Int),(-1:Int),((E.getD i ((0:Int),(0:Int),(0:Int),(0:Int),(0:Int)))).2.2.1,((E.getD i ((0:Int),(0:Int),(0:Int),(0:Int),(0:Int)))).2.2.2.1,((E.getD i ((0:Int),(0:Int),(0:Int),(0:Int),(0:Int)))).2.2.2.2)
noncomputable def clZ(F:List (List (List Int))):List E5:=if vaP F then yHX (edZ F) (edZ F).length else[((1:Int),(-1:Int),(-1:Int),(-1:Int),(-1:Int))]
theorem zM0(x:List Int)(f l m:Nat):(edX x f l m).length=m:=yZ _ _
theorem zGM{L:List (List Int)}(h:∀l,l<L.length->((L.getD l [])).length<=64)(f:Nat):∀m,m<=L.length->(edL L f m).length<=64*m
  |0,_=>Nat.le_refl _
  |m+1,hm=>by
   have h1:=zGM h f m zoa;have h2:=h m zoa
   show List.length (edL L f m++edX (L.getD m []) f m (L.getD m []).length)<=_
   rw[lAz,zM0];omega
theorem zBP{F:List (List (List Int))}(h:∀f,f<F.length->((F.getD f [])).length<=16/\∀l,l<((F.getD f [])).length->((((F.getD f [])).getD l [])).length<=64):∀m,m<=F.length->(edF F m).length<=1024*m
  |0,_=>Nat.le_refl _
  |m+1,hm=>by
   have h1:=zBP h m zoa;have h2:=h m zoa;have h3:=zGM h2.2 m _ (Nat.le_refl _)
   show List.length (edF F m++edL (F.getD m []) m (F.getD m []).length)<=_
   rw[lAz];omega
end Bk
namespace Bk
open Go Go.RowKit
def yKN(w0:World)(h0:Mem)(h:Mem)(L:List Res)(G:Mem->Value->Res->Res->Prop):Ending->World->Prop:=
 tQ w0 h0 (λg v K=>∃q' o,(o::q'::L).Sublist K/\MLe h g/\G g v q' o)
section
variable {P:Program}{n:Nat}{w0:World}{h0:Mem}{e:List (Nat×Value)}{L:List Res}{h:Mem}{Q:Exit->Act->World->Prop}
variable {ty:TypeId}{ps:String}{af:Array Edge}
end
end Bk
namespace Go.Proofs.YtpkaegemlpaenaaGreat
open Bk Go Tryz
set_option maxRecDepth 10000
set_option maxHeartbeats 1000000
attribute [local irreducible] GL GC GQ W OpV
section
variable{w0:World}{h0:Mem}(hs:MLe h0 (mem w0))
include hs
theorem iD{vL:Value}{L:(List (List Int))}(rL:tII.Is h0 vL L):
 Calls Tryz.prog 178 #[vL] w0 (Ret w0 h0 (λ_ r=>r=vB (vfP L))):=by
 refine cb1 65 vL func178 hs ?_;refine qA ?_;refine gU 5 14 (vB (((↑(L).length:Int)<(1:Int))\/((16:Int)<(↑(L).length:Int)))) ?_ ?_
 ·
  refine zY ((↑(L).length:Int)<(1:Int)) (λC=>?_) (λC=>?_)
  ·
   refine gT C I (go5 ?_);refine gqU ?_;exact congrArg some (vH C)
  refine gF C I (go8 ?_);refine gqU ?_;exact congrArg some (vJ C)
 refine gc2 (λah=>?_) λah=>?_
 ·
  refine go7 ?_;refine zC I I ?_;exact(yG (λe=>by have:=e.1;omega)).symm
 refine go9 ?_;refine gcL (ι:=Nat×Mem) (λ(l,O)=>(MLe h0 O/\(l<=L.length/\∀u,u<l->lpP (L.getD u [])),[(0,vL),(3,vI ↑l)],[],O,L.length-l)) (0,h0) ?_ ?_
 · exact⟨mle,by omega,λu h=>by omega⟩
 rintro⟨l,O⟩ ⟨ba,bo,U⟩
 refine yX ?_;refine gc9 (λae=>?_) λae=>?_
 ·
  refine go8 ?_;refine lX (xI [] l underlying51 tF rL) λbn ar=>(lX (xA tF ar) λJ G=>(go9 ?_));refine gU 5 32 (vB (((↑((L.getD l [])).length:Int)<(3:Int))\/((64:Int)<(↑((L.getD l [])).length:Int)))) ?_ ?_
  ·
   refine zY ((↑((L.getD l [])).length:Int)<(3:Int)) (λC=>?_) (λC=>?_)
   ·
    refine gT C I (go5 ?_);refine gqU ?_;exact congrArg some (vH C)
   refine gF C I (go8 ?_);refine gqU ?_;exact congrArg some (vJ C)
  refine gc2 (λad=>?_) λad=>?_
  ·
   refine uS ?_;refine zC I I ?_;exact(yG (λe=>by have:=(e.2 l oM).1;omega)).symm
  refine go8 ?_;refine gcL (ι:=Nat×Mem) (λ(i,H)=>(MLe O H/\(i<=(L.getD l []).length/\∀u,u<i->(0<=(L.getD l []).getD u 0/\(L.getD l []).getD u 0<512)/\∀k,k<u->¬(L.getD l []).getD u 0=(L.getD l []).getD k 0),[(0,vL),(3,vI ↑l),(4,J),(5,vI ↑i)],[],H,(L.getD l []).length-i)) (0,O) ?_ ?_
  · exact⟨mle,by omega,λu h=>by omega⟩
  rintro⟨i,H⟩ ⟨az,bq,hi2⟩
  refine yX ?_;refine gc9 (λac=>?_) λac=>?_
  ·
   refine go9 ?_;refine lX (xI (0:Int) i underlying22 ty3 G) λbm aq=>(lX (xA ty3 aq) λbl ap=>?_);obtain⟨rfl,be,ax⟩:=kJ ap;refine go1 ?_;refine gU 7 50 (vB ((((L.getD l []).getD i (0:Int))<(0:Int))\/((512:Int)<=((L.getD l []).getD i (0:Int))))) ?_ ?_
   ·
    refine zY (((L.getD l []).getD i (0:Int))<(0:Int)) (λC=>?_) (λC=>?_)
    ·
     refine gT C I (go7 ?_);refine gqU ?_;exact congrArg some (vH C)
    refine gF C I (go5 ?_);refine lX (xI (0:Int) i underlying22 ty3 G) λbk ao=>(go1 ?_);refine lX (xA ty3 ao) λbj an=>?_;obtain⟨rfl,bd,aw⟩:=kJ an;refine go4 ?_;refine gqU ?_;exact congrArg some (vJ C)
   refine gc2 (λab=>?_) λab=>?_
   ·
    refine dT ?_;refine zC I I ?_;exact(yG (λe=>by have:=((e.2 l oM).2 i oM).1;omega)).symm
   refine go8 ?_;refine gcL (ι:=Nat×Mem) (λ(k,M)=>(MLe H M/\(k<=i/\∀v,v<k->¬(L.getD l []).getD i 0=(L.getD l []).getD v 0),[(0,vL),(3,vI ↑l),(4,J),(5,vI ↑i),(6,vI ↑k)],[],M,i-k)) (0,H) ?_ ?_
   · exact⟨mle,by omega,λu h=>by omega⟩
   rintro⟨k,M⟩ ⟨ay,bp,Z⟩
   refine yX ?_;refine gc8 (λaa=>?_) λaa=>?_
   ·
    refine go5 ?_;refine zK 9 _ [] [(0,.q),(1,.q),(2,.q),(3,.q),(4,.q),(5,.q),(6,.q),(7,.q),(8,.q)] zX nX zob nX (λr hr=>hr) (go2 ?_);refine wX I (xI (0:Int) i underlying22 ty3 G) λbi am=>(wX I (xA ty3 am) λbh ak=>?_);obtain⟨rfl,bc,av⟩:=kJ ak;refine go2 ?_;refine wX I (xI (0:Int) k underlying22 ty3 G) λbg aj=>(wX I (xA ty3 aj) λbf ai=>?_);obtain⟨rfl,bb,au⟩:=kJ ai;refine gc3 (λD=>?_) λD=>?_
    ·
     refine zPO ?_;refine zC I I ?_;exact(yG (λe=>((e.2 l oM).2 i oM).2 k oM D)).symm
    refine go8 ?_;refine gqL ((k+1),M) ?_ ?_
    · exact⟨mle,by omega,xR (Q:=λv=>¬(L.getD l []).getD i 0=(L.getD l []).getD v 0) Z D⟩
    omega
   refine qA ?_;refine gqL ((i+1),M) ?_ ?_
   · exact⟨mle,by omega,xR (Q:=λu=>(0<=(L.getD l []).getD u 0/\(L.getD l []).getD u 0<512)/\∀k,k<u->¬(L.getD l []).getD u 0=(L.getD l []).getD k 0) hi2 ⟨by omega,λk hk=>Z k oM⟩⟩
   omega
  refine qA ?_;refine gqL ((l+1),H) ?_ ?_
  · exact⟨mle,by omega,xR (Q:=λu=>lpP (L.getD u [])) U ⟨by omega,λu hu=>hi2 u oM⟩⟩
  omega
 refine qA ?_;refine zC I I ?_;exact(xK ⟨by omega,λu hu=>U u oM⟩).symm
theorem zOR{vF:Value}{F:(List (List (List Int)))}(rF:(rpS tII).Is h0 vF F):
 Calls Tryz.prog 180 #[vF] w0 (Ret w0 h0 (λ_ r=>r=vB (vaP F))):=by
 refine cb1 19 vF func180 hs ?_;refine sR ?_;refine cnd (λZ=>?_) λZ=>?_
 ·
  refine go7 ?_;refine zC I I ?_;exact(yG (λe=>by have:=e.1;omega)).symm
 refine go9 ?_;refine gcL (ι:=Nat×Mem) (λ(f,U)=>(MLe h0 U/\(f<=F.length/\∀u,u<f->vfP (F.getD u [])),[(0,vF),(3,vI ↑f)],[],U,F.length-f)) (0,h0) ?_ ?_
 · exact⟨mle,by omega,λu h=>by omega⟩
 rintro⟨f,U⟩ ⟨aa,ae,D⟩
 refine yX ?_;refine gc9 (λG=>?_) λG=>?_
 ·
  refine go8 ?_;refine lX (xI [] f underlying165 bY rF) λac O=>(lX (xA bY O) λab M=>(cL (ev1 I) call178 (λw hs=>iD hs M) λH h1 ad J=>?_));obtain rfl:H=vB (vfP (F.getD f [])):=J;refine gc3 (λC=>?_) λC=>?_
  ·
   refine qA ?_;refine zC I I ?_;exact(yG (λe=>C (e.2 f oM))).symm
  refine go8 ?_;refine gqL ((f+1),h1) ?_ ?_
  · exact⟨mle,by omega,xR (Q:=λu=>vfP (F.getD u [])) D (Classical.not_not.1 C)⟩
  omega
 refine qA ?_;refine zC I I ?_;exact(xK ⟨by omega,λu hu=>D u oM⟩).symm
theorem zFK{vF:Value}{F:(List (List (List Int)))}(rF:(rpS tII).Is h0 vF F)(hcd0:F.length<=1000)(hcd1:∀f,f<F.length->(F.getD f []).length<=16/\∀l,l<(F.getD f []).length->((F.getD f []).getD l []).length<=64):
 Calls Tryz.prog 135 #[vF] w0 (Ret w0 h0 (λh r=>(rpS tE5).Is h r (edZ F))):=by
 refine cb1 56 vF func135 hs ?_;refine mF ?_;refine xM 168 5 ?_;have ae:=RL.nil (ρ:=rpP rpI (rpP rpI (rpP rpI (rpP rpI rpI)))) (h:=h0);refine gcL (ι:=Nat×List (Int×Int×Int×Int×Int)×Value×List Value×Mem) (λ(f,D0,H,M,ma)=>(MLe h0 ma/\(RL tE5 ma M D0/\f<=F.length/\D0=edF F f),[(0,vF),(3,H),(4,vI ↑f)],[.gs 168 5 H D0.length M],ma,F.length-f)) (0,[],(.slice none 0 0),[],h0) ?_ ?_
 · exact⟨mle,ae,by omega,I⟩
 rintro⟨f,D0,H,M,ma⟩ ⟨bi,Z,cj,ao⟩
 refine yX ?_;refine gc9 (λam=>?_) λam=>?_
 ·
  refine uE ?_;refine gcL (ι:=Nat×List (Int×Int×Int×Int×Int)×Value×List Value×Mem) (λ(l,D1,C,D,mb)=>(MLe ma mb/\(RL tE5 mb D D1/\l<=(F.getD f []).length/\D1=edF F f++edL (F.getD f []) f l),[(0,vF),(3,C),(4,vI ↑f),(5,vI ↑l)],[.gs 168 5 C D1.length D],mb,(F.getD f []).length-l)) (0,D0,H,M,ma) ?_ ?_
  · exact⟨mle,Z,by omega,by rw[ao];exact(List.append_nil _).symm⟩
  rintro⟨l,D1,C,D,mb⟩ ⟨bh,U,ch,an⟩
  refine yX ?_;refine go6 ?_;refine lX (xI [] f underlying165 bY rF) λbw bc=>(lX (xA bY bc) λbv bx=>(gc4 (λak=>?_) λak=>?_))
  ·
   refine go8 ?_;refine lX (xI [] f underlying165 bY rF) λbu bb=>(lX (xA bY bb) λbt ba=>(go1 ?_));refine lX (xI [] l underlying51 tF ba) λbs az=>(lX (xA tF az) λar ac=>(go9 ?_));refine gcL (ι:=Nat×List (Int×Int×Int×Int×Int)×Value×List Value×Mem) (λ(i,D2,G,J,mc)=>(MLe mb mc/\(RL tE5 mc J D2/\i<=((F.getD f []).getD l []).length/\D2=edF F f++edL (F.getD f []) f l++edX ((F.getD f []).getD l []) f l i),[(0,vF),(3,G),(4,vI ↑f),(5,vI ↑l),(6,ar),(7,vI ↑i)],[.gs 168 5 G D2.length J],mc,((F.getD f []).getD l []).length-i)) (0,D1,C,D,mb) ?_ ?_
   · exact⟨mle,U,by omega,by rw[an];exact(List.append_nil _).symm⟩
   rintro⟨i,D2,G,J,mc⟩ ⟨bg,O,ci,ad⟩
   refine yX ?_;have cg:=zBP hcd1 f oM;have cf:=(hcd1 f oM).1;have ce:=zGM (hcd1 f oM).2 f l oM;have cd:=(hcd1 f oM).2 l oM;have cc:=zM0 ((F.getD f []).getD l []) f l i;have cb:D2.length<=1100000:=by rw[ad,lAz,lAz];omega
   refine gc9 (λaj=>?_) λaj=>?_
   ·
    refine go4 ?_;refine qH (A:=[]) 20 [] [(0,.q),(1,.q),(2,.q),(3,.q),(4,.q),(5,.q),(6,.q),(7,.q),(8,.q),(9,.q),(10,.q),(11,.q),(12,.q),(13,.q),(14,.q),(15,.q),(16,.q),(17,.c),(18,.c),(19,.q)] zX nX (wJ zob) nX (go3 ?_);refine wX I (xI (0:Int) i underlying22 ty3 ac) λbr ay=>(wX I (xA ty3 ay) λbq ax=>?_);obtain⟨rfl,bk,bf⟩:=kJ ax;refine go4 ?_;refine w_q I (λh' L' hh hR=>uL underlying22 I (ac.up.mono hh)) I (wB I (λ_ _=>wA I I oM oM) I (wX I (xI (0:Int) ((i+1)%((F.getD f []).getD l []).length) underlying22 ty3 ac (hi:=by exact Nat.mod_lt _ oM)) λbp aw=>(wX I (xA ty3 aw) λbo av=>?_)));obtain⟨rfl,bj,be⟩:=kJ av;refine go3 ?_;refine wX I (xV (ρ:=tE5) (wE (ps':=[(0,_),(1,_),(2,_),(3,_),(4,_)]) underlying168 zEC I I (zSL underlying168) e10 I (yD wL (yD wL (yD wL (yD wL wL)))) (zD I (Pc.fst (Pc.here _)) (wI oM oM) (zD I (Pc.snd (Pc.fst (Pc.here _))) (wI oM oM) (zD I (Pc.snd (Pc.snd (Pc.fst (Pc.here _)))) (wI oM oM) (zD I (Pc.snd (Pc.snd (Pc.snd (Pc.fst (Pc.here _))))) (wI oM oM) (zD I (Pc.snd (Pc.snd (Pc.snd (Pc.snd (Pc.here _))))) (wI oM oM) zO))))))) λbn au=>?_;refine w_c I (jH (λX=>zL (ρ:=tE5) (m:=1) (xs:=[((((F.getD f []).getD l []).getD i (0:Int)),((((F.getD f []).getD l []).getD ((i+1)%((F.getD f []).getD l []).length) (0:Int)),((↑f:Int),((↑l:Int),(↑i:Int)))))]) (ps':=[(0,_)]) underlying163 zEC I I I (yD wL (yD wL (yD wL (yD wL wL)))) e2z (zD I (Pc.arr (Pc.here _) e50 0 dC) au zO) (show 1*5<=16777216 from by decide) nP) I ?_)
    rintro bm ca ⟨bl,rfl,ai⟩
    refine w_c I (xY (A:=[]) (ρ:=tE5) ai dK ?_);intro h1 bd ab;refine fR (A:=[]) (λX=>zV (ρ:=tE5) (bytes:=40) underlying163 zEC I I I I nP I I O.up ab bO bO) I (xJ zof) ?_
    rintro aq bz ⟨ap,rfl,ah⟩
    refine go9 ?_;refine gqL ((i+1),(D2++[((((F.getD f []).getD l []).getD i (0:Int)),((((F.getD f []).getD l []).getD ((i+1)%((F.getD f []).getD l []).length) (0:Int)),((↑f:Int),((↑l:Int),(↑i:Int)))))]),aq,ap,h1) ?_ ?_
    · exact⟨mle,ah,by omega,by rw[ad,List.append_assoc];rfl⟩
    omega
   have ei:i=((F.getD f []).getD l []).length:=by omega
   refine qA ?_;refine gqL ((l+1),D2,G,J,mc) ?_ ?_
   · exact⟨mle,O.up,by omega,by rw[ad,ei,List.append_assoc];rfl⟩
   omega
  have el:l=(F.getD f []).length:=by omega
  refine qA ?_;refine gqL ((f+1),D1,C,D,mb) ?_ ?_
  · exact⟨mle,U,by omega,by rw[an,el];rfl⟩
  omega
 have ef:f=F.length:=by omega
 refine uS ?_;refine wO (A:=[]) (ρ:=tE5) Z ?_;intro h1 bd aa;refine zC I I ?_;exact(Rp.Is.cast aa (by rw[ao,ef];rfl))
theorem zFJ{vE:Value}{E:(List (Int×(Int×(Int×(Int×Int)))))}(rE:(rpS tE5).Is h0 vE E){a:Int}(ha1:-9223372036854775808<=a)(ha2:a<9223372036854775808){b:Int}(hb1:-9223372036854775808<=b)(hb2:b<9223372036854775808)(hcd0:E.length<=1000000):
 Calls Tryz.prog 181 #[vE,vI a,vI b] w0 (Ret w0 h0 (λ_ r=>r=vI (tmZ E a b))):=by
 refine cb3 34 vE (vI a) (vI b) func181 hs ?_;refine mF ?_;refine gcL (ι:=Nat×Mem) (λ(m,D)=>(MLe h0 D/\(m<=E.length),[(0,vE),(1,vI a),(2,vI b),(7,vI (zAI E a b m)),(8,vI ↑m)],[],D,E.length-m)) (0,h0) ?_ ?_
 · exact⟨mle,oM⟩
 rintro⟨m,D⟩ ⟨ae,G⟩
 refine yX ?_;have ar:=G;have aq:=zAH E a b m;refine gc9 (λJ=>?_) λJ=>?_
 ·
  refine go8 ?_;refine lX (xI e50 m underlying163 y1 rE) λap ab=>(lX (xF underlying168 sizeOf3 (Pc.fst pH) ab) λao aa=>(lX (xA ty3 aa) λan Z=>?_));obtain⟨rfl,ai,ad⟩:=kJ Z;refine go2 ?_;refine gU 9 30 (vB ((((E.getD m e50).1)=a)/\((((E.getD m e50).2).1)=b))) ?_ ?_
  ·
   refine zY (((E.getD m e50).1)=a) (λH=>?_) (λH=>?_)
   ·
    refine gT H I (go5 ?_);refine lX (xI e50 m underlying163 y1 rE) λam U=>(go1 ?_);refine lX (xF underlying168 sizeOf3 (Pc.snd (Pc.fst pH)) U) λak O=>(go1 ?_);refine lX (xA ty3 O) λaj M=>?_;obtain⟨rfl,ah,ac⟩:=kJ M;refine go6 ?_;refine gqU ?_;exact congrArg some (xC H)
   refine gF H I (go9 ?_);refine gqU ?_;exact congrArg some (xD H)
  refine gc2 (λC=>?_) λC=>?_
  ·
   refine uS ?_;refine gqL ((m+1),D) ?_ ?_ (he:=⟨I,I,I,congrArg (λz=>some (vI z)) (tm_t C),I,trivial⟩)
   · exact⟨mle,oM⟩
   omega
  refine go8 ?_;refine gqL ((m+1),D) ?_ ?_ (he:=⟨I,I,I,congrArg (λz=>some (vI z)) (tm_f C),I,trivial⟩)
  · exact⟨mle,oM⟩
  omega
 refine uS ?_;refine zC I I ?_;have em:m=E.length:=by omega
 subst em
 rfl
theorem zLV{vF:Value}{F:(List (List (List Int)))}(rF:(rpS tII).Is h0 vF F):
 Calls Tryz.prog 145 #[vF] w0 (Ret w0 h0 (λh r=>(rpS tE5).Is h r (clZ F))):=by
 refine cb1 64 vF func145 hs ?_;refine go9 ?_;refine cL (ev1 I) call180 (λw hs=>zOR hs rF) λv7 h1 dw r7=>?_;obtain rfl:v7=vB (vaP F):=r7;refine gc3 (λac=>?_) λac=>?_
 ·
  refine go2 ?_;refine lX (xV (ρ:=tE5) (wE (ps':=[(0,_),(1,_),(2,_),(3,_),(4,_)]) underlying200 jL I I (zCA underlying200) e10 I (yD wL (yD wL (yD wL (yD wL wL)))) (zD I (Pc.fst (Pc.here _)) (wI dC dC) (zD I (Pc.snd (Pc.fst (Pc.here _))) (wI dC dC) (zD I (Pc.snd (Pc.snd (Pc.fst (Pc.here _)))) (wI dC dC) (zD I (Pc.snd (Pc.snd (Pc.snd (Pc.fst (Pc.here _))))) (wI dC dC) (zD I (Pc.snd (Pc.snd (Pc.snd (Pc.snd (Pc.here _))))) (wI dC dC) zO))))))) λv9 r9=>(zI (zL (ρ:=tE5) (m:=1) (xs:=[((1:Int),((-1:Int),((-1:Int),((-1:Int),(-1:Int)))))]) (ps':=[(0,_)]) underlying133 jL I I I (yD wL (yD wL (yD wL (yD wL wL)))) e2z (zD I (Pc.arr (Pc.here _) e50 0 dC) r9 zO) (show 1*5<=16777216 from by decide) nP) I I I ?_)
  rintro dn dr ⟨cl,rfl,ai⟩
  refine go5 ?_;refine wO (A:=[]) (ρ:=tE5) ai ?_;intro h2 bt aa;refine zC I I ?_;exact(Rp.Is.cast aa (by exact(if_neg ac).symm))
 refine uE ?_;have O:vaP F:=Classical.not_not.1 ac;have ad:∀f,f<F.length->(F.getD f []).length<=16/\∀l,l<(F.getD f []).length->((F.getD f []).getD l []).length<=64:=λf hf=>⟨(O.2 f hf).1.2,λl hl=>((O.2 f hf).2 l hl).1.2⟩;have dz:F.length<=256:=O.1;have dy:=zBP ad F.length (Nat.le_refl _);have dx:(edZ F).length<=262144:=by show(edF F F.length).length<=_;omega
 refine cL (ev1 I) call135 (λw hs=>zFK hs rF.up (by first|omega|exact ad) (by first|omega|exact ad)) λap h2 bt G=>(uE ?_);refine xM 200 5 ?_;have ab:=RL.nil (ρ:=rpP rpI (rpP rpI (rpP rpI (rpP rpI rpI)))) (h:=h2);refine gcL (ι:=Nat×List (Int×Int×Int×Int×Int)×Value×List Value×Mem) (λ(i,D,C,H,ma)=>(MLe h2 ma/\(RL tE5 ma H D/\i<=(edZ F).length/\D=yHX (edZ F) i),[(3,C),(4,ap),(5,vI ↑i)],[.gs 200 5 C D.length H],ma,(edZ F).length-i)) (0,[],(.slice none 0 0),[],h2) ?_ ?_
 · exact⟨mle,ab,by omega,I⟩
 rintro⟨i,D,C,H,ma⟩ ⟨cc,J,dt,hD⟩
 refine yX ?_;have ea:D.length<=i:=by rw[hD];exact pQ _ _ i
 refine gc9 (λaj=>?_) λaj=>?_
 ·
  refine go5 ?_;refine zK 25 _ [] [(0,.q),(1,.q),(2,.q),(3,.q),(4,.q),(5,.q),(6,.q),(7,.q),(8,.q),(9,.q),(10,.q),(12,.q),(13,.q),(14,.q),(15,.q),(16,.q),(17,.q),(18,.q),(19,.q),(20,.q),(21,.q),(22,.q),(11,.c),(23,.c),(24,.q)] zX nX (wJ zob) nX (λr hr=>hr) (go3 ?_);refine wX I (xI e50 i underlying163 y1 G) λdm bp=>(wX I (xF underlying168 sizeOf3 (Pc.fst pH) bp) λdl bo=>(wX I (xA ty3 bo) λdk bn=>?_));obtain⟨rfl,cj,cb⟩:=kJ bn;refine go2 ?_;refine wX I (xI e50 i underlying163 y1 G) λdj bm=>(wX I (xF underlying168 sizeOf3 (Pc.snd (Pc.fst pH)) bm) λdi bl=>(wX I (xA ty3 bl) λdh bk=>?_));obtain⟨rfl,ci,ca⟩:=kJ bk;refine go3 ?_;refine wX I (xI e50 i underlying163 y1 G) λdf bi=>(wX I (xF underlying168 sizeOf3 (Pc.snd (Pc.fst pH)) bi) λde bh=>(wX I (xA ty3 bh) λdd bg=>?_));obtain⟨rfl,ch,bz⟩:=kJ bg;refine go2 ?_;refine wX I (xI e50 i underlying163 y1 G) λdc bf=>(wX I (xF underlying168 sizeOf3 (Pc.fst pH) bf) λdb be=>(wX I (xA ty3 be) λda bd=>?_));obtain⟨rfl,cg,bx⟩:=kJ bd;refine w_c I (sC (ev3 I I I) call181 (λw hs=>zFJ hs G.up oM oM oM oM oM) λao h3 bs bj=>?_);obtain rfl:ao=vI (tmZ (edZ F) (((edZ F).getD i e50).1) ((((edZ F).getD i e50).2).1)):=bj;have br:=zAH (edZ F) (((edZ F).getD i e50).1) ((((edZ F).getD i e50).2).1) (edZ F).length;refine w_c I (sC (ev3 I I I) call181 (λw hs=>zFJ hs G.up oM oM oM oM oM) λan h4 dv bc=>?_);obtain rfl:an=vI (tmZ (edZ F) ((((edZ F).getD i e50).2).1) (((edZ F).getD i e50).1)):=bc;have bq:=zAH (edZ F) ((((edZ F).getD i e50).2).1) (((edZ F).getD i e50).1) (edZ F).length;refine gc3 (λM=>?_) λM=>?_
  ·
   refine qH (A:=[]) 20 [] [(0,.q),(1,.q),(2,.q),(3,.q),(4,.q),(5,.q),(6,.q),(7,.q),(8,.q),(9,.q),(10,.q),(11,.q),(12,.q),(13,.q),(14,.q),(15,.q),(16,.q),(17,.c),(18,.c),(19,.q)] zX nX (wJ zob) nX (go3 ?_);refine wX I (xI e50 i underlying163 y1 G) λcz bb=>(wX I (xF underlying168 sizeOf3 (Pc.snd (Pc.snd (Pc.fst pH))) bb) λcy ba=>(wX I (xA ty3 ba) λcw az=>?_));obtain⟨rfl,cf,bw⟩:=kJ az;refine go2 ?_;refine wX I (xI e50 i underlying163 y1 G) λcv ay=>(wX I (xF underlying168 sizeOf3 (Pc.snd (Pc.snd (Pc.snd (Pc.fst pH)))) ay) λcu ax=>(wX I (xA ty3 ax) λct aw=>?_));obtain⟨rfl,ce,bv⟩:=kJ aw;refine go2 ?_;refine wX I (xI e50 i underlying163 y1 G) λcq av=>(wX I (xF underlying168 sizeOf3 (Pc.snd (Pc.snd (Pc.snd (Pc.snd pH)))) av) λcp au=>(wX I (xA ty3 au) λco ar=>?_));obtain⟨rfl,cd,bu⟩:=kJ ar;refine wX I (xV (ρ:=tE5) (wE (ps':=[(0,_),(1,_),(2,_),(3,_),(4,_)]) underlying200 jL I I (zCA underlying200) e10 I (yD wL (yD wL (yD wL (yD wL wL)))) (zD I (Pc.fst (Pc.here _)) (wI dC dC) (zD I (Pc.snd (Pc.fst (Pc.here _))) (wI dC dC) (zD I (Pc.snd (Pc.snd (Pc.fst (Pc.here _)))) (wI oM oM) (zD I (Pc.snd (Pc.snd (Pc.snd (Pc.fst (Pc.here _))))) (wI oM oM) (zD I (Pc.snd (Pc.snd (Pc.snd (Pc.snd (Pc.here _))))) (wI oM oM) zO))))))) λcn aq=>?_;refine w_c I (jH (λX=>zL (ρ:=tE5) (m:=1) (xs:=[((30:Int),((-1:Int),((((((edZ F).getD i e50).2).2).1),(((((((edZ F).getD i e50).2).2).2).1),((((((edZ F).getD i e50).2).2).2).2)))))]) (ps':=[(0,_)]) underlying133 jL I I I (yD wL (yD wL (yD wL (yD wL wL)))) e2z (zD I (Pc.arr (Pc.here _) e50 0 dC) aq zO) (show 1*5<=16777216 from by decide) nP) I ?_)
   rintro cm dq ⟨ck,rfl,ah⟩
   refine w_c I (xY (A:=[]) (ρ:=tE5) ah dK ?_);intro h5 du Z;refine fR (A:=[]) (λX=>zV (ρ:=tE5) (bytes:=40) underlying133 jL I I I I nP I I J.up Z bO bO) I (xJ zof) ?_
   rintro am dp ⟨ak,rfl,ae⟩
   refine go9 ?_;refine gqL ((i+1),(D++[((30:Int),((-1:Int),((((((edZ F).getD i e50).2).2).1),(((((((edZ F).getD i e50).2).2).2).1),((((((edZ F).getD i e50).2).2).2).2)))))]),am,ak,h5) ?_ ?_
   · exact⟨mle,ae,by omega,by rw[hD];exact zAQ M⟩
   omega
  refine go8 ?_;refine gqL ((i+1),D,C,H,h4) ?_ ?_
  · exact⟨mle,J.up,by omega,by rw[hD];exact zAR M⟩
  omega
 refine uS ?_;refine wO (A:=[]) (ρ:=tE5) J.up ?_;intro h3 bs U;refine zC I I ?_;exact(Rp.Is.cast U (by rw[hD,show i=(edZ F).length by omega];exact(if_pos O).symm))
end
end Go.Proofs.YtpkaegemlpaenaaGreat
namespace Bk
open Classical
def zHK(a b:Pt):Pt:=T3.mk (a.x+b.x) (a.y+b.y) (a.z+b.z)
def moved(l l':List Pt)(v:Pt):Prop:=l'.length=l.length/\∀q,q<l.length->gp l' q=zHK (gp l q) v
def sh(a v:P2):P2:=(a.1+v.1,a.2+v.2)
def reved(l z:List Pt):Prop:=z.length=l.length/\∀q,q<l.length->gp z q=gp l (l.length-1-q)
def sN(n m:Nat):Nat:=if m+1=n then m else n-2-m
def movTo(l y:List Pt)(v:Pt)(m:Nat):Prop:=y.length=m/\∀q,q<m->gp y q=zHK (gp l q) v
def revTo(l z:List Pt)(m:Nat):Prop:=z.length=m/\∀q,q<m->gp z q=gp l (l.length-1-q)
def hgt(pl:Pl)(p:Pt):Rat:=xE pl.1 p-pl.2
noncomputable def sdZ(pl:Pl)(p:Pt):Int:=yR (hgt pl p)
theorem bG(pl:Pl)(p:Pt):-1<=sdZ pl p/\sdZ pl p<=1:=yV _
def lerp(t:Rat)(a b:Pt):Pt:=T3.mk (a.x+t*(b.x-a.x)) (a.y+t*(b.y-a.y)) (a.z+t*(b.z-a.z))
noncomputable def yJ8(pl:Pl)(a b:Pt):Rat:=if hgt pl a-hgt pl b=0 then 0 else hgt pl a/(hgt pl a-hgt pl b)
noncomputable def btw(pl:Pl)(a b:Pt):Pt:=lerp (yJ8 pl a b) a b
abbrev nx(l:List Pt)(m:Nat):Pt:=gp l ((m+1)%l.length)
def xP(pl:Pl)(l:List Pt)(m:Nat):Prop:=sdZ pl (gp l m)*sdZ pl (nx l m)<0
noncomputable def yH7(pl:Pl)(l:List Pt):Nat->List Pt
  |0=>[]
  |m+1=>yH7 pl l m++(if sdZ pl (gp l m)<=0 then[gp l m] else[])++(if xP pl l m then[btw pl (gp l m) (nx l m)] else[])
noncomputable def yHA(pl:Pl)(l:List Pt):Nat->List Pt
  |0=>[]
  |m+1=>yHA pl l m++(if 0<=sdZ pl (gp l m) then[gp l m] else[])++(if xP pl l m then[btw pl (gp l m) (nx l m)] else[])
def yDL(pl:Pl)(l:List Pt):Nat->Prop
  |0=>False
  |m+1=>yDL pl l m\/sdZ pl (gp l m)<0
def zZE(pl:Pl)(l:List Pt):Nat->Prop
  |0=>False
  |m+1=>zZE pl l m\/0<sdZ pl (gp l m)
noncomputable def cutB(pl:Pl)(l:List Pt):List Pt:=if yDL pl l l.length\/¬zZE pl l l.length then yH7 pl l l.length else[]
noncomputable def cutF(pl:Pl)(l:List Pt):List Pt:=if zZE pl l l.length then yHA pl l l.length else[]
section
variable {pl:Pl}{l B:List Pt}{m:Nat}
noncomputable def bkH(pl:Pl)(l:List Pt)(m:Nat):List Pt:=yH7 pl l m++(if sdZ pl (gp l m)<=0 then[gp l m] else[])
noncomputable def frH(pl:Pl)(l:List Pt)(m:Nat):List Pt:=yHA pl l m++(if 0<=sdZ pl (gp l m) then[gp l m] else[])
end
def cJ(l:List Pt):Prop:=aE l 0 1->¬uQ l 0 1 l.length=0
theorem zCT{l:List Pt}(h:¬uQ l 0 1 l.length=0):cJ l:=λ_=>h
abbrev PI:=Int×Int
def crI(u v w:PI):Int:=(v.1-u.1)*(w.2-u.2)-(v.2-u.2)*(w.1-u.1)
def sgI(n:Int):Int:=if 0<n then 1 else if n<0 then -1 else 0
def orI(u v w:PI):Int:=sgI (crI u v w)
def lxI(u v:PI):Bool:=decide (u.1<v.1\/(u.1=v.1/\u.2<v.2))
def apI(a b c d:Int):Bool:=decide ((a<c/\a<d/\b<c/\b<d)\/(c<a/\d<a/\c<b/\d<b))
def alS(a b c d:PI):Int:=
 if lxI (if lxI d b then d else b) (if lxI a c then c else a) then 0 else if lxI (if lxI a c then c else a) (if lxI d b then d else b) then 3
 else if((if lxI a c then c else a)=a\/(if lxI a c then c else a)=b)/\((if lxI a c then c else a)=c\/(if lxI a c then c else a)=d) then 1 else 2
def alI(a b c d:PI):Int:=alS (if lxI b a then b else a) (if lxI b a then a else b) (if lxI d c then d else c) (if lxI d c then c else d)
def toI(a b c d:PI):Int:=
 if apI a.1 b.1 c.1 d.1\/apI a.2 b.2 c.2 d.2 then 0
 else if orI a b c=0/\orI a b d=0/\orI c d a=0/\orI c d b=0 then alI a b c d
 else if 0<orI a b c*orI a b d\/0<orI c d a*orI c d b then 0
 else if(orI a b c=0\/orI a b d=0)/\(orI c d a=0\/orI c d b=0) then 1 else 2
def af(x y r:Int)(u:PI):P2:=(((x+r*u.1:Int):Rat),((y+r*u.2:Int):Rat))
def rg(k:Nat):PI:=([(2,0),(2,1),(1,2),(-1,2),(-2,0),(-2,-1),(0,-2),(1,-1)]:List PI).getD k (0,0)
def gi(s:List Nat)(m:Nat):PI:=rg (s.getD m 0)
def arI(s:List Nat):Nat->Int
  |0=>0
  |m+1=>arI s m+((gi s m).1*(gi s ((m+1)%s.length)).2-(gi s ((m+1)%s.length)).1*(gi s m).2)
def waI(n p q:Nat):Int:=if q=p+1\/(p=0/\q+1=n) then 1 else 0
def badI(s:List Nat):Bool:=(List.range s.length).any λq=>(List.range q).any λp=>!decide (toI (gi s p) (gi s ((p+1)%s.length)) (gi s q) (gi s ((q+1)%s.length))=waI s.length p q)
def okI(s:List Nat):Bool:=decide (s.length<3)||!decide (arI s s.length=0)||badI s
def swI:List Nat->List Nat
  |a::b::l=>b::a::l
  |l=>l
def yIU:List Nat->List (List Nat)
  |[]=>[[]]
  |a::l=>yIU l++(yIU l).map (a::·)
def rp3(x y r:Int)(k:Nat):Pt:=T3.mk (((x+r*(rg k).1:Int)):Rat) (((y+r*(rg k).2:Int)):Rat) (0:Rat)
noncomputable def rgK(t:Prop)(i:Nat):Nat:=if t then 7-i else i
def rgF(x y r:Int)(t:Prop)(i:Nat)(l:List Pt):Prop:=∃s:List Nat,s.Sublist ((List.range i).map (rgK t))/\l=s.map (rp3 x y r)
def rvP(l0 l:List Pt)(i:Nat):Prop:=l.length=l0.length/\∀q,q<l0.length->gp l q=if q<i\/l0.length<=q+i then gp l0 (l0.length-1-q) else gp l0 q
theorem zYJ{a b:List Pt}{p q:Nat}:2<=mR (vV a 0 1 p) (vT a 0 1 p) (vV b 0 1 q) (vT b 0 1 q)↔w5 a b 0 1 p q:=by
 unfold w5;rw[zKW];omega
theorem zTY{a b:List Pt}{p q:Nat}(h:w5 a b 0 1 p q):w5 b a 0 1 q p:=by
 unfold w5 at *;rw[zEM];exact h
theorem oU{a b:List Pt}(h:gK a b 0 1):gK b a 0 1:=by
 obtain⟨p,q,D,C,h⟩:=h;exact⟨q,p,C,D,zTY h⟩
theorem yC5(a b:Pt):pr (T3.mk (zCJ a.x b.x) (zCJ a.y b.y) (0:Rat)) 0 1=zO9 (pr a 0 1) (pr b 0 1):=rfl
theorem zX6{l:List Pt}(hf:cJ l)(hs:aE l 0 1):¬yR (arZ l 0 1)=0:=λe=>hf hs (uP.1 e)
theorem yBY{L:List (List Pt)}(h:∀x,x∈L->cJ x)(m:Nat):cJ (gl L m):=by
 show cJ (L.getD m [])
 rw[List.getD_eq_getElem?_getD]
 rcases Nat.lt_or_ge m L.length with h1|h1
 · rw[List.getElem?_eq_getElem h1]
   exact h _ (List.getElem_mem h1)
 · rw[List.getElem?_eq_none h1]
   exactλe=>absurd e.1 zod
theorem yF1{L:List (List Pt)}{m:Nat}(h:yR (uQ (gl L m) 0 1 (gl L m).length)<0):tT L 0 1 m L.length=pZ L 0 1 m:=by
 have h1:yR (arZ (gl L m) 0 1)<0:=h;unfold pZ;rw[if_neg zoa]
theorem zVX{L:List (List Pt)}{m:Nat}(hf:∀x,x∈L->cJ x)(hs:aE (gl L m) 0 1)(h:¬yR (uQ (gl L m) 0 1 (gl L m).length)<0):0<yR (arZ (gl L m) 0 1):=by
 have h1:¬yR (arZ (gl L m) 0 1)<0:=h;have h2:=zX6 (yBY hf m) hs;omega
theorem yF0{L:List (List Pt)}{m:Nat}(hf:∀x,x∈L->cJ x)(hs:aE (gl L m) 0 1)(h:¬yR (uQ (gl L m) 0 1 (gl L m).length)<0):-1=pZ L 0 1 m:=by
 unfold pZ;rw[if_pos (zVX hf hs h)]
theorem zIM{O:List Int}{m:Nat}{f:Nat->Int}{p:Int}(hl:O.length=m)(h:∀q,q<m->O.getD q 0=f q)(hp:p=f m):(O++[p]).length=m+1/\∀q,q<m+1->(O++[p]).getD q 0=f q:=by
 refine⟨by rw[lAz,hl];rfl,λq C=>?_⟩;rw[List.getD_eq_getElem?_getD]
 by_cases e:q=m
 · subst e
   rw[List.getElem?_append_right zoa,hl,Nat.sub_self];exact hp
 · rw[List.getElem?_append_left zoa,<-List.getD_eq_getElem?_getD]
   exact h q zoa
theorem yGB{L:List (List Pt)}{a:Nat}(h:0<yR (arZ (gl L a) 0 1)):¬eE L 0 1 a/\∀b,b<L.length->¬zB4 L 0 1 a b:=by
 refine⟨λe=>e.1 h,λb _ e=>?_⟩;have h1:=e.1.1.2;have h2:pZ L 0 1 a= -1:=by unfold pZ;rw[if_pos h]
 omega
theorem yG8{L:List (List Pt)}{m:Nat}(hf:∀x,x∈L->cJ x)(hs:aE (gl L m) 0 1)(h:0<=yR (uQ (gl L m) 0 1 (gl L m).length)):0<yR (arZ (gl L m) 0 1):=zVX hf hs zoa
theorem zQX{L:List (List Pt)}{a:Nat}{o:Int}(h:¬0<=yR (uQ (gl L a) 0 1 (gl L a).length))(ho:o=pZ L 0 1 a)(h1:o<0):eE L 0 1 a:=by
 have h2:yR (arZ (gl L a) 0 1)<0:=Int.not_le.1 h;refine⟨by omega,?_⟩;rw[ho] at h1;unfold pZ at h1;rw[if_neg zoa] at h1;exact h1
theorem zA7{L:List (List Pt)}{a:Nat}{o:Int}(ho:o=pZ L 0 1 a)(h1:¬o<0):¬eE L 0 1 a:=λe=>by
 rw[ho] at h1;unfold pZ at h1;rw[if_neg e.1] at h1;exact h1 e.2
abbrev Fc:=(Pt×Rat)×List (List Int)×List Nat
abbrev En:=Int×Int×Rat
abbrev Sd:=List Pt×List Fc×List En
abbrev zSO:Pt×Rat:=(zT,(0:Rat))
abbrev zA:Fc:=(zSO,([]:List (List Int)),([]:List Nat))
def nmL(n:Nat)(x:List Int):Prop:=∀k,k<x.length->0<=(x.getD k 0)/\(x.getD k 0)<n
def nmP(s:Sd)(f:Nat):Prop:=∀l,l<((s.2.1.getD f zA).2.1).length->nmL s.1.length ((((s.2.1.getD f zA).2.1).getD l []))
def vO(s:Sd):List (List (List Int)):=qG (λf=>(s.2.1.getD f zA).2.1) s.2.1.length
theorem sP(s:Sd):(vO s).length=s.2.1.length:=yZ _ _
theorem mE{s:Sd}{f:Nat}(h:f<s.2.1.length):((vO s).getD f [])=(s.2.1.getD f zA).2.1:=qF _ _ h
def zE5(ps:List Pt)(x:List Int):Nat->List Pt:=qG λk=>gp ps ((x.getD k 0)).toNat
def zGP(s:Sd)(f:Nat):Nat->List (List Pt):=qG λl=>zE5 s.1 ((((s.2.1.getD f zA).2.1).getD l [])) ((((s.2.1.getD f zA).2.1).getD l [])).length
noncomputable def xG(s:Sd)(f:Int):List (List Pt):=if(0<=f/\f<s.2.1.length)/\nmP s f.toNat then zGP s f.toNat ((s.2.1.getD f.toNat zA).2.1).length else[]
theorem yCC{s:Sd}{f:Int}(h:∀f,f<s.2.1.length->(s.2.1.getD f zA).2.1.length<=10000/\∀l,l<(s.2.1.getD f zA).2.1.length->((s.2.1.getD f zA).2.1.getD l []).length<=10000):(xG s f).length<=10000/\∀l,((xG s f).getD l []).length<=10000:=by
 unfold xG
 split
 · rename_i hf
   have h1:=h f.toNat zoa;have h2:(zGP s f.toNat (s.2.1.getD f.toNat zA).2.1.length).length=(s.2.1.getD f.toNat zA).2.1.length:=yZ _ _;refine⟨by omega,λl=>?_⟩
   rcases Nat.lt_or_ge l (s.2.1.getD f.toNat zA).2.1.length with h3|h3
   · unfold zGP
     rw[qF _ _ h3];unfold zE5;rw[yZ];exact h1.2 l h3
   · rw[List.getD_eq_getElem?_getD,List.getElem?_eq_none zoa];exact Nat.zero_le _
 · exact⟨Nat.zero_le _,λl=>Nat.zero_le _⟩
noncomputable def flA(pl:Pl)(l:List Pt):Nat->List Pt:=qG λi=>qC pl (gp l i)
noncomputable def flL(pl:Pl)(L:List (List Pt)):Nat->List (List Pt):=qG λi=>flA pl (gl L i) (gl L i).length
noncomputable def gJ(s:Sd)(f:Nat):List (List Pt):=flL ((s.2.1.getD f zA)).1 (xG s f) (xG s f).length
def dg(kind face loop edge:Int):E5:=(kind,(-1:Int),face,loop,edge)
def szP(s:Sd)(f:Nat):Prop:=¬vfP ((s.2.1.getD f zA).2.1)\/¬nmP s f
def zNF(s:Sd):Prop:=(512<s.1.length\/256<s.2.1.length)\/1024<s.2.2.length
noncomputable def yEZ(s:Sd):Nat->List E5:=cH (szP s) λf=>dg 1 f (-1) (-1)
noncomputable def szZ(s:Sd):List E5:=if zNF s then yEZ s s.2.1.length++[dg 2 (-1) (-1) (-1)] else yEZ s s.2.1.length
def twP(s:Sd)(i:Nat):Prop:=∃k,k<i/\gp s.1 i=gp s.1 k
noncomputable def zKV(s:Sd):Nat->List E5:=cH (twP s) λi=>dg 37 (-1) (-1) i
def zrP(s:Sd)(f:Nat):Prop:=((s.2.1.getD f zA)).1.1=zT
noncomputable def zRX(s:Sd):Nat->List E5:=cH (zrP s) λf=>dg 9 f (-1) (-1)
def ofP(s:Sd)(f l k:Nat):Prop:=¬sdZ ((s.2.1.getD f zA)).1 (gp (gl (xG s f) l) k)=0
noncomputable def ofX(s:Sd)(f l:Nat):Nat->List E5:=cH (ofP s f l) λk=>dg 31 f l k
noncomputable def ofL(s:Sd)(f:Nat):Nat->List E5:=tO λl=>ofX s f l (gl (xG s f) l).length
noncomputable def zOP(s:Sd):Nat->List E5:=tO λf=>ofL s f (xG s f).length
theorem cW{s:Sd}{f:Int}(h:∀f,f<s.2.1.length->(s.2.1.getD f zA).2.1.length<=16/\∀l,l<(s.2.1.getD f zA).2.1.length->((s.2.1.getD f zA).2.1.getD l []).length<=64):(xG s f).length<=16/\∀l,((xG s f).getD l []).length<=64:=by
 unfold xG
 split
 · rename_i hf
   have h1:=h f.toNat zoa;have h2:(zGP s f.toNat (s.2.1.getD f.toNat zA).2.1.length).length=(s.2.1.getD f.toNat zA).2.1.length:=yZ _ _;refine⟨by omega,λl=>?_⟩
   rcases Nat.lt_or_ge l (s.2.1.getD f.toNat zA).2.1.length with h3|h3
   · unfold zGP
     rw[qF _ _ h3];unfold zE5;rw[yZ];exact h1.2 l h3
   · rw[List.getD_eq_getElem?_getD,List.getElem?_eq_none zoa];exact Nat.zero_le _
 · exact⟨Nat.zero_le _,λl=>Nat.zero_le _⟩
section
variable {s:Sd}(h:∀f,f<s.2.1.length->(s.2.1.getD f zA).2.1.length<=16/\∀l,l<(s.2.1.getD f zA).2.1.length->((s.2.1.getD f zA).2.1.getD l []).length<=64)
include h
theorem zFF(f:Nat):∀l,(ofL s f l).length<=64*l
  |0=>Nat.le_refl _
  |l+1=>by
   have h1:=zFF f l;have h2:(ofX s f l ((xG s f).getD l []).length).length<=((xG s f).getD l []).length:=pQ _ _ _;have h3:=(cW (f:=↑f) h).2 l
   show List.length (ofL s f l++ofX s f l ((xG s f).getD l []).length)<=_
   rw[lAz];omega
theorem zWH:∀f,f<=s.2.1.length->(zOP s f).length<=1024*f
  |0,_=>Nat.le_refl _
  |f+1,hf=>by
   have h1:=zWH f zoa;have h2:=zFF h f (xG s f).length;have h3:=(cW (f:=↑f) h).1
   show List.length (zOP s f++ofL s f (xG s f).length)<=_
   rw[lAz];omega
end
noncomputable def plZ(s:Sd):List E5:=if 0<(zRX s s.2.1.length).length then zRX s s.2.1.length else zOP s s.2.1.length
noncomputable def j4(L:List (List Pt)):Nat->Int
  |0=>0
  |m+1=>if 0<yR (arZ (gl L m) 0 1) then j4 L m+1 else j4 L m
theorem zAY(L:List (List Pt)):∀m,0<=j4 L m/\j4 L m<=m
  |0=>by unfold j4;omega
  |m+1=>by
   have h:=zAY L m;unfold j4
   split<;>omega
theorem ou_t{L:List (List Pt)}{m:Nat}(h:0<yR (arZ (gl L m) 0 1)):j4 L m+1=j4 L (m+1):=(if_pos h).symm
theorem ou_f{L:List (List Pt)}{m:Nat}(h:¬0<yR (arZ (gl L m) 0 1)):j4 L m=j4 L (m+1):=(if_neg h).symm
noncomputable def ouZ(L:List (List Pt)):Int:=j4 L L.length
def bnP(s:Sd)(f:Nat):Prop:=¬vZ (gJ s f) 0 1=0
noncomputable def zYX(s:Sd):Nat->List E5:=cH (bnP s) λf=>dg (vZ (gJ s f) 0 1) f (-1) (-1)
def mnP(s:Sd)(f:Nat):Prop:=¬ouZ (gJ s f)=1
noncomputable def yGE(s:Sd):Nat->List E5:=cH (mnP s) λf=>dg 33 f (-1) (-1)
noncomputable def neZ(s:Sd):List E5:=if 0<(zYX s s.2.1.length).length then zYX s s.2.1.length else yGE s s.2.1.length
theorem zME(L:List (List Pt))(i j:Nat):0<=vZ L i j/\vZ L i j<=33:=by
 unfold vZ
 repeat' split
 all_goals decide
theorem dP(s:Sd)(f:Nat):(gJ s f).length=(xG s ↑f).length/\∀l,((gJ s f).getD l []).length=((xG s ↑f).getD l []).length:=by
 have h1:(gJ s f).length=(xG s ↑f).length:=yZ _ _;refine⟨h1,λl=>?_⟩
 rcases Nat.lt_or_ge l (xG s ↑f).length with h|h
 · unfold gJ flL
   rw[qF _ _ h];exact yZ _ _
 · rw[List.getD_eq_getElem?_getD,List.getD_eq_getElem?_getD,List.getElem?_eq_none zoa,List.getElem?_eq_none h]
def okS(s:Sd):Prop:=((s.1.length<=1000/\s.2.1.length<=1000)/\s.2.2.length<=2000)/\(∀f,f<s.2.1.length->(s.2.1.getD f zA).2.1.length<=16/\∀l,l<(s.2.1.getD f zA).2.1.length->((s.2.1.getD f zA).2.1.getD l []).length<=64)/\∀f,f<s.2.1.length->∀x,x∈gJ s f->cJ x
theorem okS.big{s:Sd}(h:okS s):∀f,f<s.2.1.length->(s.2.1.getD f zA).2.1.length<=10000/\∀l,l<(s.2.1.getD f zA).2.1.length->((s.2.1.getD f zA).2.1.getD l []).length<=10000:=λf hf=>⟨Nat.le_trans (h.2.1 f hf).1 zod,λl hl=>Nat.le_trans ((h.2.1 f hf).2 l hl) zod⟩
theorem okS.mem{s:Sd}(h:okS s):∀f,f<s.2.1.length->(s.2.1.getD f zA).2.1.length<=100000/\∀x,x∈(s.2.1.getD f zA).2.1->x.length<=100000:=λf hf=>⟨Nat.le_trans (h.2.1 f hf).1 zod,λx hx=>by
 obtain⟨m,hm,e⟩:=List.getElem_of_mem hx;have:=(h.2.1 f hf).2 m hm;rw[List.getD_eq_getElem?_getD,List.getElem?_eq_getElem hm] at this;rw[<-e];exact Nat.le_trans this zod⟩
noncomputable def zYP(s:Sd):List E5:=if 0<(szZ s).length then szZ s else if 0<(zKV s s.1.length).length then zKV s s.1.length else if 0<(plZ s).length then plZ s else if 0<(neZ s).length then neZ s else clZ (vO s)
def gC(s:Sd):Prop:=(zYP s).length=0
def lsP(p q:Pt):Prop:=p.x<q.x\/(p.x=q.x/\(p.y<q.y\/(p.y=q.y/\p.z<q.z)))
def cE:List Int->List Int->Int
  |[],[]=>0
  |[],_::_=>-1
  |_::_,[]=>1
  |x::a,y::b=>if x=y then cE a b else if x<y then -1 else 1
theorem zRJ{i:Nat}:∀{a b:List Int},(∀u,u<i->(a.getD u 0)=(b.getD u 0))->i<a.length->i<b.length->¬(a.getD i 0)=(b.getD i 0)->cE a b=if(a.getD i 0)<(b.getD i 0) then -1 else 1:=by
 induction i with
 |zero=>
  intro a b _ ha hb hne
  match a,b,ha,hb with
  |x::a,y::b,_,_=>exact if_neg hne
 |succ i ih=>
  intro a b h ha hb hne
  match a,b,ha,hb with
  |x::a,y::b,ha,hb=>
   have h0:x=y:=h 0 zoa
   show(if x=y then cE a b else _)=_
   rw[if_pos h0];exact ih (λu hu=>h (u+1) zoa) (by simpa using ha) (by simpa using hb) hne
theorem zGT{i:Nat}:∀{a b:List Int},(∀u,u<i->(a.getD u 0)=(b.getD u 0))->i=min a.length b.length->cE a b=if a.length<b.length then -1 else if b.length<a.length then 1 else 0:=by
 induction i with
 |zero=>
  intro a b _ he
  match a,b with
  |[],[]=>rfl
  |[],_::_=>rfl
  |_::_,[]=>rfl
  |_::_,_::_=>simp at he
 |succ i ih=>
  intro a b h he
  match a,b with
  |[],_=>simp at he
  |_::_,[]=>simp at he
  |x::a,y::b=>
   have h0:x=y:=h 0 zoa
   show(if x=y then cE a b else _)=_
   rw[if_pos h0,ih (λu hu=>h (u+1) zoa) (by simp at he;omega)];simp only[lC,Nat.add_lt_add_iff_right]
theorem s8:∀a b:List Int,-1<=cE a b/\cE a b<=1
  |[],[]=>⟨by show(-1:Int)<=0;decide,by show(0:Int)<=1;decide⟩
  |[],_::_=>⟨by show(-1:Int)<= -1;decide,by show(-1:Int)<=1;decide⟩
  |_::_,[]=>⟨by show(-1:Int)<=1;decide,by show(1:Int)<=1;decide⟩
  |x::a,y::b=>by
   show -1<=(if x=y then cE a b else if x<y then -1 else 1)/\(if x=y then cE a b else if x<y then -1 else 1)<=1
   split
   · exact s8 a b
   · split<;>decide
def cI(x:List Int):Nat->Nat
  |0=>0
  |m+1=>if(x.getD m 0)<(x.getD (cI x m) 0) then m else cI x m
theorem yC4(x:List Int):∀m,cI x m<m\/cI x m=0
  |0=>.inr rfl
  |m+1=>by
   have h:=yC4 x m;unfold cI
   split<;>omega
theorem mn_t{x:List Int}{m:Nat}(h:(x.getD m 0)<(x.getD (cI x m) 0)):m=cI x (m+1):=(if_pos h).symm
theorem mn_f{x:List Int}{m:Nat}(h:¬(x.getD m 0)<(x.getD (cI x m) 0)):cI x m=cI x (m+1):=(if_neg h).symm
def zSG(x:List Int):List Int:=x.drop (cI x x.length)++x.take (cI x x.length)
def zTJ:List (List Int)->List (List Int)->Prop
  |[],[]=>False
  |[],_::_=>True
  |_::_,[]=>False
  |x::a,y::b=>if cE x y=0 then zTJ a b else cE x y<0
theorem yBJ{i:Nat}:∀{a b:List (List Int)},(∀u,u<i->cE ((a.getD u [])) ((b.getD u []))=0)->i<a.length->i<b.length->¬cE ((a.getD i [])) ((b.getD i []))=0->(zTJ a b↔cE ((a.getD i [])) ((b.getD i []))<0):=by
 induction i with
 |zero=>
  intro a b _ ha hb hne
  match a,b,ha,hb with
  |x::a,y::b,_,_=>exact Iff.of_eq (if_neg hne)
 |succ i ih=>
  intro a b h ha hb hne
  match a,b,ha,hb with
  |x::a,y::b,ha,hb=>
   have h0:cE x y=0:=h 0 zoa
   show(if cE x y=0 then zTJ a b else _)↔_
   rw[if_pos h0];exact ih (λu hu=>h (u+1) zoa) (by simpa using ha) (by simpa using hb) hne
theorem zXB{i:Nat}:∀{a b:List (List Int)},(∀u,u<i->cE ((a.getD u [])) ((b.getD u []))=0)->i=min a.length b.length->(zTJ a b↔a.length<b.length):=by
 induction i with
 |zero=>
  intro a b _ he
  match a,b with
  |[],[]=>exact⟨False.elim,λh=>absurd h (Nat.lt_irrefl _)⟩
  |[],_::_=>exact⟨λ_=>Nat.zero_lt_succ _,λ_=>trivial⟩
  |_::_,[]=>exact⟨False.elim,λh=>absurd h (Nat.not_lt_zero _)⟩
  |_::_,_::_=>simp at he
 |succ i ih=>
  intro a b h he
  match a,b with
  |[],_=>simp at he
  |_::_,[]=>simp at he
  |x::a,y::b=>
   have h0:cE x y=0:=h 0 zoa
   show(if cE x y=0 then zTJ a b else _)↔_
   rw[if_pos h0,ih (λu hu=>h (u+1) zoa) (by simp at he;omega)];simp only[lC,Nat.add_lt_add_iff_right]
def lsF(a b:Fc):Prop:=if a.2.2=b.2.2 then zTJ a.2.1 b.2.1 else lsN a.2.2 b.2.2
theorem ls_x{p q:Pt}(h:¬xT p.x q.x=0):xT p.x q.x<0↔lsP p q:=by
 unfold lsP;rw[mI];rw[aS] at h;exact⟨.inl,λe=>e.elim id λe=>absurd e.1 h⟩
theorem ls_y{p q:Pt}(h:xT p.x q.x=0)(h2:¬xT p.y q.y=0):xT p.y q.y<0↔lsP p q:=by
 unfold lsP;rw[mI];rw[aS] at h h2;have:=@Rat.lt_irrefl p.x;exact⟨λe=>.inr ⟨h,.inl e⟩,λe=>e.elim (λe=>absurd (h▸e) this) λe=>e.2.elim id λe=>absurd e.1 h2⟩
theorem ls_z{p q:Pt}(h:xT p.x q.x=0)(h2:xT p.y q.y=0)(h3:¬xT p.z q.z=0):xT p.z q.z<0↔lsP p q:=by
 unfold lsP;rw[mI];rw[aS] at h h2;have D:=@Rat.lt_irrefl p.x;have C:=@Rat.lt_irrefl p.y;exact⟨λe=>.inr ⟨h,.inr ⟨h2,e⟩⟩,λe=>e.elim (λe=>absurd (h▸e) D) λe=>e.2.elim (λe=>absurd (h2▸e) C) λe=>e.2⟩
theorem yJP{p q:Pt}(h:xT p.x q.x=0)(h2:xT p.y q.y=0)(h3:xT p.z q.z=0):¬lsP p q:=by
 rw[aS] at h h2 h3;have G:=@Rat.lt_irrefl p.x;have D:=@Rat.lt_irrefl p.y;have C:=@Rat.lt_irrefl p.z;exactλe=>e.elim (λe=>absurd (h▸e) G) λe=>e.2.elim (λe=>absurd (h2▸e) D) λe=>absurd (h3▸e.2) C
theorem yJR{p q:Pt}{i:Nat}(hi:i<3)(h:∀u,u<i->xT (p.at u) (q.at u)=0)(hn:¬xT (p.at i) (q.at i)=0):xT (p.at i) (q.at i)<0↔lsP p q:=by
 match i,hi with
 |0,_=>exact ls_x hn
 |1,_=>exact ls_y (h 0 zod) hn
 |2,_=>exact ls_z (h 0 zod) (h 1 zod) hn
theorem yGJ{p q:Pt}(h:∀u,u<3->xT (p.at u) (q.at u)=0):¬lsP p q:=yJP (h 0 zod) (h 1 zod) (h 2 zod)
noncomputable def ivA(x:Rat):Rat:=if iQ x=0 then 0 else((1:Int):Rat)/iQ x
noncomputable def scW(r:Rat)(pl:Pl):Pl:=(T3.mk (r*pl.1.x) (r*pl.1.y) (r*pl.1.z),r*pl.2)
noncomputable def scZ(pl:Pl):Pl:=if ¬yR pl.1.x=0 then scW (ivA pl.1.x) pl else if ¬yR pl.1.y=0 then scW (ivA pl.1.y) pl else if ¬yR pl.1.z=0 then scW (ivA pl.1.z) pl else zSO
theorem yI6{pl:Pl}{i:Nat}(hi:i<3)(h:∀u,u<i->yR (pl.1.at u)=0)(hn:¬yR (pl.1.at i)=0):scW (ivA (pl.1.at i)) pl=scZ pl:=by
 unfold scZ
 match i,hi with
 |0,_=>exact(if_pos hn).symm
 |1,_=>exact((if_neg (λe=>e (h 0 zod))).trans (if_pos hn)).symm
 |2,_=>exact((if_neg (λe=>e (h 0 zod))).trans ((if_neg (λe=>e (h 1 zod))).trans (if_pos hn))).symm
theorem yFO{pl:Pl}(h:∀u,u<3->yR (pl.1.at u)=0):zSO=scZ pl:=by
 unfold scZ;exact((if_neg (λe=>e (h 0 zod))).trans ((if_neg (λe=>e (h 1 zod))).trans (if_neg (λe=>e (h 2 zod))))).symm
def zK9(x:List Int):Nat->List Int:=qG λi=>x.getD (x.length-1-i) 0
def zI1(E:List E5)(m i:Nat):Prop:=∃q,q<m/\(E.getD q ((0:Int),(0:Int),(0:Int),(0:Int),(0:Int))).1=(i:Int)
theorem zUC{E:List E5}{m n:Nat}{U:List Prop}(hl:U.length=n)(h:∀u,u<n->(U.getD u False↔zI1 E m u))(h0:0<=(E.getD m ((0:Int),(0:Int),(0:Int),(0:Int),(0:Int))).1)(h1:(E.getD m ((0:Int),(0:Int),(0:Int),(0:Int),(0:Int))).1<n):∀u,u<n->((U.set (E.getD m ((0:Int),(0:Int),(0:Int),(0:Int),(0:Int))).1.toNat True).getD u False↔zI1 E (m+1) u):=by
 intro u D;rw[List.getD_eq_getElem?_getD,List.getElem?_set];have hx:zI1 E (m+1) u↔zI1 E m u\/(E.getD m ((0:Int),(0:Int),(0:Int),(0:Int),(0:Int))).1=(u:Int):=by
  constructor
  · rintro⟨q,C,e⟩
    rcases Nat.lt_succ_iff_lt_or_eq.1 C with h|h
    · exact .inl ⟨q,h,e⟩
    · subst h;exact .inr e
  · rintro(⟨q,C,e⟩|e)
    · exact⟨q,by omega,e⟩
    · exact⟨m,by omega,e⟩
 rw[hx]
 split
 · rename_i e
   rw[if_pos zoa];exact⟨λ_=>.inr zoa,λ_=>trivial⟩
 · rename_i e
   have:=h u D;rw[List.getD_eq_getElem?_getD] at this;rw[this];exact⟨.inl,λh=>h.resolve_right zoa⟩
def nmA(s:Sd):Prop:=∀f,f<s.2.1.length->nmP s f
theorem zTT{s:Sd}(h:nmA s){q:Nat}(hq:q<(edZ (vO s)).length):0<=((edZ (vO s)).getD q ((0:Int),(0:Int),(0:Int),(0:Int),(0:Int))).1/\((edZ (vO s)).getD q ((0:Int),(0:Int),(0:Int),(0:Int),(0:Int))).1<s.1.length:=by
 have C:=kY (d:=((0:Int),(0:Int),(0:Int),(0:Int),(0:Int))) hq;generalize (edZ (vO s)).getD q ((0:Int),(0:Int),(0:Int),(0:Int),(0:Int))=e at C ⊢;obtain⟨f,D,C⟩:=zGI C;obtain⟨l,G,C⟩:=zGI C;obtain⟨i,hi,rfl⟩:=zQT C;rw[sP] at D;have H:(vO s).getD f []=(s.2.1.getD f zA).2.1:=qF _ _ D;rw[H] at G hi ⊢;exact h f D l G i hi
theorem yB5{s:Sd}(h:okS s):(edZ (vO s)).length<=1100000:=by
 have h1:=zBP (F:=vO s) (λf C=>by rw[sP] at C;rw[mE C];exact h.2.1 f C) _ (Nat.le_refl _);rw[sP] at h1;have h2:=h.1.1.2
 show(edF (vO s) (vO s).length).length<=_
 rw[sP];omega
def zST(s:Sd)(out:List Int)(i k:Nat):Prop:=lsP (gp s.1 i) (gp s.1 (out.getD k 0).toNat)
noncomputable def aG(s:Sd):Nat->List Int
  |0=>[]
  |i+1=>if zI1 (edZ (vO s)) (edZ (vO s)).length i then iK (aG s i) (aK (zST s (aG s i) i) (aG s i).length) (i:Int) else aG s i
theorem zON(s:Sd):∀i,(aG s i).length<=i
  |0=>Nat.le_refl _
  |i+1=>by
   have:=zON s i;unfold aG
   split
   · rw[zGB _ _ (zEE _ _)];omega
   · omega
theorem zJP{s:Sd}{x:Int}:∀{i},x∈aG s i->0<=x/\x<i
  |0,h=>absurd h List.not_mem_nil
  |i+1,h=>by
   unfold aG at h
   split at h
   · unfold iK at h
     rcases List.mem_append.1 h with h|h
     · have:=zJP (List.mem_of_mem_take h);omega
     · rcases List.mem_cons.1 h with rfl|h
       · omega
       · have:=zJP (List.mem_of_mem_drop h);omega
   · have:=zJP h;omega
theorem mZ{s:Sd}{i k:Nat}(h:k<(aG s i).length):0<=(aG s i).getD k 0/\(aG s i).getD k 0<i:=zJP (kY h)
def nwL(s:Sd)(ix:List Int)(f i:Nat):Nat->List Int:=qG λq=>ix.getD (((s.2.1.getD f zA).2.1.getD i []).getD q 0).toNat 0
def nfL(s:Sd)(ix:List Int)(f i:Nat):List Int:=zSG (nwL s ix f i ((s.2.1.getD f zA).2.1.getD i []).length)
def zDO(s:Sd)(f i:Nat):Prop:=0<yR (arZ (gl (gJ s f) i) 0 1)
noncomputable def ouL(s:Sd)(ix:List Int)(f:Nat):Nat->List (List Int):=cH (zDO s f) (nfL s ix f)
def zXV(l:List Int)(D:List (List Int))(k:Nat):Prop:=cE l (D.getD k [])<0
noncomputable def s6(s:Sd)(ix:List Int)(f:Nat):Nat->List (List Int)
  |0=>[]
  |i+1=>if zDO s f i then s6 s ix f i else iK (s6 s ix f i) (aK (zXV (nfL s ix f i) (s6 s ix f i)) (s6 s ix f i).length) (nfL s ix f i)
theorem zPM(s:Sd)(ix:List Int)(f:Nat):∀i,(s6 s ix f i).length<=i
  |0=>Nat.le_refl _
  |i+1=>by
   have:=zPM s ix f i;unfold s6
   split
   · omega
   · rw[zGB _ _ (zEE _ _)];omega
noncomputable def nfF(s:Sd)(ix:List Int)(f:Nat):Fc:=(scZ (s.2.1.getD f zA).1,ouL s ix f (s.2.1.getD f zA).2.1.length++s6 s ix f (s.2.1.getD f zA).2.1.length,(s.2.1.getD f zA).2.2)
theorem zPR{s:Sd}{f:Nat}(hf:f<s.2.1.length)(h:nmP s f):xG s ↑f=zGP s f (s.2.1.getD f zA).2.1.length:=if_pos ⟨by omega,h⟩
theorem yHC{s:Sd}{f:Nat}(hf:f<s.2.1.length)(h:nmP s f):(gJ s f).length=(s.2.1.getD f zA).2.1.length:=by
 rw[(dP s f).1,zPR hf h];exact yZ _ _
noncomputable def fL(s:Sd):List Int:=aG s s.1.length
noncomputable def zHD(s:Sd):Nat->List Int
  |0=>List.replicate s.1.length (0:Int)
  |i+1=>(zHD s i).set ((fL s).getD i 0).toNat (i:Int)
theorem zCN(s:Sd):∀i,(zHD s i).length=s.1.length
  |0=>List.length_replicate
  |i+1=>by unfold zHD;rw[lS];exact zCN s i
noncomputable def ixZ(s:Sd):List Int:=zHD s (fL s).length
noncomputable def zWS(s:Sd):Nat->List Pt:=qG λi=>gp s.1 ((fL s).getD i 0).toNat
def zPD(x:Fc)(D:List Fc)(k:Nat):Prop:=lsF x (D.getD k zA)
noncomputable def j8(s:Sd):Nat->List Fc
  |0=>[]
  |f+1=>iK (j8 s f) (aK (zPD (nfF s (ixZ s) f) (j8 s f)) (j8 s f).length) (nfF s (ixZ s) f)
theorem zO2(s:Sd):∀f,(j8 s f).length=f
  |0=>rfl
  |f+1=>by
   unfold j8;rw[zGB _ _ (zEE _ _),zO2 s f]
noncomputable def nrP(s:Sd):List Pt:=if gC s then zWS s (fL s).length else[]
noncomputable def nrF(s:Sd):List Fc:=if gC s then j8 s s.2.1.length else[]
noncomputable def nrE(s:Sd):List En:=if gC s then s.2.2 else[]
theorem yE1{s:Sd}(h:gC s):nmA s:=by
 have h1:(szZ s).length=0:=by
  unfold gC zYP at h
  split at h
  · omega
  · omega
 have h2:szZ s=[]:=List.eq_nil_of_length_eq_zero h1;unfold szZ at h2
 split at h2
 · exact absurd h2 zoj
 · intro f C
   exact Classical.byContradiction λe=>(dA _).1 h2 f C (.inr e)
theorem zFT{s:Sd}(h:okS s){ix:List Int}{f:Nat}(hf:f<s.2.1.length):(nfF s ix f).2.1.length<=100:=by
 have h1:=pQ (zDO s f) (nfL s ix f) (s.2.1.getD f zA).2.1.length;have h2:=zPM s ix f (s.2.1.getD f zA).2.1.length;have h3:=(h.2.1 f hf).1
 show List.length (ouL s ix f _++s6 s ix f _)<=_
 rw[lAz];have C:(ouL s ix f (s.2.1.getD f zA).2.1.length).length<=(s.2.1.getD f zA).2.1.length:=h1;omega
theorem zXR{α:Type}{p:α->Prop}{l:List α}{k:Nat}{x:α}(h:∀y,y∈l->p y)(hx:p x):∀y,y∈iK l k x->p y:=by
 intro y hy;unfold iK at hy
 rcases List.mem_append.1 hy with hy|hy
 · exact h y (List.mem_of_mem_take hy)
 · rcases List.mem_cons.1 hy with rfl|hy
   · exact hx
   · exact h y (List.mem_of_mem_drop hy)
theorem zWP{s:Sd}(h:okS s):∀f,f<=s.2.1.length->∀x,x∈j8 s f->x.2.1.length<=100
  |0,_,x,hx=>absurd hx List.not_mem_nil
  |f+1,hf,x,hx=>zXR (p:=λx:Fc=>x.2.1.length<=100) (zWP h f zoa) (zFT h zoa) x hx
end Bk
namespace Go.Proofs.YtpkaegemlpaenaaGreat
open Bk Go Tryz
set_option maxRecDepth 10000
set_option maxHeartbeats 1000000
attribute [local irreducible] GL GC GQ W OpV
section
variable{w0:World}{h0:Mem}(hs:MLe h0 (mem w0))
include hs
theorem zG7{vL:Value}{L:(List (List Int))}(rL:tII.Is h0 vL L)(hcd0:L.length<=100000)(hcd1:∀x,x∈L->x.length<=100000):
 Calls Tryz.prog 99 #[vL] w0 (Ret w0 h0 (λh r=>tII.Is h r L)):=by
 refine cb1 20 vL func99 hs ?_;refine mF ?_;refine xM 22 1 ?_;have Z:=RL.nil (ρ:=rpS rpI) (h:=h0);refine gcL (ι:=Nat×List (List Int)×Value×List Value×Mem) (λ(i,D,C,G,mi)=>(MLe h0 mi/\(RL (rpS rpI) mi G D/\i<=L.length/\D=L.take i),[(0,vL),(3,C),(4,vI ↑i)],[.gs 22 1 C D.length G],mi,L.length-i)) (0,[],(.slice none 0 0),[],h0) ?_ ?_
 · exact⟨mle,Z,by omega,I⟩
 rintro⟨i,D,C,G,mi⟩ ⟨am,H,az,hD⟩
 refine yX ?_;have bb:=zX0 hcd1 i;have ay:D.length<=i:=by rw[hD,List.length_take];omega
 refine gc9 (λak=>?_) λak=>?_
 ·
  refine go8 ?_;refine lX (xI [] i underlying51 tF rL) λau ai=>(lX (xA tF ai) λar ah=>(zIJ 3 1 ?_));have U:=RL.nil (ρ:=rpI) (h:=mi);refine xS (A:=[]) (zV (ρ:=rpI) (bytes:=8) underlying22 jX I I I I nP I I U ah bO bO) I I I ?_
  rintro aq ax ⟨ao,rfl,ac⟩
  refine zS (A:=[]) (ρ:=rpI) ac ?_;intro h1 aj O;refine zI (zL (ρ:=(rpS rpI)) (m:=1) (xs:=[(([]:List Int)++(L.getD i []))]) (ps':=[(0,_)]) underlying51 jE I I I wN e2z (zD I (Pc.arr (Pc.here _) [] 0 dC) O zO) (show 1*1<=16777216 from by decide) nP) I I I ?_
  rintro ap aw ⟨an,rfl,ab⟩
  refine zS (A:=[]) (ρ:=(rpS rpI)) ab ?_;intro h2 ba M;refine xS (A:=[]) (zV (ρ:=(rpS rpI)) (bytes:=24) underlying51 jE I I I I nP I I H.up M bO bO) I I I ?_
  rintro ae av ⟨ad,rfl,aa⟩
  refine go9 ?_;refine gqL ((i+1),(D++[(([]:List Int)++(L.getD i []))]),ae,ad,h2) ?_ ?_
  · exact⟨mle,aa,by omega,by rw[hD,List.nil_append];exact(zR1 [] oM).symm⟩
  omega
 have ei:i=L.length:=by omega
 refine uS ?_;refine wO (A:=[]) (ρ:=(rpS rpI)) H.up ?_;intro h1 aj J;refine zC I I ?_;exact(Rp.Is.cast J (by rw[hD,ei,List.take_length]))
theorem zH7{k m n j:Nat}{vs:Value}{s:Sq}(rs:(tSd k m n j).Is h0 vs s)(hcd0:s.2.1.length<=100000)(hcd1:∀f,f<s.2.1.length->(s.2.1.getD f zA).2.1.length<=100000/\∀x,x∈(s.2.1.getD f zA).2.1->x.length<=100000):
 Calls Tryz.prog 136 #[vs] w0 (Ret w0 h0 (λh r=>(rpS tII).Is h r (vO s))):=by
 refine cb1 23 vs func136 hs ?_;refine go2 ?_;refine nB rs λb1 an aa=>(sZ ?_);refine xM 51 1 ?_;have O:=RL.nil (ρ:=rpS (rpS rpI)) (h:=h0);refine gcL (ι:=Nat×List (List (List Int))×Value×List Value×Mem) (λ(f,D,C,G,mf)=>(MLe h0 mf/\(RL tII mf G D/\f<=s.2.1.length/\D=qG (λf=>(s.2.1.getD f zA).2.1) f),[(1,vP b1 0),(3,C),(4,vI ↑f)],[.gs 51 1 C D.length G,.var b1 39 an],mf,s.2.1.length-f)) (0,[],(.slice none 0 0),[],h0) ?_ ?_
 · exact⟨mle,O,by omega,I⟩
 rintro⟨f,D,C,G,mf⟩ ⟨ao,H,bc,hD⟩
 refine yX ?_;have ba:D.length=f:=by rw[hD];exact yZ _ _
 refine go5 ?_;refine lX (xB fD (Pc.snd (Pc.fst pH)) aa) λv7 r7=>(gc4 (λam=>?_) λam=>?_)
 ·
  refine go7 ?_;refine lX (xB fD (Pc.snd (Pc.fst pH)) aa) λax aj=>(go1 ?_);refine lX (xI zA f underlying36 bE aj) λaw ai=>(lX (xF underlying53 sizeOf51 (Pc.snd (Pc.fst pH)) ai) λav ah=>(lX (xA bY ah) λau ae=>(cL (ev1 I) call99 (λw hs=>zG7 hs ae (by first|omega|exact(hcd1 f oM).1|exact(hcd1 f oM).2) (by first|omega|exact(hcd1 f oM).1|exact(hcd1 f oM).2)) λar h1 ak ad=>(zI (zL (ρ:=tII) (m:=1) (xs:=[(((s.2.1.getD f zA).2).1)]) (ps':=[(0,_)]) underlying165 zPL I I I wN e2z (zD I (Pc.arr (Pc.here _) [] 0 dC) ad zO) (show 1*1<=16777216 from by decide) nP) I I I ?_))))
  rintro aq az ⟨ap,rfl,Z⟩
  refine zS (A:=[]) (ρ:=tII) Z ?_;intro h2 bb M;refine xS (A:=[]) (zV (ρ:=tII) (bytes:=24) underlying165 zPL I I I I nP I I H.up M bO bO) I I I ?_
  rintro ac ay ⟨ab,rfl,U⟩
  refine go9 ?_;refine gqL ((f+1),(D++[(((s.2.1.getD f zA).2).1)]),ac,ab,h2) ?_ ?_
  · exact⟨mle,U,by omega,by rw[hD];rfl⟩
  omega
 have ef:f=s.2.1.length:=by omega
 refine uS ?_;refine wO (A:=[]) (ρ:=tII) H.up ?_;intro h1 ak J;refine zC I I ?_;exact(Rp.Is.cast J (by rw[hD,ef];rfl))
theorem zH6{k m n j:Nat}{vs:Value}{s:Sq}(rs:(tSd k m n j).Is h0 vs s){f:Int}(hf1:-9223372036854775808<=f)(hf2:f<9223372036854775808)(hcd0:0<=f)(hcd1:f<↑s.2.1.length)(hcd2:(s.2.1.getD f.toNat zA).2.1.length<=100000)(hcd3:∀l,l<(s.2.1.getD f.toNat zA).2.1.length->((s.2.1.getD f.toNat zA).2.1.getD l []).length<=100000):
 Calls Tryz.prog 158 #[vs,vI f] w0 (Ret w0 h0 (λ_ r=>r=vB (nmP s f.toNat))):=by
 refine cb2 50 vs (vI f) func158 hs ?_;refine go2 ?_;refine nB rs λb2 ab H=>(go6 ?_);refine lX (xB fD (Pc.snd (Pc.fst pH)) H) λv9 r9=>(go1 ?_);refine lX (xI zA f.toNat underlying36 bE r9) λbl aq=>(lX (xF underlying53 sizeOf51 (Pc.snd (Pc.fst pH)) aq) λbk ap=>(lX (xA bY ap) λG D=>(uE ?_)));refine gcL (ι:=Nat×Mem) (λ(l,M)=>(MLe h0 M/\(l<=(s.2.1.getD f.toNat zA).2.1.length/\∀u,u<l->nmL s.1.length ((s.2.1.getD f.toNat zA).2.1.getD u [])),[(2,vP b2 0),(5,G),(6,vI ↑l)],[.var b2 39 ab],M,(s.2.1.getD f.toNat zA).2.1.length-l)) (0,h0) ?_ ?_
 · exact⟨mle,by omega,λu h=>by omega⟩
 rintro⟨l,M⟩ ⟨aw,bo,O⟩
 refine yX ?_;refine gc9 (λaa=>?_) λaa=>?_
 ·
  refine uE ?_;refine gcL (ι:=Nat×Mem) (λ(i,J)=>(MLe M J/\(i<=((s.2.1.getD f.toNat zA).2.1.getD l []).length/\∀u,u<i->0<=((s.2.1.getD f.toNat zA).2.1.getD l []).getD u 0/\((s.2.1.getD f.toNat zA).2.1.getD l []).getD u 0<↑s.1.length),[(2,vP b2 0),(5,G),(6,vI ↑l),(7,vI ↑i)],[.var b2 39 ab],J,((s.2.1.getD f.toNat zA).2.1.getD l []).length-i)) (0,M) ?_ ?_
  · exact⟨mle,by omega,λu h=>by omega⟩
  rintro⟨i,J⟩ ⟨av,bp,hi2⟩
  refine yX ?_;have bn:=hcd3 l oM;refine go6 ?_;refine lX (xI [] l underlying51 tF D) λbj ao=>(lX (xA tF ao) λbi bm=>(gc4 (λZ=>?_) λZ=>?_))
  ·
   refine go5 ?_;refine zK 21 _ [] [(0,.q),(1,.q),(2,.q),(3,.q),(4,.q),(5,.q),(6,.q),(7,.q),(8,.q),(9,.q),(10,.q),(11,.q),(12,.q),(13,.q),(14,.q),(15,.q),(16,.q),(17,.q),(18,.q),(19,.q),(20,.q)] zX nX (wJ zob) nX (λr hr=>hr) (go2 ?_);refine wX I (xI [] l underlying51 tF D) λbh an=>(wX I (xA tF an) λbg am=>(go1 ?_));refine wX I (xI (0:Int) i underlying22 ty3 am) λbf ak=>(wX I (xA ty3 ak) λbe aj=>?_);obtain⟨rfl,ay,au⟩:=kJ aj;refine go2 ?_;refine jB ((((((s.2.1.getD f.toNat zA).2).1).getD l []).getD i (0:Int))<(0:Int)) (λC=>?_) (λC=>?_)
   ·
    rw[xK C];refine go30 ?_;refine zC I I ?_;exact(yG (λe=>by have:=e l oM i oM;omega)).symm
   rw[yG C];refine yL I I I (λh' L' hh hR=>yU I) I (yL I I I (λh' L' hh hR=>yU I) I (oX I (xI [] l underlying51 tF D) λbd ai=>(oX I (xA tF ai) λbc ah=>(yL I I I (λh' L' hh hR=>yU I) I (oX I (xI (0:Int) i underlying22 ty3 ah) λbb ae=>(oX I (xA ty3 ae) λba ad=>?_))))));obtain⟨rfl,ax,ar⟩:=kJ ad;refine go1 ?_;refine oX I (xB vY (Pc.fst pH) H) λaz ac=>(yL I I I (λh' L' hh hR=>uL underlying35 I (ac.mono hh)) I (gc4 (λU=>?_) λU=>?_))
   ·
    refine sZ ?_;refine zC I I ?_;exact(yG (λe=>by have:=e l oM i oM;omega)).symm
   refine go8 ?_;refine gqL ((i+1),J) ?_ ?_
   · exact⟨mle,by omega,xR (Q:=λu=>0<=((s.2.1.getD f.toNat zA).2.1.getD l []).getD u 0/\((s.2.1.getD f.toNat zA).2.1.getD l []).getD u 0<↑s.1.length) hi2 oM⟩
   omega
  refine qA ?_;refine gqL ((l+1),J) ?_ ?_
  · exact⟨mle,by omega,xR (Q:=λu=>nmL s.1.length ((s.2.1.getD f.toNat zA).2.1.getD u [])) O (λu hu=>hi2 u oM)⟩
  omega
 refine qA ?_;refine zC I I ?_;exact(xK (λu hu=>O u oM)).symm
theorem iE{k m n j:Nat}{vs:Value}{s:Sq}(rs:(tSd k m n j).Is h0 vs s){f:Int}(hf1:-9223372036854775808<=f)(hf2:f<9223372036854775808)(hcd0:s.1.length<=100000)(hcd1:∀f,f<s.2.1.length->(s.2.1.getD f zA).2.1.length<=10000/\∀l,l<(s.2.1.getD f zA).2.1.length->((s.2.1.getD f zA).2.1.getD l []).length<=10000):
 Calls Tryz.prog 118 #[vs,vI f] w0 (Ret w0 h0 (λh r=>(tLL (k+1)).Is h r (xG s f))):=by
 refine cb2 65 vs (vI f) func118 hs ?_;refine go2 ?_;refine nB rs λb2 an ab=>(go8 ?_);refine gU 7 18 (vB ((f<(0:Int))\/((↑(s.2.1).length:Int)<=f))) ?_ ?_
 ·
  refine zY (f<(0:Int)) (λZ=>?_) (λZ=>?_)
  ·
   refine gT Z I (go7 ?_);refine gqU ?_;exact congrArg some (vH Z)
  refine gF Z I (go5 ?_);refine lX (xB fD (Pc.snd (Pc.fst pH)) ab) λct cv=>(go6 ?_);refine gqU ?_;exact congrArg some (vJ Z)
 refine qB (ι:=Mem) 6 (λm_=>MLe h0 m_) (λ_=>[(24,vB (((f<(0:Int))\/((↑(s.2.1).length:Int)<=f))\/(¬(nmP s f.toNat)))),(1,vI f),(2,vP b2 0)]) (λ_=>[.var b2 39 an]) (λm_=>m_) ?_ ?_
 ·
  refine zY ((f<(0:Int))\/((↑(s.2.1).length:Int)<=f)) (λZ=>?_) (λZ=>?_)
  ·
   refine gT Z I (go6 ?_);refine zR h0 (MLe.refl _) ⟨?_,I,I,trivial⟩ I I;exact congrArg some (vH Z)
  refine gF Z I (go1 ?_);refine lX (xB qK pH ab) λcq bt=>(go3 ?_);refine cL (ev2 I I) call158 (λw hs=>zH6 hs bt oM oM oM (by first|omega|exact Nat.le_trans (hcd1 f.toNat oM).1 dC|exactλl hl=>Nat.le_trans ((hcd1 f.toNat oM).2 l hl) dC) (by first|omega|exact Nat.le_trans (hcd1 f.toNat oM).1 dC|exactλl hl=>Nat.le_trans ((hcd1 f.toNat oM).2 l hl) dC) (by first|omega|exact Nat.le_trans (hcd1 f.toNat oM).1 dC|exactλl hl=>Nat.le_trans ((hcd1 f.toNat oM).2 l hl) dC)) λbg h1 ac bs=>?_;obtain rfl:bg=vB (nmP s f.toNat):=bs;refine go4 ?_;refine zR h1 ac ⟨?_,I,I,trivial⟩ I I;exact congrArg some (vJ Z)
 intro J ay;refine tZ ?_;refine gc2 (λaa=>?_) λaa=>?_
 ·
  refine go7 ?_;refine zC I I ?_;exact(Rp.Is.cast (oN _) (by exact(if_neg (λe=>aa.elim (λh=>by omega) (λh=>h e.2))).symm))
 have aw:(0<=f/\f<↑s.2.1.length)/\nmP s f.toNat:=by constructor;exact oM;exact Classical.not_not.1 (λe=>aa (.inr e))
 have ax:∀l,l<(s.2.1.getD f.toNat zA).2.1.length->∀q,q<((s.2.1.getD f.toNat zA).2.1.getD l []).length->0<=((s.2.1.getD f.toNat zA).2.1.getD l []).getD q 0/\((s.2.1.getD f.toNat zA).2.1.getD l []).getD q 0<↑s.1.length:=λl hl q hq=>aw.2 l hl q hq;have az:=hcd1 f.toNat oM;refine uE ?_;refine lX (xB fD (Pc.snd (Pc.fst pH)) ab) λcp br=>(go1 ?_);refine lX (xI zA f.toNat underlying36 bE br) λco bq=>(lX (xF underlying53 sizeOf51 (Pc.snd (Pc.fst pH)) bq) λcn bp=>(lX (xA bY bp) λao av=>(uE ?_)));refine xM 35 1 ?_;have ak:=RL.nil (ρ:=rpS (tPt (k+1))) (h:=J);refine gcL (ι:=Nat×List (List Tq)×Value×List Value×Mem) (λ(l,D,C,G,ml)=>(MLe J ml/\(RL (tLs (k+1)) ml G D/\l<=(s.2.1.getD f.toNat zA).2.1.length/\D=zGP s f.toNat l),[(2,vP b2 0),(5,C),(6,ao),(7,vI ↑l)],[.gs 35 1 C D.length G,.var b2 39 an],ml,(s.2.1.getD f.toNat zA).2.1.length-l)) (0,[],(.slice none 0 0),[],J) ?_ ?_
 · exact⟨mle,ak,by omega,I⟩
 rintro⟨l,D,C,G,ml⟩ ⟨bx,U,de,hD⟩
 refine yX ?_;have dd:D.length=l:=by rw[hD];exact yZ _ _
 refine gc9 (λbb=>?_) λbb=>?_
 ·
  refine dT ?_;refine xM 31 9 ?_;have aj:=RL.nil (ρ:=rpT (rpQ (k+1))) (h:=ml);refine gcL (ι:=Nat×List Tq×Value×List Value×Mem) (λ(q,YY,H,M,mq)=>(MLe ml mq/\(RL (tPt (k+1)) mq M YY/\q<=((s.2.1.getD f.toNat zA).2.1.getD l []).length/\YY=zE5 s.1 ((s.2.1.getD f.toNat zA).2.1.getD l []) q),[(2,vP b2 0),(5,C),(6,ao),(7,vI ↑l),(8,H),(9,vI ↑q)],[.gs 31 9 H YY.length M,.gs 35 1 C D.length G,.var b2 39 an],mq,((s.2.1.getD f.toNat zA).2.1.getD l []).length-q)) (0,[],(.slice none 0 0),[],ml) ?_ ?_
  · exact⟨mle,aj,by omega,I⟩
  rintro⟨q,YY,H,M,mq⟩ ⟨bw,O,db,am⟩
  refine yX ?_;have dc:YY.length=q:=by rw[am];exact yZ _ _
  have bu:=az.2 l oM;refine go6 ?_;refine lX (xI [] l underlying51 tF av) λcm bo=>(lX (xA tF bo) λcl cu=>(gc4 (λba=>?_) λba=>?_))
  ·
   refine go4 ?_;refine qH (A:=[]) 15 [] [(0,.q),(1,.q),(2,.q),(3,.q),(4,.q),(5,.q),(6,.q),(7,.q),(8,.q),(9,.q),(10,.q),(11,.q),(12,.c),(13,.c),(14,.q)] zX nX (wJ zob) nX (go2 ?_);refine wX I (xB vY (Pc.fst pH) ab) λck bn=>(go2 ?_);refine wX I (xI [] l underlying51 tF av) λcj bm=>(wX I (xA tF bm) λci bl=>(go1 ?_));refine wX I (xI (0:Int) q underlying22 ty3 bl) λch bk=>(wX I (xA ty3 bk) λcg bj=>?_);obtain⟨rfl,bz,bv⟩:=kJ bj;refine nK (F:=λv_=>AtP (tPt k) mq v_ (s.1.getD ((((s.2.1.getD f.toNat zA).2.1.getD l []).getD q 0).toNat) zT)) I (rD zT ((((s.2.1.getD f.toNat zA).2.1.getD l []).getD q 0).toNat) underlying35 zH I I bn (by(have h:=ax l oM q oM;omega)) (by(have h:=ax l oM q oM;omega)) nP) zBA I ?_;intro cf bi;refine wX I (xA zH bi) λce bh=>?_;refine w_c I (jH (λX=>zL (ρ:=(tPt (k+1))) (m:=1) (xs:=[(s.1.getD ((((s.2.1.getD f.toNat zA).2.1.getD l []).getD q 0).toNat) zT)]) (ps':=[(0,_)]) underlying35 yN I I I (xN (yH oM)) e2z (zD I (Pc.arr (Pc.here _) zT 0 dC) (bh.le (Le.t (Le.q (l:=k+1) oM))) zO) (show 1*9<=16777216 from by decide) nP) I ?_)
   rintro cd da ⟨cb,rfl,au⟩
   refine w_c I (xY (A:=[]) (ρ:=(tPt (k+1))) au dK ?_);intro h1 ac ai;refine fR (A:=[]) (λX=>zV (ρ:=(tPt (k+1))) (bytes:=168) underlying35 yN I I I I nP I I O.up ai bO bO) I (xJ zof) ?_
   rintro bf cz ⟨bd,rfl,ar⟩
   refine go9 ?_;refine gqL ((q+1),(YY++[(s.1.getD ((((s.2.1.getD f.toNat zA).2.1.getD l []).getD q 0).toNat) zT)]),bf,bd,h1) ?_ ?_
   · exact⟨mle,ar,by omega,by rw[am];rfl⟩
   omega
  have eq:q=((s.2.1.getD f.toNat zA).2.1.getD l []).length:=by omega
  have bu:=az.2 l oM;refine go8 ?_;refine zS (A:=[]) (ρ:=(tPt (k+1))) O.up ?_;intro h1 ac ah;refine zI (zL (ρ:=(tLs (k+1))) (m:=1) (xs:=[YY]) (ps':=[(0,_)]) underlying76 cV I I I wN e2z (zD I (Pc.arr (Pc.here _) [] 0 dC) ah zO) (show 1*1<=16777216 from by decide) nP) I I I ?_
  rintro cc cy ⟨ca,rfl,aq⟩
  refine zS (A:=[]) (ρ:=(tLs (k+1))) aq ?_;intro h2 df ae;refine xS (A:=[]) (zV (ρ:=(tLs (k+1))) (bytes:=24) underlying76 cV I I I I nP I I U.up ae bO bO) I I I ?_
  rintro be cw ⟨bc,rfl,ap⟩
  refine go9 ?_;refine gqL ((l+1),(D++[YY]),be,bc,h2) ?_ ?_
  · exact⟨mle,ap,by omega,by rw[hD,am,eq];rfl⟩
  omega
 have el:l=(s.2.1.getD f.toNat zA).2.1.length:=by omega
 refine uS ?_;refine wO (A:=[]) (ρ:=(tLs (k+1))) U.up ?_;intro h1 ac ad;refine zC I I ?_;exact(Rp.Is.cast ad (by rw[hD,el];exact(if_pos aw).symm))
theorem zDP{m n k:Nat}{vpl:Value}{pl:Pq}(rpl:(tPl m n).Is h0 vpl pl){vl:Value}{l:(List Tq)}(rl:(tLs k).Is h0 vl l)(hcd0:k<=100000000)(hcd1:m<=100000000)(hcd2:n<=100000000)(hcd3:l.length<=100000):
 Calls Tryz.prog 187 #[vpl,vl] w0 (Ret w0 h0 (λh r=>(tLs (k+1)).Is h r (flA pl l l.length))):=by
 refine cb2 23 vpl vl func187 hs ?_;refine go2 ?_;refine nB rpl λb2 am ad=>(sZ ?_);refine xM 31 9 ?_;have O:=RL.nil (ρ:=rpT (rpQ (k+1))) (h:=h0);refine gcL (ι:=Nat×List Tq×Value×List Value×Mem) (λ(i,D,C,G,mi)=>(MLe h0 mi/\(RL (tPt (k+1)) mi G D/\i<=l.length/\D=flA pl l i),[(1,vl),(2,vP b2 0),(5,C),(6,vI ↑i)],[.gs 31 9 C D.length G,.var b2 50 am],mi,l.length-i)) (0,[],(.slice none 0 0),[],h0) ?_ ?_
 · exact⟨mle,O,by omega,I⟩
 rintro⟨i,D,C,G,mi⟩ ⟨an,H,ay,hD⟩
 refine yX ?_;have ba:D.length=i:=by rw[hD];exact yZ _ _
 refine gc9 (λaa=>?_) λaa=>?_
 ·
  refine go4 ?_;refine qH (A:=[]) 10 [] [(0,.q),(1,.q),(2,.q),(3,.q),(4,.q),(5,.q),(6,.c),(7,.c),(8,.c),(9,.q)] zX nX zob nX (go1 ?_);refine wX I (xB bZ pH ad) λav aj=>(go2 ?_);refine wX I (xI zT i underlying35 zH rl) λau ai=>(wX I (xA zH ai) λar ah=>?_);refine w_c I (sC (ev2 I I) call112 (λw hs=>zA3 hs aj ah oM oM) λaq h1 ak ae=>?_);refine w_c I (jH (λX=>zL (ρ:=(tPt (k+1))) (m:=1) (xs:=[qC pl (l.getD i zT)]) (ps':=[(0,_)]) underlying35 yN I I I (xN (yH oM)) e2z (zD I (Pc.arr (Pc.here _) zT 0 dC) ae zO) (show 1*9<=16777216 from by decide) nP) I ?_)
  rintro ap ax ⟨ao,rfl,Z⟩
  refine w_c I (xY (A:=[]) (ρ:=(tPt (k+1))) Z dK ?_);intro h2 az M;refine fR (A:=[]) (λX=>zV (ρ:=(tPt (k+1))) (bytes:=168) underlying35 yN I I I I nP I I H.up M bO bO) I (xJ zof) ?_
  rintro ac aw ⟨ab,rfl,U⟩
  refine go9 ?_;refine gqL ((i+1),(D++[qC pl (l.getD i zT)]),ac,ab,h2) ?_ ?_
  · exact⟨mle,U,by omega,by rw[hD];rfl⟩
  omega
 have ei:i=l.length:=by omega
 refine uS ?_;refine wO (A:=[]) (ρ:=(tPt (k+1))) H.up ?_;intro h1 ak J;refine zC I I ?_;exact(Rp.Is.cast J (by rw[hD,ei]))
theorem zA2{m n k:Nat}{vpl:Value}{pl:Pq}(rpl:(tPl m n).Is h0 vpl pl){vL:Value}{L:(List (List Tq))}(rL:(tLL k).Is h0 vL L)(hcd0:k<=100000000)(hcd1:m<=100000000)(hcd2:n<=100000000)(hcd3:L.length<=100000)(hcd4:∀l,l<L.length->(L.getD l []).length<=10000):
 Calls Tryz.prog 151 #[vpl,vL] w0 (Ret w0 h0 (λh r=>(tLL (k+1)).Is h r (flL pl L L.length))):=by
 refine cb2 23 vpl vL func151 hs ?_;refine go2 ?_;refine nB rpl λb2 am ad=>(sZ ?_);refine xM 35 1 ?_;have O:=RL.nil (ρ:=rpS (tPt (k+1))) (h:=h0);refine gcL (ι:=Nat×List (List Tq)×Value×List Value×Mem) (λ(i,D,C,G,mi)=>(MLe h0 mi/\(RL (tLs (k+1)) mi G D/\i<=L.length/\D=flL pl L i),[(1,vL),(2,vP b2 0),(5,C),(6,vI ↑i)],[.gs 35 1 C D.length G,.var b2 50 am],mi,L.length-i)) (0,[],(.slice none 0 0),[],h0) ?_ ?_
 · exact⟨mle,O,by omega,I⟩
 rintro⟨i,D,C,G,mi⟩ ⟨an,H,ay,hD⟩
 refine yX ?_;have ba:D.length=i:=by rw[hD];exact yZ _ _
 refine gc9 (λaa=>?_) λaa=>?_
 ·
  refine go4 ?_;refine qH (A:=[]) 10 [] [(0,.q),(1,.q),(2,.q),(3,.q),(4,.q),(5,.q),(6,.c),(7,.c),(8,.c),(9,.q)] zX nX zob nX (go1 ?_);refine wX I (xB bZ pH ad) λav aj=>(go2 ?_);refine wX I (xI [] i underlying76 vY rL) λau ai=>(wX I (xA vY ai) λar ah=>?_);refine w_c I (sC (ev2 I I) call187 (λw hs=>zDP hs aj ah oM oM oM (by first|omega|exact Nat.le_trans (hcd4 i oM) dC)) λaq h1 ak ae=>?_);refine w_c I (jH (λX=>zL (ρ:=(tLs (k+1))) (m:=1) (xs:=[flA pl (L.getD i []) (L.getD i []).length]) (ps':=[(0,_)]) underlying76 cV I I I wN e2z (zD I (Pc.arr (Pc.here _) [] 0 dC) ae zO) (show 1*1<=16777216 from by decide) nP) I ?_)
  rintro ap ax ⟨ao,rfl,Z⟩
  refine w_c I (xY (A:=[]) (ρ:=(tLs (k+1))) Z dK ?_);intro h2 az M;refine fR (A:=[]) (λX=>zV (ρ:=(tLs (k+1))) (bytes:=24) underlying76 cV I I I I nP I I H.up M bO bO) I (xJ zof) ?_
  rintro ac aw ⟨ab,rfl,U⟩
  refine go9 ?_;refine gqL ((i+1),(D++[flA pl (L.getD i []) (L.getD i []).length]),ac,ab,h2) ?_ ?_
  · exact⟨mle,U,by omega,by rw[hD];rfl⟩
  omega
 have ei:i=L.length:=by omega
 refine uS ?_;refine wO (A:=[]) (ρ:=(tLs (k+1))) H.up ?_;intro h1 ak J;refine zC I I ?_;exact(Rp.Is.cast J (by rw[hD,ei]))
theorem zFO{k m n j:Nat}{vs:Value}{s:Sq}(rs:(tSd k m n j).Is h0 vs s){f:Nat}(hcd0:k<=1000)(hcd1:m<=100000)(hcd2:n<=100000)(hcd3:s.1.length<=100000)(hcd4:∀f,f<s.2.1.length->(s.2.1.getD f zA).2.1.length<=10000/\∀l,l<(s.2.1.getD f zA).2.1.length->((s.2.1.getD f zA).2.1.getD l []).length<=10000)(hcd5:f<s.2.1.length)(hcd6:s.2.1.length<=100000):
 Calls Tryz.prog 111 #[vs,vI ↑f] w0 (Ret w0 h0 (λh r=>(tLL (k+2)).Is h r (gJ s f))):=by
 have C:=yCC (s:=s) (f:=↑f) hcd4;refine cb2 15 vs (vI ↑f) func111 hs ?_;refine go2 ?_;refine nB rs λb2 ad G=>(go4 ?_);refine zK 11 _ [] [(0,.q),(1,.q),(2,.q),(3,.q),(4,.q),(5,.q),(6,.q),(7,.q),(8,.c),(9,.c),(10,.q)] zX nX zob nX (λr hr=>hr) (go1 ?_);refine wX I (xB fD (Pc.snd (Pc.fst pH)) G) λv6 r6=>(go1 ?_);refine wX I (xI zA f underlying36 bE r6) λv8 r8=>(wX I (xF underlying53 sizeOf50 (Pc.fst pH) r8) λv9 r9=>(wX I (xA bZ r9) λaa M=>(wX I (xB qK pH G) λZ J=>(go1 ?_))));refine w_c I (sC (ev2 I I) call118 (λw hs=>iE hs J oM oM (by first|omega|exact hcd4) (by first|omega|exact hcd4)) λU h1 ac H=>?_);refine w_c I (sC (ev2 I I) call151 (λw hs=>zA2 hs M.up H oM oM oM (by first|omega|exact C.1|exactλl hl=>C.2 l) (by first|omega|exact C.1|exactλl hl=>C.2 l)) λO h2 ab D=>?_);replace D:=Rp.Is.le D (Le.s (Le.s (Le.t (Le.q (l:=k+2) oM))));refine go4 ?_;refine zC I I ?_;exact D
theorem j7{kind:Int}(hkind1:-9223372036854775808<=kind)(hkind2:kind<9223372036854775808){face:Int}(hface1:-9223372036854775808<=face)(hface2:face<9223372036854775808){loop:Int}(hloop1:-9223372036854775808<=loop)(hloop2:loop<9223372036854775808){edge:Int}(hedge1:-9223372036854775808<=edge)(hedge2:edge<9223372036854775808):
 Calls Tryz.prog 179 #[vI kind,vI face,vI loop,vI edge] w0 (Ret w0 h0 (λh r=>tE5.Is h r (dg kind face loop edge))):=by
 refine jI (n:=14) (e:=[(0,vI kind),(1,vI face),(2,vI loop),(3,vI edge)]) (vs:=[vI kind,vI face,vI loop,vI edge]) func179 rfl rfl (bL rfl) hs e4z (go2 ?_);refine nA (ρ:=tE5) (X:=e50) jL (yD wL (yD wL (yD wL (yD wL wL)))) λb8 Z H=>(go8 ?_);refine lX (xV (ρ:=tE5) (wE (ps':=[(0,_),(1,_),(2,_),(3,_),(4,_)]) underlying200 jL I I (zCA underlying200) e10 I (yD wL (yD wL (yD wL (yD wL wL)))) (zD I (Pc.fst (Pc.here _)) (wI oM oM) (zD I (Pc.snd (Pc.fst (Pc.here _))) (wI dC dC) (zD I (Pc.snd (Pc.snd (Pc.fst (Pc.here _)))) (wI oM oM) (zD I (Pc.snd (Pc.snd (Pc.snd (Pc.fst (Pc.here _))))) (wI oM oM) (zD I (Pc.snd (Pc.snd (Pc.snd (Pc.snd (Pc.here _))))) (wI oM oM) zO))))))) λU J=>(yB (A:=[]) (uB sizeOf200 pH H J) λM G=>(go3 ?_));refine wT (kE (t:=8) yIO mh0 I G) ?_;intro O C D;refine yW (λE S=>zW I C E S) ?_;exact D
end
end Go.Proofs.YtpkaegemlpaenaaGreat
namespace Bk
open Classical
def triT(P:Nat->P2)(n:Nat):Prop:=∀i j k,i<j->j<k->k<n->0<cr (P i) (P j) (P k)
def edgeT(P:Nat->P2)(n:Nat):Prop:=∀i k,i<n->2<=k->k<n->0<cr (P i) (P ((i+1)%n)) (P ((i+k)%n))
def lp(t:Rat)(a b:P2):P2:=(a.1+t*(b.1-a.1),a.2+t*(b.2-a.2))
def ex(P:Nat->P2)(n m:Nat):P2:=P (m%n)
abbrev Mk:=Nat×Bool
def mkP(P:Nat->P2)(n:Nat)(t:Nat->Rat)(M:Mk):P2:=if M.2 then lp (t M.1) (ex P n M.1) (ex P n (M.1+1)) else ex P n M.1
def mkLt(A B:Mk):Prop:=A.1<B.1\/(A.1=B.1/\A.2=false/\B.2=true)
def chg(s:Nat->Int)(n m:Nat):Prop:=s m*s ((m+1)%n)<0
noncomputable def mks(s:Nat->Int)(n:Nat):Nat->List Mk
  |0=>[]
  |m+1=>mks s n m++(if s m<=0 then[(m,false)] else[])++(if chg s n m then[(m,true)] else[])
def inC(P:Nat->P2)(n:Nat)(p:P2):Prop:=∀m,m<n->0<=cr (P m) (P ((m+1)%n)) p
def afZ(w:Rat×Rat×Rat)(p:P2):Rat:=w.1+w.2.1*p.1+w.2.2*p.2
def mkS(S:Nat->Int)(M:Mk):Prop:=if M.2 then S M.1*S (M.1+1)<0 else S M.1<=0
def nxM(L:List Mk)(n q:Nat):Mk:=if q+1<L.length then L.getD (q+1) (0,false) else((L.getD 0 (0,false)).1+n,(L.getD 0 (0,false)).2)
section
variable {s:Nat->Int}{n:Nat}
end
structure Cfg(P:Nat->P2)(n:Nat)(t:Nat->Rat)(s:Nat->Int)(w:Rat×Rat×Rat):Prop where
 h3:3<=n
 tri:triT P n
 per:∀m,t (m%n)=t m
 cross:∀m,m<n->chg s n m->(0<t m/\t m<1)/\afZ w (lp (t m) (P m) (P ((m+1)%n)))=0
 neg:∀m,m<n->(s m<0↔afZ w (P m)<0)
 zero:∀m,m<n->(s m=0↔afZ w (P m)=0)
section
variable {P:Nat->P2}{n:Nat}{t:Nat->Rat}{s:Nat->Int}{w:Rat×Rat×Rat}
def cx(u v:P2):Rat:=u.1*v.2-v.1*u.2
def arC(P:Nat->P2)(n:Nat):Nat->Rat
  |0=>0
  |m+1=>arC P n m+cx (P m) (P ((m+1)%n))
def arO(P:Nat->P2)(n:Nat)(o:P2):Nat->Rat
  |0=>0
  |m+1=>arO P n o m+cr o (P m) (P ((m+1)%n))
noncomputable def om(S:Nat->Int)(t:Nat->Rat)(e:Nat):Rat:=
 if S e<=0/\S (e+1)<=0 then 1 else if S e<0/\0<S (e+1) then t e else if 0<S e/\S (e+1)<0 then 1-t e else 0
noncomputable def yIK(S:Nat->Int)(t:Nat->Rat)(k:Nat->Rat):Nat->Rat
  |0=>0
  |e+1=>yIK S t k e+om S t e*k e
noncomputable def uM(S:Nat->Int)(t:Nat->Rat)(k:Nat->Rat)(M:Mk):Rat:=yIK S t k M.1+if M.2=true/\S M.1<0 then t M.1*k M.1 else 0
end
def ngW(w:Rat×Rat×Rat):Rat×Rat×Rat:=(-w.1,-w.2.1,-w.2.2)
section
variable {P:Nat->P2}{n:Nat}{t:Nat->Rat}{s:Nat->Int}{w:Rat×Rat×Rat}
end
noncomputable def pt2(pl:Pl)(p:Pt):P2:=pr p (axI pl.1) (axJ pl.1)
def zGQ(pl:Pl)(l:List Pt):Prop:=
 (3<=l.length/\¬pl.1=zT)/\(∀m,m<l.length->sdZ pl (gp l m)=0)/\∀m k,m<l.length->2<=k->k<l.length->0<orZ (pt2 pl (gp l m)) (pt2 pl (nx l m)) (pt2 pl (gp l ((m+k)%l.length)))
noncomputable def mk3(c:Pl)(l:List Pt)(M:Mk):Pt:=if M.2 then btw c (gp l M.1) (nx l M.1) else gp l M.1
noncomputable def sgB(c:Pl)(l:List Pt)(m:Nat):Int:=sdZ c (gp l m)
noncomputable def sgF(c:Pl)(l:List Pt)(m:Nat):Int:=-sdZ c (gp l m)
noncomputable def tC(c:Pl)(l:List Pt)(m:Nat):Rat:=yJ8 c (gp l (m%l.length)) (nx l (m%l.length))
def oR(a b c:Pt):Rat:=xE a (xH b c)
theorem yHN{pl:Pl}{a b c:Pt}(hn:¬pl.1=zT)(ha:sdZ pl a=0)(hb:sdZ pl b=0)(hc:sdZ pl c=0):yR (xE (xH (wV b a) (wV c a)) pl.1)=orZ (pt2 pl a) (pt2 pl b) (pt2 pl c):=by
 have C:¬pl.1.at (axK pl.1)=0:=λe=>hn ((zRU _).1 e);have h1:=zUE pl (qC pl a) (qC pl b) (qC pl c) C;rw[zCM C ha,zCM C hb,zCM C hc,yDN] at h1;exact h1.symm
theorem yHO(a b c n:Pt):xE (xH (wV b a) (wV c a)) n=oR (wV b a) (wV c a) n:=by
 unfold oR xE xH wV;grind
end Bk
namespace Bk
open Go Go.RowKit
open Classical
theorem zKY{k:Nat}{h:Mem}{v:Value}{p:T3 Rat}(s:(rpT (rpQ k)).Is h v p):lq p.x<=k/\lq p.y<=k/\lq p.z<=k:=by
 obtain⟨cs,⟨a,b,_,G,c,d,_,D,C⟩,_⟩:=s;exact⟨G.2,D.2,C.2⟩
theorem zEP{K k:Nat}{h:Mem}{v:Value}{p:T3 Rat}(s:(rpT (rpQ K)).Is h v p)(h1:lq p.x<=k)(h2:lq p.y<=k)(h3:lq p.z<=k):(rpT (rpQ k)).Is h v p:=by
 obtain⟨cs,⟨a,b,e,G,c,d,J,D,C⟩,H⟩:=s;exact⟨cs,⟨a,b,e,⟨G.1,h1⟩,c,d,J,⟨D.1,h2⟩,⟨C.1,h3⟩⟩,H⟩
theorem zJB{a b:Rat}(h:¬(¬smB a\/¬smB b)):(smB a/\smB b)/\(-72057594037927936<=smZ a*smZ b/\smZ a*smZ b<=72057594037927936):=by
 have h1:smB a/\smB b:=by
  constructor
  · exact Classical.not_not.1 λe=>h (.inl e)
  · exact Classical.not_not.1 λe=>h (.inr e)
 have O:=(sS h1.1).2;have M:=(sS h1.2).2;refine⟨h1,?_⟩;have C:∀{x y:Int},0<=x->x<268435456->0<=y->y<268435456->0<=x*y/\x*y<=72057594037927936:=by
  intro x y hx G hy D;have J:=Int.mul_nonneg hx hy;have H:x*y<=268435456*268435456:=Int.mul_le_mul zoa zoa hy zoa;omega
 generalize smZ a=u at *;generalize smZ b=v at *
 rcases Int.le_total 0 u with hu|hu<;>rcases Int.le_total 0 v with hv|hv
 · have:=C hu zoa hv zoa;omega
 · have:=C hu zoa (y:=-v) zoa zoa
   rw[Int.mul_neg] at this;omega
 · have:=C (x:=-u) zoa zoa hv zoa
   rw[Int.neg_mul] at this;omega
 · have:=C (x:=-u) (y:=-v) zoa zoa zoa zoa
   rw[Int.neg_mul_neg] at this;omega
theorem zUZ{s:Pl}{p:Pt}(hx:smB s.1.x/\smB p.x)(hy:smB s.1.y/\smB p.y)(hz:smB s.1.z/\smB p.z)(hd:smB s.2):zG3 ((0:Int)+smZ s.1.x*smZ p.x+smZ s.1.y*smZ p.y+smZ s.1.z*smZ p.z-smZ s.2)=sdZ s p:=by
 rw[<-nS];unfold sdZ hgt xE
 congr 1
 rw[Rat.intCast_sub,Rat.intCast_add,Rat.intCast_add,Rat.intCast_add,Rat.intCast_mul,Rat.intCast_mul,Rat.intCast_mul];rw[<-(sS hx.1).1,<-(sS hx.2).1,<-(sS hy.1).1,<-(sS hy.2).1,<-(sS hz.1).1,<-(sS hz.2).1,<-(sS hd).1];have e:((0:Int):Rat)=0:=I;rw[e];grind
theorem zU0(s:Pl)(p:Pt):xT (xE s.1 p) s.2=sdZ s p:=zGR _ _
end Bk
namespace Go.Proofs.YtpkaegemlpaenaaGreat
open Bk Go Tryz
set_option maxRecDepth 10000
set_option maxHeartbeats 1000000
attribute [local irreducible] GL GC GQ W OpV
section
variable{w0:World}{h0:Mem}(hs:MLe h0 (mem w0))
include hs
theorem zFG{k l:Nat}{va:Value}{a:Tq}(ra:(tPt k).Is h0 va a){vb:Value}{b:Tq}(rb:(tPt l).Is h0 vb b)(hcd0:k+l<=1000000000):Calls Tryz.prog 14 #[va,vb] w0 (Ret w0 h0 (λh r=>(tPt (k+l+1)).Is h r (T3.mk (a.x+b.x) (a.y+b.y) (a.z+b.z)))):=by
 obtain⟨M,J,H⟩:=zKY ra;obtain⟨G,D,C⟩:=zKY rb;exact(zWL hs ra rb hcd0).mono (gA λh r x=>zEP x (by have:=aY a.x b.x;show lq (a.x+b.x)<=_;omega) (by have:=aY a.y b.y;show lq (a.y+b.y)<=_;omega) (by have:=aY a.z b.z;show lq (a.z+b.z)<=_;omega))
theorem pW{k l:Nat}{va:Value}{a:Tq}(ra:(tPt k).Is h0 va a){vb:Value}{b:Tq}(rb:(tPt l).Is h0 vb b)(hcd0:k+l<=1000000000):Calls Tryz.prog 22 #[va,vb] w0 (Ret w0 h0 (λh r=>(tPt (k+l+1)).Is h r (T3.mk (a.x-b.x) (a.y-b.y) (a.z-b.z)))):=by
 obtain⟨M,J,H⟩:=zKY ra;obtain⟨G,D,C⟩:=zKY rb;exact(zL0 hs ra rb hcd0).mono (gA λh r x=>zEP x (by have:=zF4 a.x b.x;show lq (a.x-b.x)<=_;omega) (by have:=zF4 a.y b.y;show lq (a.y-b.y)<=_;omega) (by have:=zF4 a.z b.z;show lq (a.z-b.z)<=_;omega))
theorem oB{l k:Nat}{vq:Value}{q:Rat}(rq:(rpQ l).Is h0 vq q){va:Value}{a:Tq}(ra:(tPt k).Is h0 va a)(hcd0:k+l<=1000000000):Calls Tryz.prog 20 #[vq,va] w0 (Ret w0 h0 (λh r=>(tPt (k+l)).Is h r (T3.mk (q*a.x) (q*a.y) (q*a.z)))):=by
 obtain⟨H,G,D⟩:=zKY ra;have C:=(of_q rq).2;exact(zFM hs rq ra hcd0).mono (gA λh r x=>zEP x (by have:=iI q a.x;show lq (q*a.x)<=_;omega) (by have:=iI q a.y;show lq (q*a.y)<=_;omega) (by have:=iI q a.z;show lq (q*a.z)<=_;omega))
theorem zO0{k l:Nat}{va:Value}{a:Tq}(ra:(tPt k).Is h0 va a){vb:Value}{b:Tq}(rb:(tPt l).Is h0 vb b)(hcd0:k+l<=10000000000):
 Calls Tryz.prog 154 #[va,vb,vF 160 []] w0 (Ret w0 h0 (λh r=>(tPt (k+l+1+1)).Is h r (T3.mk (a.x+b.x) (a.y+b.y) (a.z+b.z)))):=by
 refine cb3 24 va vb (vF 160 []) func154 hs ?_;refine go2 ?_;refine nB ra λb3 bl Z=>(nB rb λb4 bk U=>(nA (ρ:=(tPt (k+l+1+1))) (X:=zT) yN (xN (yH oM)) λb6 bj az=>(go4 ?_)));refine nA (ρ:=(tPt (k+l+1+1))) (X:=zT) yN (xN (yH oM)) λb7 bi ay=>(go9 ?_);refine fO (go2 ?_);refine gv (OpV.tr dC (yI (q:=3) I I)) I (tU ?_);refine zK 10 _ [] [(0,.q),(1,.q),(2,.q),(3,.q),(4,.q),(5,.q),(6,.q),(7,.q),(8,.c),(9,.q),(10,.t)] zX nX zob nX (λr hr=>hr) (go4 ?_);refine wX I (xB yC (Pc.tx pH) Z) λax ai=>(go2 ?_);refine wX I (xB yC (Pc.tx pH) U) λau ad=>?_;refine w_c I (aF (cA (vs:=[_,_]) call160 I e2z) I (λw hs=>aO hs ai ad oM) ?_);intro M h1 bh G
 change (rpQ (k+l+1)).Is h1 M (a.x+b.x) at G
 refine go1 ?_;refine yJ (A:=[]) I (uB sizeOf29 (Pc.tx pH) ay (G.le (Le.q (l:=k+l+1+1) oM))) λbd ao=>(go4 ?_);refine gv ((zQ (q:=1) I I oM oM).cv (show _=vI (1) from I)) I (go2 ?_);refine wG (go2 ?_);refine gv (OpV.tr dC (yI (q:=3) I I)) I (tU ?_);refine zK 10 _ [] [(0,.q),(1,.q),(2,.q),(3,.q),(4,.q),(5,.q),(6,.q),(7,.q),(8,.c),(9,.q),(10,.t)] zX nX zob nX (λr hr=>hr) (go4 ?_);refine wX I (xB yC (Pc.ty pH) Z) λaw ah=>(go2 ?_);refine wX I (xB yC (Pc.ty pH) U) λar ac=>?_;refine w_c I (aF (cA (vs:=[_,_]) call160 I e2z) I (λw hs=>aO hs ah ac oM) ?_);intro J h2 bg D
 change (rpQ (k+l+1)).Is h2 J (a.y+b.y) at D
 refine go1 ?_;refine yJ (A:=[]) I (uB sizeOf29 (Pc.ty pH) ao (D.le (Le.q (l:=k+l+1+1) oM))) λbc an=>(go4 ?_);refine gv ((zQ (q:=1) I I oM oM).cv (show _=vI (2) from I)) I (go2 ?_);refine wG (go2 ?_);refine gv (OpV.tr dC (yI (q:=3) I I)) I (tU ?_);refine zK 10 _ [] [(0,.q),(1,.q),(2,.q),(3,.q),(4,.q),(5,.q),(6,.q),(7,.q),(8,.c),(9,.q),(10,.t)] zX nX zob nX (λr hr=>hr) (go4 ?_);refine wX I (xB yC (Pc.tz pH) Z) λav ae=>(go2 ?_);refine wX I (xB yC (Pc.tz pH) U) λaq ab=>?_;refine w_c I (aF (cA (vs:=[_,_]) call160 I e2z) I (λw hs=>aO hs ae ab oM) ?_);intro H h3 bf C
 change (rpQ (k+l+1)).Is h3 H (a.z+b.z) at C
 refine go1 ?_;refine yJ (A:=[]) I (uB sizeOf29 (Pc.tz pH) an (C.le (Le.q (l:=k+l+1+1) oM))) λbb am=>(go4 ?_);refine gv ((zQ (q:=1) I I oM oM).cv (show _=vI (3) from I)) I (go2 ?_);refine wG (go2 ?_);refine gv (OpV.fa dC (yI (q:=3) I I)) I (qA ?_);refine lX (xB zH pH am) λap aa=>(yB (A:=[_]) (uB sizeOf31 pH az aa) λba ak=>(go3 ?_));refine wT (kE (t:=6) zH mh1 I ak) ?_;intro be aj O;refine yW (λE S=>zW I aj E S) ?_;exact O
theorem zOY{k l:Nat}{va:Value}{a:Tq}(ra:(tPt k).Is h0 va a){vb:Value}{b:Tq}(rb:(tPt l).Is h0 vb b)(hcd0:k+l<=10000000000):
 Calls Tryz.prog 154 #[va,vb,vF 121 []] w0 (Ret w0 h0 (λh r=>(tPt (k+l+1+1)).Is h r (T3.mk (a.x-b.x) (a.y-b.y) (a.z-b.z)))):=by
 refine cb3 24 va vb (vF 121 []) func154 hs ?_;refine go2 ?_;refine nB ra λb3 bl ae=>(nB rb λb4 bk ad=>(nA (ρ:=(tPt (k+l+1+1))) (X:=zT) yN (xN (yH oM)) λb6 bj az=>(go4 ?_)));refine nA (ρ:=(tPt (k+l+1+1))) (X:=zT) yN (xN (yH oM)) λb7 bi ay=>(go9 ?_);refine fO (go2 ?_);refine gv (OpV.tr dC (yI (q:=3) I I)) I (tU ?_);refine zK 10 _ [] [(0,.q),(1,.q),(2,.q),(3,.q),(4,.q),(5,.q),(6,.q),(7,.q),(8,.c),(9,.q),(10,.t)] zX nX zob nX (λr hr=>hr) (go4 ?_);refine wX I (xB yC (Pc.tx pH) ae) λax ao=>(go2 ?_);refine wX I (xB yC (Pc.tx pH) ad) λau ak=>?_;refine w_c I (aF (cA (vs:=[_,_]) call121 I e2z) I (λw hs=>fM hs ao ak oM) ?_);intro O h1 bh G
 change (rpQ (k+l+1)).Is h1 O (a.x-b.x) at G
 refine go1 ?_;refine yJ (A:=[]) I (uB sizeOf29 (Pc.tx pH) ay (G.le (Le.q (l:=k+l+1+1) oM))) λbd ac=>(go4 ?_);refine gv ((zQ (q:=1) I I oM oM).cv (show _=vI (1) from I)) I (go2 ?_);refine wG (go2 ?_);refine gv (OpV.tr dC (yI (q:=3) I I)) I (tU ?_);refine zK 10 _ [] [(0,.q),(1,.q),(2,.q),(3,.q),(4,.q),(5,.q),(6,.q),(7,.q),(8,.c),(9,.q),(10,.t)] zX nX zob nX (λr hr=>hr) (go4 ?_);refine wX I (xB yC (Pc.ty pH) ae) λaw an=>(go2 ?_);refine wX I (xB yC (Pc.ty pH) ad) λar aj=>?_;refine w_c I (aF (cA (vs:=[_,_]) call121 I e2z) I (λw hs=>fM hs an aj oM) ?_);intro M h2 bg D
 change (rpQ (k+l+1)).Is h2 M (a.y-b.y) at D
 refine go1 ?_;refine yJ (A:=[]) I (uB sizeOf29 (Pc.ty pH) ac (D.le (Le.q (l:=k+l+1+1) oM))) λbc ab=>(go4 ?_);refine gv ((zQ (q:=1) I I oM oM).cv (show _=vI (2) from I)) I (go2 ?_);refine wG (go2 ?_);refine gv (OpV.tr dC (yI (q:=3) I I)) I (tU ?_);refine zK 10 _ [] [(0,.q),(1,.q),(2,.q),(3,.q),(4,.q),(5,.q),(6,.q),(7,.q),(8,.c),(9,.q),(10,.t)] zX nX zob nX (λr hr=>hr) (go4 ?_);refine wX I (xB yC (Pc.tz pH) ae) λav am=>(go2 ?_);refine wX I (xB yC (Pc.tz pH) ad) λaq ai=>?_;refine w_c I (aF (cA (vs:=[_,_]) call121 I e2z) I (λw hs=>fM hs am ai oM) ?_);intro J h3 bf C
 change (rpQ (k+l+1)).Is h3 J (a.z-b.z) at C
 refine go1 ?_;refine yJ (A:=[]) I (uB sizeOf29 (Pc.tz pH) ab (C.le (Le.q (l:=k+l+1+1) oM))) λbb aa=>(go4 ?_);refine gv ((zQ (q:=1) I I oM oM).cv (show _=vI (3) from I)) I (go2 ?_);refine wG (go2 ?_);refine gv (OpV.fa dC (yI (q:=3) I I)) I (qA ?_);refine lX (xB zH pH aa) λap ah=>(yB (A:=[_]) (uB sizeOf31 pH az ah) λba Z=>(go3 ?_));refine wT (kE (t:=6) zH mh1 I Z) ?_;intro be H U;refine yW (λE S=>zW I H E S) ?_;exact U
theorem zOZ{k l:Nat}{va:Value}{a:Tq}(ra:(tPt k).Is h0 va a){vb:Value}{b:Tq}(rb:(tPt l).Is h0 vb b)(hcd0:k+l<=10000000000):
 Calls Tryz.prog 154 #[va,vb,vF 153 []] w0 (Ret w0 h0 (λh r=>(tPt (k+l+1)).Is h r (T3.mk (a.x*b.x) (a.y*b.y) (a.z*b.z)))):=by
 refine cb3 24 va vb (vF 153 []) func154 hs ?_;refine go2 ?_;refine nB ra λb3 bl am=>(nB rb λb4 bk ak=>(nA (ρ:=(tPt (k+l+1))) (X:=zT) yN (xN (yH oM)) λb6 bj az=>(go4 ?_)));refine nA (ρ:=(tPt (k+l+1))) (X:=zT) yN (xN (yH oM)) λb7 bi ay=>(go9 ?_);refine fO (go2 ?_);refine gv (OpV.tr dC (yI (q:=3) I I)) I (tU ?_);refine zK 10 _ [] [(0,.q),(1,.q),(2,.q),(3,.q),(4,.q),(5,.q),(6,.q),(7,.q),(8,.c),(9,.q),(10,.t)] zX nX zob nX (λr hr=>hr) (go4 ?_);refine wX I (xB yC (Pc.tx pH) am) λax ao=>(go2 ?_);refine wX I (xB yC (Pc.tx pH) ak) λaw an=>?_;refine w_c I (aF (cA (vs:=[_,_]) call153 I e2z) I (λw hs=>kD hs ao an oM) ?_);intro ac h1 bh G
 change (rpQ (k+l)).Is h1 ac (a.x*b.x) at G
 refine go1 ?_;refine yJ (A:=[]) I (uB sizeOf29 (Pc.tx pH) ay (G.le (Le.q (l:=k+l+1) oM))) λbd aj=>(go4 ?_);refine gv ((zQ (q:=1) I I oM oM).cv (show _=vI (1) from I)) I (go2 ?_);refine wG (go2 ?_);refine gv (OpV.tr dC (yI (q:=3) I I)) I (tU ?_);refine zK 10 _ [] [(0,.q),(1,.q),(2,.q),(3,.q),(4,.q),(5,.q),(6,.q),(7,.q),(8,.c),(9,.q),(10,.t)] zX nX zob nX (λr hr=>hr) (go4 ?_);refine wX I (xB yC (Pc.ty pH) am) λav aa=>(go2 ?_);refine wX I (xB yC (Pc.ty pH) ak) λar U=>?_;refine w_c I (aF (cA (vs:=[_,_]) call153 I e2z) I (λw hs=>kD hs aa U oM) ?_);intro J h2 bg D
 change (rpQ (k+l)).Is h2 J (a.y*b.y) at D
 refine go1 ?_;refine yJ (A:=[]) I (uB sizeOf29 (Pc.ty pH) aj (D.le (Le.q (l:=k+l+1) oM))) λbc ai=>(go4 ?_);refine gv ((zQ (q:=1) I I oM oM).cv (show _=vI (2) from I)) I (go2 ?_);refine wG (go2 ?_);refine gv (OpV.tr dC (yI (q:=3) I I)) I (tU ?_);refine zK 10 _ [] [(0,.q),(1,.q),(2,.q),(3,.q),(4,.q),(5,.q),(6,.q),(7,.q),(8,.c),(9,.q),(10,.t)] zX nX zob nX (λr hr=>hr) (go4 ?_);refine wX I (xB yC (Pc.tz pH) am) λau Z=>(go2 ?_);refine wX I (xB yC (Pc.tz pH) ak) λaq O=>?_;refine w_c I (aF (cA (vs:=[_,_]) call153 I e2z) I (λw hs=>kD hs Z O oM) ?_);intro H h3 bf C
 change (rpQ (k+l)).Is h3 H (a.z*b.z) at C
 refine go1 ?_;refine yJ (A:=[]) I (uB sizeOf29 (Pc.tz pH) ai (C.le (Le.q (l:=k+l+1) oM))) λbb ah=>(go4 ?_);refine gv ((zQ (q:=1) I I oM oM).cv (show _=vI (3) from I)) I (go2 ?_);refine wG (go2 ?_);refine gv (OpV.fa dC (yI (q:=3) I I)) I (qA ?_);refine lX (xB zH pH ah) λap M=>(yB (A:=[_]) (uB sizeOf31 pH az M) λba ae=>(go3 ?_));refine wT (kE (t:=6) zH mh1 I ae) ?_;intro be ab ad;refine yW (λE S=>zW I ab E S) ?_;exact ad
theorem yA7{k l:Nat}{va:Value}{a:Tq}(ra:(tPt k).Is h0 va a){vb:Value}{b:Tq}(rb:(tPt l).Is h0 vb b)(hcd0:k+l<=10000000000):
 Calls Tryz.prog 124 #[va,vb] w0 (Ret w0 h0 (λh r=>(tPt (k+l+2)).Is h r (T3.mk (a.x+b.x) (a.y+b.y) (a.z+b.z)))):=by
 refine cb2 8 va vb func124 hs ?_;refine go2 ?_;refine nB ra λb2 ad M=>(nB rb λb3 ac J=>(nA (ρ:=(tPt (k+l+2))) (X:=zT) yN (xN (yH oM)) λb4 ab H=>(go4 ?_)));refine lX (xB zH pH M) λv5 r5=>(lX (xB zH pH J) λv6 r6=>(cL (ev3 I I I) call154 (λw hs=>zO0 hs r5 r6 oM) λv7 h1 aa O=>?_));replace O:=Rp.Is.le O (Le.t (Le.q (l:=k+l+2) oM));refine yB (A:=[]) (uB sizeOf31 pH H O) λU G=>(go3 ?_);refine wT (kE (t:=4) zH mh0 I G) ?_;intro Z C D;refine yW (λE S=>zW I C E S) ?_;exact D
theorem zJQ{k l:Nat}{va:Value}{a:Tq}(ra:(tPt k).Is h0 va a){vb:Value}{b:Tq}(rb:(tPt l).Is h0 vb b)(hcd0:k+l<=10000000000):
 Calls Tryz.prog 115 #[va,vb] w0 (Ret w0 h0 (λh r=>(tPt (k+l+2)).Is h r (T3.mk (a.x-b.x) (a.y-b.y) (a.z-b.z)))):=by
 refine cb2 8 va vb func115 hs ?_;refine go2 ?_;refine nB ra λb2 ad M=>(nB rb λb3 ac J=>(nA (ρ:=(tPt (k+l+2))) (X:=zT) yN (xN (yH oM)) λb4 ab H=>(go4 ?_)));refine lX (xB zH pH M) λv5 r5=>(lX (xB zH pH J) λv6 r6=>(cL (ev3 I I I) call154 (λw hs=>zOY hs r5 r6 oM) λv7 h1 aa O=>?_));replace O:=Rp.Is.le O (Le.t (Le.q (l:=k+l+2) oM));refine yB (A:=[]) (uB sizeOf31 pH H O) λU G=>(go3 ?_);refine wT (kE (t:=4) zH mh0 I G) ?_;intro Z C D;refine yW (λE S=>zW I C E S) ?_;exact D
theorem zSW{l k:Nat}{vq:Value}{q:Rat}(rq:(rpQ l).Is h0 vq q){va:Value}{a:Tq}(ra:(tPt k).Is h0 va a)(hcd0:k+l<=1000000000):
 Calls Tryz.prog 125 #[vq,va] w0 (Ret w0 h0 (λh r=>(tPt (k+l+2)).Is h r (T3.mk (q*a.x) (q*a.y) (q*a.z)))):=by
 refine cb2 11 vq va func125 hs ?_;refine go2 ?_;refine nB rq λb2 ae H=>(nB ra λb3 ad O=>(nA (ρ:=(tPt (k+l+2))) (X:=zT) yN (xN (yH oM)) λb4 ac M=>(go4 ?_)));refine lX (xB yC pH H) λv5 r5=>(lX (xB yC pH H) λv6 r6=>(lX (xB yC pH H) λv7 r7=>(lX (xV (ρ:=(tPt (l+1))) (wD (ps':=[(0,_),(1,_),(2,_)]) underlying31 yN I I sizeOf29 e6z I (xN (yH oM)) (zD I (Pc.tx (Pc.here _)) (r5.le (Le.q (l:=l+1) oM)) (zD I (Pc.ty (Pc.here _)) (r6.le (Le.q (l:=l+1) oM)) (zD I (Pc.tz (Pc.here _)) (r7.le (Le.q (l:=l+1) oM)) zO))))) λv8 r8=>(lX (xB zH pH O) λv9 r9=>(cL (ev3 I I I) call154 (λw hs=>zOZ hs r8 r9 oM) λaa h1 ab J=>?_)))));replace J:=Rp.Is.le J (Le.t (Le.q (l:=k+l+2) oM));refine yB (A:=[]) (uB sizeOf31 pH M J) λU G=>(go3 ?_);refine wT (kE (t:=4) zH mh0 I G) ?_;intro Z C D;refine yW (λE S=>zW I C E S) ?_;exact D
theorem zD3{k l:Nat}{va:Value}{a:Tq}(ra:(tPt k).Is h0 va a){vb:Value}{b:Tq}(rb:(tPt l).Is h0 vb b)(hcd0:k+l<=1000000000):
 Calls Tryz.prog 120 #[va,vb] w0 (Ret w0 h0 (λh r=>(rpQ (3*k+3*l+9)).Is h r (xE a b))):=by
 refine cb2 21 va vb func120 hs ?_;refine go2 ?_;refine nB ra λb2 ce bc=>(nB rb λb3 cd bb=>(nA (ρ:=(rpQ (3*k+3*l+9))) (X:=(0:Rat)) xU (yH oM) λb4 cc bo=>(go4 ?_)));refine nA (ρ:=(rpQ 1)) (X:=(0:Rat)) xU (yH dC) λb5 cb bd=>(go9 ?_);refine fO (go2 ?_);refine gv (OpV.tr dC (yI (q:=3) I I)) I (tU ?_);refine zK 9 _ [] [(0,.q),(1,.q),(2,.q),(3,.q),(4,.q),(5,.q),(6,.q),(7,.c),(8,.c),(9,.t)] zX nX zob nX (λr hr=>hr) (wX I (xB yC pH bd) λbn ar=>(go2 ?_));refine wX I (xB yC (Pc.tx pH) bc) λbk ao=>(go2 ?_);refine wX I (xB yC (Pc.tx pH) bb) λbh ak=>?_;refine w_c I (sC (ev2 I I) call153 (λw hs=>kD hs ao ak oM) λae h1 ca M=>?_)
 change (rpQ (k+l)).Is h1 ae (a.x*b.x) at M
 refine w_c I (sC (ev2 I I) call160 (λw hs=>aO hs ar.up M oM) λab h2 bz G=>?_)
 change (rpQ (1+(k+l)+1)).Is h2 ab ((0:Rat)+(a.x*b.x)) at G
 replace G:=Rp.Is.le G (Le.q (l:=k+l+2) oM);have ax:=(Le.q (l:=k+l+2) oM).R bd;refine yJ (A:=[]) I (uB sizeOf29 pH ax G) λbs U=>(go4 ?_);refine gv ((zQ (q:=1) I I oM oM).cv (show _=vI (1) from I)) I (go2 ?_);refine wG (go2 ?_);refine gv (OpV.tr dC (yI (q:=3) I I)) I (tU ?_);refine zK 9 _ [] [(0,.q),(1,.q),(2,.q),(3,.q),(4,.q),(5,.q),(6,.q),(7,.c),(8,.c),(9,.t)] zX nX zob nX (λr hr=>hr) (wX I (xB yC pH U) λbm aq=>(go2 ?_));refine wX I (xB yC (Pc.ty pH) bc) λbj an=>(go2 ?_);refine wX I (xB yC (Pc.ty pH) bb) λbg aj=>?_;refine w_c I (sC (ev2 I I) call153 (λw hs=>kD hs an aj oM) λad h3 bx J=>?_)
 change (rpQ (k+l)).Is h3 ad (a.y*b.y) at J
 refine w_c I (sC (ev2 I I) call160 (λw hs=>aO hs aq.up J oM) λaa h4 bw D=>?_)
 change (rpQ ((k+l+2)+(k+l)+1)).Is h4 aa (((0:Rat)+(a.x*b.x))+(a.y*b.y)) at D
 replace D:=Rp.Is.le D (Le.q (l:=2*k+2*l+3) oM);have aw:=(Le.q (l:=2*k+2*l+3) oM).R U;refine yJ (A:=[]) I (uB sizeOf29 pH aw D) λbr O=>(go4 ?_);refine gv ((zQ (q:=1) I I oM oM).cv (show _=vI (2) from I)) I (go2 ?_);refine wG (go2 ?_);refine gv (OpV.tr dC (yI (q:=3) I I)) I (tU ?_);refine zK 9 _ [] [(0,.q),(1,.q),(2,.q),(3,.q),(4,.q),(5,.q),(6,.q),(7,.c),(8,.c),(9,.t)] zX nX zob nX (λr hr=>hr) (wX I (xB yC pH O) λbl ap=>(go2 ?_));refine wX I (xB yC (Pc.tz pH) bc) λbi am=>(go2 ?_);refine wX I (xB yC (Pc.tz pH) bb) λbf ai=>?_;refine w_c I (sC (ev2 I I) call153 (λw hs=>kD hs am ai oM) λac h5 bv H=>?_)
 change (rpQ (k+l)).Is h5 ac (a.z*b.z) at H
 refine w_c I (sC (ev2 I I) call160 (λw hs=>aO hs ap.up H oM) λZ h6 bu C=>?_)
 change (rpQ ((2*k+2*l+3)+(k+l)+1)).Is h6 Z ((((0:Rat)+(a.x*b.x))+(a.y*b.y))+(a.z*b.z)) at C
 replace C:=Rp.Is.le C (Le.q (l:=3*k+3*l+4) oM);have av:=(Le.q (l:=3*k+3*l+4) oM).R O;refine yJ (A:=[]) I (uB sizeOf29 pH av C) λbq ba=>(go4 ?_);refine gv ((zQ (q:=1) I I oM oM).cv (show _=vI (3) from I)) I (go2 ?_);refine wG (go2 ?_);refine gv (OpV.fa dC (yI (q:=3) I I)) I (qA ?_);refine lX (xB yC pH ba) λbe ah=>(yB (A:=[_]) (uB sizeOf29 pH bo (ah.le (Le.q (l:=3*k+3*l+9) oM))) λbp az=>(go3 ?_));refine wT (kE (t:=4) yC mh1 I az) ?_;intro bt au ay;refine yW (λE S=>zW I au E S) ?_;exact(Rp.Is.cast ay (by unfold xE;grind))
theorem zH2{k l:Nat}{va:Value}{a:Tq}(ra:(tPt k).Is h0 va a){vb:Value}{b:Tq}(rb:(tPt l).Is h0 vb b)(hcd0:k+l<=1000000000):
 Calls Tryz.prog 114 #[va,vb] w0 (Ret w0 h0 (λh r=>(tPt (2*k+2*l+3)).Is h r (xH a b))):=by
 refine cb2 37 va vb func114 hs ?_;refine go2 ?_;refine nB ra λb2 cq ab=>(nB rb λb3 cp aa=>(nA (ρ:=(tPt (2*k+2*l+3))) (X:=zT) yN (xN (yH oM)) λb4 co bx=>(go4 ?_)));refine nA (ρ:=(tPt (2*k+2*l+3))) (X:=zT) yN (xN (yH oM)) λb5 cn bw=>(go9 ?_);refine fO (go2 ?_);refine gv (OpV.tr dC (yI (q:=3) I I)) I (mF ?_);refine gv ((zQ (q:=1) I I oM oM).cv (show _=vI (1) from I)) I (gv ((wA (q:=3) I I oM oM).cv (show _=vI (1) from I)) I (go1 ?_));refine gv ((zQ (q:=2) I I oM oM).cv (show _=vI (2) from I)) I (gv ((wA (q:=3) I I oM oM).cv (show _=vI (2) from I)) I (go4 ?_));refine zK 17 _ [] [(0,.q),(1,.q),(2,.q),(3,.q),(4,.q),(5,.q),(6,.q),(8,.q),(9,.q),(10,.q),(11,.q),(12,.q),(13,.q),(7,.c),(14,.c),(15,.c),(16,.q),(17,.t)] zX nX (wJ zob) nX (λr hr=>hr) (go3 ?_);refine wX I (xB yC (Pc.ty pH) ab) λbv bc=>(go2 ?_);refine wX I (xB yC (Pc.tz pH) aa) λbs az=>(go2 ?_);refine wX I (xB yC (Pc.tz pH) ab) λbp aw=>(go2 ?_);refine wX I (xB yC (Pc.ty pH) aa) λbm ar=>?_;refine w_c I (sC (ev2 I I) call153 (λw hs=>kD hs bc az oM) λan h1 cm Z=>?_)
 change (rpQ (k+l)).Is h1 an (a.y*b.z) at Z
 refine w_c I (sC (ev2 I I) call153 (λw hs=>kD hs aw.up ar.up oM) λaj h2 cl M=>?_)
 change (rpQ (k+l)).Is h2 aj (a.z*b.y) at M
 refine w_c I (sC (ev2 I I) call121 (λw hs=>fM hs Z.up M oM) λae h3 ck G=>?_)
 change (rpQ ((k+l)+(k+l)+1)).Is h3 ae ((a.y*b.z)-(a.z*b.y)) at G
 replace G:=Rp.Is.le G (Le.q (l:=2*k+2*l+1) oM);refine go1 ?_;refine yJ (A:=[]) I (uB sizeOf29 (Pc.tx pH) bw (G.le (Le.q (l:=2*k+2*l+3) oM))) λcc bi=>(go4 ?_);refine gv ((zQ (q:=1) I I oM oM).cv (show _=vI (1) from I)) I (go2 ?_);refine wG (go2 ?_);refine gv (OpV.tr dC (yI (q:=3) I I)) I (mF ?_);refine gv ((zQ (q:=1) I I oM oM).cv (show _=vI (2) from I)) I (gv ((wA (q:=3) I I oM oM).cv (show _=vI (2) from I)) I (go1 ?_));refine gv ((zQ (q:=2) I I oM oM).cv (show _=vI (3) from I)) I (gv ((wA (q:=3) I I oM oM).cv (show _=vI (0) from I)) I (go4 ?_));refine zK 17 _ [] [(0,.q),(1,.q),(2,.q),(3,.q),(4,.q),(5,.q),(6,.q),(8,.q),(9,.q),(10,.q),(11,.q),(12,.q),(13,.q),(7,.c),(14,.c),(15,.c),(16,.q),(17,.t)] zX nX (wJ zob) nX (λr hr=>hr) (go3 ?_);refine wX I (xB yC (Pc.tz pH) ab) λbu bb=>(go2 ?_);refine wX I (xB yC (Pc.tx pH) aa) λbr ay=>(go2 ?_);refine wX I (xB yC (Pc.tx pH) ab) λbo av=>(go2 ?_);refine wX I (xB yC (Pc.tz pH) aa) λbl aq=>?_;refine w_c I (sC (ev2 I I) call153 (λw hs=>kD hs bb ay oM) λam h4 cj U=>?_)
 change (rpQ (k+l)).Is h4 am (a.z*b.x) at U
 refine w_c I (sC (ev2 I I) call153 (λw hs=>kD hs av.up aq.up oM) λai h5 ci J=>?_)
 change (rpQ (k+l)).Is h5 ai (a.x*b.z) at J
 refine w_c I (sC (ev2 I I) call121 (λw hs=>fM hs U.up J oM) λad h6 ch D=>?_)
 change (rpQ ((k+l)+(k+l)+1)).Is h6 ad ((a.z*b.x)-(a.x*b.z)) at D
 replace D:=Rp.Is.le D (Le.q (l:=2*k+2*l+1) oM);refine go1 ?_;refine yJ (A:=[]) I (uB sizeOf29 (Pc.ty pH) bi (D.le (Le.q (l:=2*k+2*l+3) oM))) λcb bh=>(go4 ?_);refine gv ((zQ (q:=1) I I oM oM).cv (show _=vI (2) from I)) I (go2 ?_);refine wG (go2 ?_);refine gv (OpV.tr dC (yI (q:=3) I I)) I (mF ?_);refine gv ((zQ (q:=1) I I oM oM).cv (show _=vI (3) from I)) I (gv ((wA (q:=3) I I oM oM).cv (show _=vI (0) from I)) I (go1 ?_));refine gv ((zQ (q:=2) I I oM oM).cv (show _=vI (4) from I)) I (gv ((wA (q:=3) I I oM oM).cv (show _=vI (1) from I)) I (go4 ?_));refine zK 17 _ [] [(0,.q),(1,.q),(2,.q),(3,.q),(4,.q),(5,.q),(6,.q),(8,.q),(9,.q),(10,.q),(11,.q),(12,.q),(13,.q),(7,.c),(14,.c),(15,.c),(16,.q),(17,.t)] zX nX (wJ zob) nX (λr hr=>hr) (go3 ?_);refine wX I (xB yC (Pc.tx pH) ab) λbt ba=>(go2 ?_);refine wX I (xB yC (Pc.ty pH) aa) λbq ax=>(go2 ?_);refine wX I (xB yC (Pc.ty pH) ab) λbn au=>(go2 ?_);refine wX I (xB yC (Pc.tx pH) aa) λbk ap=>?_;refine w_c I (sC (ev2 I I) call153 (λw hs=>kD hs ba ax oM) λak h7 cg O=>?_)
 change (rpQ (k+l)).Is h7 ak (a.x*b.y) at O
 refine w_c I (sC (ev2 I I) call153 (λw hs=>kD hs au.up ap.up oM) λah h8 cf H=>?_)
 change (rpQ (k+l)).Is h8 ah (a.y*b.x) at H
 refine w_c I (sC (ev2 I I) call121 (λw hs=>fM hs O.up H oM) λac h9 ce C=>?_)
 change (rpQ ((k+l)+(k+l)+1)).Is h9 ac ((a.x*b.y)-(a.y*b.x)) at C
 replace C:=Rp.Is.le C (Le.q (l:=2*k+2*l+1) oM);refine go1 ?_;refine yJ (A:=[]) I (uB sizeOf29 (Pc.tz pH) bh (C.le (Le.q (l:=2*k+2*l+3) oM))) λca bg=>(go4 ?_);refine gv ((zQ (q:=1) I I oM oM).cv (show _=vI (3) from I)) I (go2 ?_);refine wG (go2 ?_);refine gv (OpV.fa dC (yI (q:=3) I I)) I (qA ?_);refine lX (xB zH pH bg) λbj ao=>(yB (A:=[_]) (uB sizeOf31 pH bx ao) λbz bf=>(go3 ?_));refine wT (kE (t:=4) zH mh1 I bf) ?_;intro cd bd be;refine yW (λE S=>zW I bd E S) ?_;exact be
theorem zLS{k l:Nat}{va:Value}{a:Tq}(ra:(tPt k).Is h0 va a){vb:Value}{b:Tq}(rb:(tPt l).Is h0 vb b)(hcd0:k+l<=10000000000):
 Calls Tryz.prog 119 #[va,vb] w0 (Ret w0 h0 (λ_ r=>r=vB (a=b))):=by
 refine cb2 18 va vb func119 hs ?_;refine go2 ?_;refine nB ra λb2 av ah=>(nB rb λb3 au ae=>(uE ?_));refine fO (go2 ?_);refine gv (OpV.tr dC (yI (q:=3) I I)) I (sZ ?_);refine zK 8 _ [] [(0,.q),(1,.q),(2,.q),(3,.q),(4,.q),(5,.q),(6,.c),(7,.q)] zX nX zob nX (λr hr=>hr) (go2 ?_);refine wX I (xB yC (Pc.tx pH) ah) λao ad=>(go2 ?_);refine wX I (xB yC (Pc.tx pH) ae) λak aa=>?_;refine w_c I (sC (ev2 I I) call159 (λw hs=>j5 hs ad aa oM) λH h1 ar O=>?_);obtain rfl:H=vB (a.x=b.x):=O;refine gc3 (λC=>?_) λC=>?_
 ·
  refine qA ?_;refine zC I I ?_
  first|exact(xK (by rw[tR];grind)).symm|exact(yG (by rw[tR];grind)).symm
 refine go4 ?_;refine gv ((zQ (q:=1) I I oM oM).cv (show _=vI (1) from I)) I (go2 ?_);refine wG (go2 ?_);refine gv (OpV.tr dC (yI (q:=3) I I)) I (sZ ?_);refine zK 8 _ [] [(0,.q),(1,.q),(2,.q),(3,.q),(4,.q),(5,.q),(6,.c),(7,.q)] zX nX zob nX (λr hr=>hr) (go2 ?_);refine wX I (xB yC (Pc.ty pH) ah) λan ac=>(go2 ?_);refine wX I (xB yC (Pc.ty pH) ae) λaj Z=>?_;refine w_c I (sC (ev2 I I) call159 (λw hs=>j5 hs ac Z oM) λG h2 aq M=>?_);obtain rfl:G=vB (a.y=b.y):=M;refine gc3 (λC=>?_) λC=>?_
 ·
  refine qA ?_;refine zC I I ?_
  first|exact(xK (by rw[tR];grind)).symm|exact(yG (by rw[tR];grind)).symm
 refine go4 ?_;refine gv ((zQ (q:=1) I I oM oM).cv (show _=vI (2) from I)) I (go2 ?_);refine wG (go2 ?_);refine gv (OpV.tr dC (yI (q:=3) I I)) I (sZ ?_);refine zK 8 _ [] [(0,.q),(1,.q),(2,.q),(3,.q),(4,.q),(5,.q),(6,.c),(7,.q)] zX nX zob nX (λr hr=>hr) (go2 ?_);refine wX I (xB yC (Pc.tz pH) ah) λam ab=>(go2 ?_);refine wX I (xB yC (Pc.tz pH) ae) λai U=>?_;refine w_c I (sC (ev2 I I) call159 (λw hs=>j5 hs ab U oM) λD h3 ap J=>?_);obtain rfl:D=vB (a.z=b.z):=J;refine gc3 (λC=>?_) λC=>?_
 ·
  refine qA ?_;refine zC I I ?_
  first|exact(xK (by rw[tR];grind)).symm|exact(yG (by rw[tR];grind)).symm
 refine go4 ?_;refine gv ((zQ (q:=1) I I oM oM).cv (show _=vI (3) from I)) I (go2 ?_);refine wG (go2 ?_);refine gv (OpV.fa dC (yI (q:=3) I I)) I (sZ ?_);refine zC I I ?_
 first|exact(xK (by rw[tR];grind)).symm|exact(yG (by rw[tR];grind)).symm
theorem zLR{k:Nat}{va:Value}{a:Tq}(ra:(tPt k).Is h0 va a)(hcd0:k<=1000000000):
 Calls Tryz.prog 78 #[va] w0 (Ret w0 h0 (λ_ r=>r=vB (a=zT))):=by
 refine cb1 6 va func78 hs ?_;refine go2 ?_;refine nB ra λM J C=>(go5 ?_);refine lX (xB zH pH C) λv3 r3=>(lX (xV (ρ:=(tPt 1)) (wD (ps':=[]) underlying31 yN I I sizeOf29 trivial I (xN (yH dC)) zO)) λv4 r4=>(cL (ev2 I I) call119 (λw hs=>zLS hs r3 r4 oM) λD h1 H G=>?_));obtain rfl:D=vB (a=zT):=G;refine go4 ?_;refine zC I I ?_
 rfl
end
end Go.Proofs.YtpkaegemlpaenaaGreat
