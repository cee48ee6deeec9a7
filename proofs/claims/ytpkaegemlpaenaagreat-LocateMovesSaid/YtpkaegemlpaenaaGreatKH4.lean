/- Texts that the proof needs, part 4. -/
import Derived.Test.YtpkaegemlpaenaaGreatKH3
set_option linter.unusedVariables false
set_option linter.unusedSimpArgs false
noncomputable section
set_option maxRecDepth 10000
set_option maxHeartbeats 1000000
namespace Go.Proofs.YtpkaegemlpaenaaGreat
open Bk Go Tryz
attribute [local irreducible] GL GC GQ W OpV
section
variable{w0:World}{h0:Mem}(hs:MLe h0 (mem w0))
include hs
theorem pS{s:Prop}{vn vd:Value}{xs ys:List Nat}(hn:Us .u32 h0 vn xs)(hd:Us .u32 h0 vd ys)(hl:xs.length<=500000000000)(hl':ys.length<=500000000000)(hd0:val ys≠0):
 y8i 82 #[vB s,vn,vd] w0 h0 (λh r=>vQ h r (mkRat (sg s (val xs)) (val ys))):=by
 have bd:=qA hn.lt;have bc:=qA hd.lt;refine cb3 55 (vB s) vn vd func82 hs ?_;refine go2 ?_;refine zG (vY (cs:=[vB ((0:Rat).num<0),.slice none 0 0,.slice none 0 0]) xU I (by simp only[zb];rfl)) I I I ?_;intro v6 r6 ap;obtain⟨b6,rfl,rfl⟩:=ap;refine go5 ?_;refine cL (ev1 I) call92 (λw hs=>tS hs hn oM) λv9 h1 aw D=>(go1 ?_);replace hd:=hd.mono aw;refine cL (ev1 I) call92 (λw hs=>tS hs hd oM) λaj h2 av H=>?_;replace D:=D.mono av;refine zI8 (λao=>?_) λao=>?_
 ·
  refine go2 ?_;refine gv (wJ (ps':=[]) (vs:=[vB ((0:Rat).num<0),.slice none 0 0,.slice none 0 0]) underlying29 xU I (qG underlying29) trivial (by simp only[zb];exact jX)) I (wT (A:=[]) (r':=.var b6 29 [vB ((0:Rat).num<0),.slice none 0 0,.slice none 0 0]) (zM (k:=0) (cs:=[_,_,_]) (vs:=[_,_,_]) I I I I yF (bL I)) I I I (go4 ?_));refine yN (λE S=>zS I (vD (cs:=[_,_,_]) mh0 underlying29 I yF I) E S) ?_;have e:val xs=0:=zdu λe=>by have:=yP.2 e;omega
  rw[e,zB4];exact vQ.zero _
 have ae:val xs≠0:=yP.1 oM;have be:Nat.gcd (val xs) (val ys)≠0:=yru (yhu _ oM);refine go6 ?_;refine cL (ev2 I I) call126 (λw hs=>yE3 hs D H oM oM) λaz h3 ab O=>?_;have au:=s6 ((val (xs))) ((val (ys)));refine go9 ?_;refine gU 6 27 (vB (((↑(zB (Nat.gcd ((val (xs))) ((val (ys))))).length:Int)≠(1:Int))\/(((zB (Nat.gcd ((val (xs))) ((val (ys))))).getD (0) 0)≠(1:Nat)))) ?_ ?_
 ·
  refine zY ((↑(zB (Nat.gcd ((val (xs))) ((val (ys))))).length:Int)≠(1:Int)) (λU=>?_) (λU=>?_)
  ·
   refine gT U I (go6 ?_);refine gqU ?_;exact y4e (uH U)
  refine gF U I (go3 ?_);refine gv (zV (q:=0) (0) underlying27 sizeOf124 I I O I oM) I (go3 ?_);refine gv (tU (k:=.u32) (q:=1) I I) I (go2 ?_);refine gqU ?_;exact y4e (uJ U)
 refine gc2 (λac=>?_) λac=>?_
 ·
  refine go4 ?_;replace D:=D.mono ab;refine cL (ev2 I I) call127 (λw hs=>zLC hs D O oM oM) λay h4 an ai=>?_;obtain⟨ad,bb,rfl,J,ai⟩:=ai;have ar:=yL (zti ((val (xs))) ((Nat.gcd ((val (xs))) ((val (ys))))));refine uR ?_;replace H:=H.mono (ab.trans an);replace O:=O.mono an;refine cL (ev2 I I) call127 (λw hs=>zLC hs H O oM oM) λax h5 am ah=>?_;obtain⟨ak,ba,rfl,Z,ah⟩:=ah;have aq:=yL (zti ((val (ys))) ((Nat.gcd ((val (xs))) ((val (ys))))));refine rS ?_;refine gU 6 50 (vB (((↑(zB (((val (ys)))/((Nat.gcd ((val (xs))) ((val (ys))))))).length:Int)=(1:Int))/\(((zB (((val (ys)))/((Nat.gcd ((val (xs))) ((val (ys))))))).getD (0) 0)=(1:Nat)))) ?_ ?_
  ·
   refine zY ((↑(zB (((val (ys)))/((Nat.gcd ((val (xs))) ((val (ys))))))).length:Int)=(1:Int)) (λU=>?_) (λU=>?_)
   ·
    refine gT U I (go3 ?_);refine gv (zV (q:=0) (0) underlying27 sizeOf124 I I Z I oM) I (go3 ?_);refine gv (fS (k:=.u32) (q:=1) I I) I (go2 ?_);refine gqU ?_;exact y4e (xD U)
   refine gF U I (go6 ?_);refine gqU ?_;exact y4e (xE U)
  refine gc2 (λM=>?_) λM=>?_
  ·
   refine go9 ?_;replace J:=J.mono am;refine gv (wJ (ps':=[(0,_),(1,_),(2,_)]) (vs:=[vB s,ad,.slice none 0 0]) underlying29 xU I (qG underlying29) e6 (vO (A:=[]) (B:=[_]) (C:=[_,_]) (cs:=[_]) (off:=0) (size:=1) I I I I I (vO (A:=[_]) (B:=[_]) (C:=[_]) (cs:=[_]) (off:=1) (size:=1) I I I I J.cells (vO (A:=[_,_]) (B:=[_]) (C:=[]) (cs:=[_]) (off:=2) (size:=1) I I I I I jX)))) I (wT (A:=[]) (r':=.var b6 29 [vB s,ad,.slice none 0 0]) (zM (k:=0) (cs:=[_,_,_]) (vs:=[_,_,_]) I I I (ocr I (ocu J (ocr I oc0))) yF (bL I)) I I I (go3 ?_));refine yN (λE S=>zS I (vD (cs:=[_,_,_]) mh0 underlying29 I yF I) E S) ?_;exact vQ.fin1 ae hd0 J M
  refine go7 ?_;replace J:=J.mono am;refine gv (wJ (ps':=[(0,_),(1,_),(2,_)]) (vs:=[vB s,ad,ak]) underlying29 xU I (qG underlying29) e6 (vO (A:=[]) (B:=[_]) (C:=[_,_]) (cs:=[_]) (off:=0) (size:=1) I I I I I (vO (A:=[_]) (B:=[_]) (C:=[_]) (cs:=[_]) (off:=1) (size:=1) I I I I J.cells (vO (A:=[_,_]) (B:=[_]) (C:=[]) (cs:=[_]) (off:=2) (size:=1) I I I I Z.cells jX)))) I (wT (A:=[]) (r':=.var b6 29 [vB s,ad,ak]) (zM (k:=0) (cs:=[_,_,_]) (vs:=[_,_,_]) I I I (ocr I (ocu J (ocu Z oc0))) yF (bL I)) I I I (go3 ?_));refine yN (λE S=>zS I (vD (cs:=[_,_,_]) mh0 underlying29 I yF I) E S) ?_;exact vQ.fin ae hd0 J Z M
 replace H:=H.mono ab;refine go8 ?_;refine gU 6 50 (vB (((↑(zB (val (ys))).length:Int)=(1:Int))/\(((zB (val (ys))).getD (0) 0)=(1:Nat)))) ?_ ?_
 ·
  refine zY ((↑(zB (val (ys))).length:Int)=(1:Int)) (λU=>?_) (λU=>?_)
  ·
   refine gT U I (go3 ?_);refine gv (zV (q:=0) (0) underlying27 sizeOf124 I I H I oM) I (go3 ?_);refine gv (fS (k:=.u32) (q:=1) I I) I (go2 ?_);refine gqU ?_;exact y4e (xD U)
  refine gF U I (go6 ?_);refine gqU ?_;exact y4e (xE U)
 refine gc2 (λM=>?_) λM=>?_
 ·
  refine go9 ?_;replace D:=D.mono ab;refine gv (wJ (ps':=[(0,_),(1,_),(2,_)]) (vs:=[vB s,v9,.slice none 0 0]) underlying29 xU I (qG underlying29) e6 (vO (A:=[]) (B:=[_]) (C:=[_,_]) (cs:=[_]) (off:=0) (size:=1) I I I I I (vO (A:=[_]) (B:=[_]) (C:=[_]) (cs:=[_]) (off:=1) (size:=1) I I I I D.cells (vO (A:=[_,_]) (B:=[_]) (C:=[]) (cs:=[_]) (off:=2) (size:=1) I I I I I jX)))) I (wT (A:=[]) (r':=.var b6 29 [vB s,v9,.slice none 0 0]) (zM (k:=0) (cs:=[_,_,_]) (vs:=[_,_,_]) I I I (ocr I (ocu D (ocr I oc0))) yF (bL I)) I I I (go3 ?_));refine yN (λE S=>zS I (vD (cs:=[_,_,_]) mh0 underlying29 I yF I) E S) ?_;have aa:=zHZ ac;exact vQ.fin1 ae hd0 (by rw[aa,z4i];exact D) (by rw[aa,z4i];exact M)
 refine go7 ?_;replace D:=D.mono ab;refine gv (wJ (ps':=[(0,_),(1,_),(2,_)]) (vs:=[vB s,v9,aj]) underlying29 xU I (qG underlying29) e6 (vO (A:=[]) (B:=[_]) (C:=[_,_]) (cs:=[_]) (off:=0) (size:=1) I I I I I (vO (A:=[_]) (B:=[_]) (C:=[_]) (cs:=[_]) (off:=1) (size:=1) I I I I D.cells (vO (A:=[_,_]) (B:=[_]) (C:=[]) (cs:=[_]) (off:=2) (size:=1) I I I I H.cells jX)))) I (wT (A:=[]) (r':=.var b6 29 [vB s,v9,aj]) (zM (k:=0) (cs:=[_,_,_]) (vs:=[_,_,_]) I I I (ocr I (ocu D (ocu H oc0))) yF (bL I)) I I I (go3 ?_));refine yN (λE S=>zS I (vD (cs:=[_,_,_]) mh0 underlying29 I yF I) E S) ?_;have aa:=zHZ ac;exact vQ.fin ae hd0 (by rw[aa,z4i];exact D) (by rw[aa,z4i];exact H) (by rw[aa,z4i];exact M)
theorem zDA{n:Int}(hn1:-9223372036854775808<=n)(hn2:n<9223372036854775808):
 y8i 61 #[vI n] w0 h0 (λh r=>∃u,r=.tuple #[u,vB (n<0)]/\Us .u32 h u (zB n.natAbs)):=by
 refine cb1 15 (vI n) func61 hs ?_;refine rS ?_;refine cnd (λC=>?_) λC=>?_
 ·
  refine go4 ?_;refine gv (mR I oM oM) I (gv (zAJ (p:=(-(n+1)).toNat) (k':=.u64) (W:=18446744073709551616) underlying2 underlying125 I I (y4e (zbi vI oM)) oM) I (gv (sQ (k:=.u64) (q:=1) (W:=18446744073709551616) I I I I oM) I (cL (ev1 I) call96 (λw hs=>zAH hs oM) λO h1 J H=>(go6 ?_))));refine wY I I I ?_;rw[xW C,show n.natAbs=(-(n+1)).toNat+1 by omega];exact⟨_,I,H⟩
 refine go5 ?_;refine gv (zAJ (p:=n.toNat) (k':=.u64) (W:=18446744073709551616) underlying2 underlying125 I I (y4e (zbi vI oM)) oM) I (cL (ev1 I) call96 (λw hs=>zAH hs oM) λM h1 J D=>(go5 ?_));refine wY I I I ?_;rw[yM C,show n.natAbs=n.toNat by omega];exact⟨_,I,D⟩
theorem zVU{n:Int}(hn1:-9223372036854775808<=n)(hn2:n<9223372036854775808){d:Int}(hd1:-9223372036854775808<=d)(hd2:d<9223372036854775808):
 y8i 54 #[vI n,vI d] w0 h0 (λh r=>∃u,r=.tuple #[u,vI (if d=0 then 3 else 0)]/\vQ h u (kP n d)):=by
 refine cb2 29 (vI n) (vI d) func54 hs ?_;refine go2 ?_;refine zG (vY (cs:=[vB ((0:Rat).num<0),.slice none 0 0,.slice none 0 0]) xU I (by simp only[zb];rfl)) I I I ?_;intro v4 r4 ac;obtain⟨b4,rfl,rfl⟩:=ac;refine zAY (λC=>?_) λC=>?_
 ·
  refine go2 ?_;refine gv (wJ (ps':=[]) (vs:=[vB ((0:Rat).num<0),.slice none 0 0,.slice none 0 0]) underlying29 xU I (qG underlying29) trivial (by simp only[zb];exact jX)) I (wT (A:=[]) (r':=.var b4 29 [vB ((0:Rat).num<0),.slice none 0 0,.slice none 0 0]) (zM (k:=0) (cs:=[_,_,_]) (vs:=[_,_,_]) I I I I yF (bL I)) I I I (go5 ?_));refine yN (λE S=>qO I (vD (cs:=[_,_,_]) mh0 underlying29 I yF I) (gH I) E S) ?_;rw[zau C,C,zHL];exact⟨_,I,vQ.zero _⟩
 have aq:d.natAbs≠0:=by omega
 refine go5 ?_;refine cL (ev1 I) call61 (λw hs=>zDA hs oM oM) λak h1 ap ab=>?_;obtain⟨an,rfl,D⟩:=ab;have ae:=fI (n:=n) oM oM;refine uR ?_;refine cL (ev1 I) call61 (λw hs=>zDA hs oM oM) λaj h2 ah aa=>?_;obtain⟨am,rfl,Z⟩:=aa;have ad:=fI (n:=d) oM oM;refine qE ?_;refine gv (sO underlying4 I I) I (go2 ?_);replace D:=D.mono ah;refine cL (ev3 I I I) call82 (λw hs=>pS hs D Z oM oM (by first|(simp only[zE];omega)|(simp only[zE];first|exact z0u _|exact z5i (z0u _) (z0u _)|exact yji|assumption)|assumption)) λai h3 ao H=>?_
 try simp only[zE] at H
 obtain⟨O,U,rfl,J,M⟩:=H;refine wT (A:=[]) (r':=.var b4 29 [vB ((mkRat (sg (¬((n<0)↔(d<0))) (((n).natAbs))) (((d).natAbs))).num<0),O,U]) (zM (k:=0) (cs:=[_,_,_]) (vs:=[_,_,_]) I I I (ocr I (ocu J (ocu M oc0))) yF (bL I)) I I I (go4 ?_);refine yN (λE S=>qO I (vD (cs:=[_,_,_]) mh0 underlying29 I yF I) (gH I) E S) ?_;rw[zae C,<-zO3 C];exact⟨_,I,_,_,I,J,M⟩
theorem zY7{n:Int}(hn1:-9223372036854775808<=n)(hn2:n<9223372036854775808):
 y8i 27 #[vI n] w0 h0 (λh r=>vQ h r (n:Rat)):=by
 refine cb1 13 (vI n) func27 hs ?_;refine go2 ?_;refine zG (vY (cs:=[vB ((0:Rat).num<0),.slice none 0 0,.slice none 0 0]) xU I (by simp only[zb];rfl)) I I I ?_;intro v2 r2 J;obtain⟨Z,rfl,rfl⟩:=J;refine go5 ?_;refine cL (ev1 I) call61 (λw hs=>zDA hs oM oM) λv7 h1 U H=>?_;obtain⟨M,rfl,D⟩:=H;have O:=fI (n:=n) oM oM;refine qE ?_;refine gv (wJ (ps':=[(0,_),(1,_)]) (vs:=[vB (n<0),M,.slice none 0 0]) underlying29 xU I (qG underlying29) e4z (vO (A:=[]) (B:=[_]) (C:=[_,_]) (cs:=[_]) (off:=0) (size:=1) I I I I I (vO (A:=[_]) (B:=[_]) (C:=[_]) (cs:=[_]) (off:=1) (size:=1) I I I I D.cells jX))) I (wT (A:=[]) (r':=.var Z 29 [vB (n<0),M,.slice none 0 0]) (zM (k:=0) (cs:=[_,_,_]) (vs:=[_,_,_]) I I I (ocr I (ocu D (ocr I oc0))) yF (bL I)) I I I (go3 ?_));refine yN (λE S=>zS I (vD (cs:=[_,_,_]) mh0 underlying29 I yF I) E S) ?_;exact vQ.int D
theorem zDC{n:Int}(hn1:-9223372036854775808<=n)(hn2:n<9223372036854775808){d:Int}(hd1:-9223372036854775808<=d)(hd2:d<9223372036854775808):
 y8i 21 #[vI n,vI d] w0 h0 (λh r=>vQ h r (kP n d)):=by
 refine cb2 14 (vI n) (vI d) func21 hs ?_;refine go2 ?_;refine zG (vY (cs:=[vB ((0:Rat).num<0),.slice none 0 0,.slice none 0 0]) xU I (by simp only[zb];rfl)) I I I ?_;intro v4 r4 U;obtain⟨b4,rfl,rfl⟩:=U;refine go6 ?_;refine cL (ev2 I I) call54 (λw hs=>zVU hs oM oM oM oM) λaa h1 ab M=>?_;obtain⟨_,rfl,H,J,rfl,C,D⟩:=M;have Z:=zB7 (n:=n) (d:=d) oM oM oM oM;refine go3 ?_;refine zG (vY (cs:=[vB ((0:Rat).num<0),.slice none 0 0,.slice none 0 0]) xU I (by simp only[zb];rfl)) I I I ?_;intro v5 r5 O;obtain⟨b5,rfl,rfl⟩:=O;refine wT (A:=[]) (r':=.var b5 29 [vB ((kP n d).num<0),H,J]) (zM (k:=0) (cs:=[_,_,_]) (vs:=[_,_,_]) I I I (ocr I (ocu C (ocu D oc0))) yF (bL I)) I I I (go6 ?_);refine wT (A:=[_]) (r':=.var b4 29 [vB ((kP n d).num<0),H,J]) (zM (k:=0) (cs:=[_,_,_]) (vs:=[_,_,_]) I I I (ocr I (ocu C (ocu D oc0))) yF (bL I)) I I I (go3 ?_);refine yN (λE S=>zS I (vD (cs:=[_,_,_]) mh1 underlying29 I yF I) E S) ?_;exact⟨_,_,I,C,D⟩
theorem zVS{qa:Rat}{vna vda:Value}(hna:Us .u32 h0 vna (zB qa.num.natAbs))(hda:Us .u32 h0 vda (zB (vC qa.den))){qb:Rat}{vnb vdb:Value}(hnb:Us .u32 h0 vnb (zB qb.num.natAbs))(hdb:Us .u32 h0 vdb (zB (vC qb.den)))(hqa:lq qa<=100000000000)(hqb:lq qb<=100000000000):
 Calls prog 73 #[.agg #[vB (qa.num<0),vna,vda],.agg #[vB (qb.num<0),vnb,vdb]] w0 (Ret w0 h0 (λ_ r=>r=vB (qa=qb))):=by
 have ae:=uG qa;have ai:=uF qa;have ak:=vS qa;have ad:=uG qb;have ah:=uF qb;have aj:=vS qb;refine cb2 26 (.agg #[vB (qa.num<0),vna,vda]) (.agg #[vB (qb.num<0),vnb,vdb]) func73 hs ?_;refine go2 ?_;refine zG (vG (cs:=[_,_,_]) I I) I I I ?_;intro v2 r2 ac;obtain⟨b2,rfl,rfl⟩:=ac;refine zG (vG (cs:=[_,_,_]) I I) I I I ?_;intro v3 r3 ab;obtain⟨b3,rfl,rfl⟩:=ab;refine go9 ?_;refine gv (lF underlying4 I I) I ?_;refine qH (ι:=Mem) 8 (λJ=>MLe h0 J) (λ_=>[(17,vB (((qa.num<0)↔(qb.num<0))/\((pQ (qa.num.natAbs) (qb.num.natAbs))=(0:Int)))),(2,vP b2 0),(3,vP b3 0)]) (λ_=>[.var b3 29 [vB (qb.num<0),vnb,vdb],.var b2 29 [vB (qa.num<0),vna,vda]]) (λJ=>J) ?_ ?_
 ·
  refine zY ((qa.num<0)↔(qb.num<0)) (λH=>?_) (λH=>?_)
  ·
   refine gT H I (go9 ?_);refine cL (ev2 I I) call49 (λw hs=>oQ hs hna hnb) λan h1 M Z=>?_;subst Z;refine go4 ?_;refine zU h1 M ⟨?_,I,I,y5i⟩ I I;exact y4e (xD H)
  refine gF H I (go8 ?_);refine zU h0 (MLe.refl _) ⟨?_,I,I,y5i⟩ I I;exact y4e (xE H)
 intro D C;refine rA ?_;refine qH (ι:=Mem) 8 (λJ=>MLe D J) (λ_=>[(25,vB ((((qa.num<0)↔(qb.num<0))/\((pQ (qa.num.natAbs) (qb.num.natAbs))=(0:Int)))/\((pQ ((vC qa.den)) ((vC qb.den)))=(0:Int))))]) (λ_=>[.var b3 29 [vB (qb.num<0),vnb,vdb],.var b2 29 [vB (qa.num<0),vna,vda]]) (λJ=>J) ?_ ?_
 ·
  refine zY (((qa.num<0)↔(qb.num<0))/\((pQ (qa.num.natAbs) (qb.num.natAbs))=(0:Int))) (λH=>?_) (λH=>?_)
  ·
   refine gT H I (go9 ?_);replace hda:=hda.mono C;replace hdb:=hdb.mono C;refine cL (ev2 I I) call49 (λw hs=>oQ hs hda hdb) λam h1 M U=>?_;subst U;refine go4 ?_;refine zU h1 M ⟨?_,y5i⟩ I I;exact y4e (xD H)
  refine gF H I (go8 ?_);refine zU D (MLe.refl _) ⟨?_,y5i⟩ I I;exact y4e (xE H)
 intro aa O;refine rA ?_;refine go4 ?_;refine zC I I ?_;exact kS yC6
theorem zDB{qa:Rat}{vna vda:Value}(hna:Us .u32 h0 vna (zB qa.num.natAbs))(hda:Us .u32 h0 vda (zB (vC qa.den)))(hqa:lq qa<=100000000000):
 Calls prog 48 #[.agg #[vB (qa.num<0),vna,vda]] w0 (Ret w0 h0 (λ_ r=>r=vI (yQ qa))):=by
 have J:=uG qa;have M:=uF qa;have O:=vS qa;refine cb1 9 (.agg #[vB (qa.num<0),vna,vda]) func48 hs ?_;refine go2 ?_;refine zG (vG (cs:=[_,_,_]) I I) I I I ?_;intro v1 r1 H;obtain⟨U,rfl,rfl⟩:=H;refine zI8 (λD=>?_) λD=>?_
 ·
  refine go7 ?_;refine zC I I ?_;rw[aP (bX D)]
 refine gc9 (λC=>?_) λC=>?_
 ·
  refine go7 ?_;refine zC I I ?_;rw[zBG C]
 refine go8 ?_;refine zC I I ?_;rw[zBF (zG7 D) C]
theorem zNW{qa:Rat}{vna vda:Value}(hna:Us .u32 h0 vna (zB qa.num.natAbs))(hda:Us .u32 h0 vda (zB (vC qa.den)))(hqa:lq qa<=100000000000):
 Calls prog 87 #[.agg #[vB (qa.num<0),vna,vda]] w0 (Ret w0 h0 (λh r=>vQ h r (-qa))):=by
 have J:=uG qa;have M:=uF qa;have O:=vS qa;refine cb1 14 (.agg #[vB (qa.num<0),vna,vda]) func87 hs ?_;refine go2 ?_;refine zG (vG (cs:=[_,_,_]) I I) I I I ?_;intro v1 r1 H;obtain⟨Z,rfl,rfl⟩:=H;refine zG (vY (cs:=[vB ((0:Rat).num<0),.slice none 0 0,.slice none 0 0]) xU I (by simp only[zb];rfl)) I I I ?_;intro v2 r2 D;obtain⟨U,rfl,rfl⟩:=D;refine go7 ?_;refine gU 6 11 (vB ((¬(qa.num<0))/\((0:Int)<(↑(zB qa.num.natAbs).length:Int)))) ?_ ?_
 ·
  refine zY (¬(qa.num<0)) (λC=>?_) (λC=>?_)
  ·
   refine gT C I (uR ?_);refine gqU ?_;exact y4e (xD C)
  refine gF C I (go6 ?_);refine gqU ?_;exact y4e (xE C)
 refine go1 ?_;refine wT (A:=[_]) (r':=.var Z 29 [vB ((¬(qa.num<0))/\((0:Int)<(↑(zB qa.num.natAbs).length:Int))),vna,vda]) (zM (k:=0) (cs:=[_,_,_]) (vs:=[_]) I I I I yG8 (bL I)) I I I (go5 ?_);refine wT (A:=[]) (r':=.var U 29 [vB ((¬(qa.num<0))/\((0:Int)<(↑(zB qa.num.natAbs).length:Int))),vna,vda]) (zM (k:=0) (cs:=[_,_,_]) (vs:=[_,_,_]) I I I (ocr I (ocu hna (ocu hda oc0))) yF (bL I)) I I I (go3 ?_);refine yN (λE S=>zS I (vD (cs:=[_,_,_]) mh0 underlying29 I yF I) E S) ?_;exact vQ.negB hna hda
theorem zY9{qa:Rat}{vna vda:Value}(hna:Us .u32 h0 vna (zB qa.num.natAbs))(hda:Us .u32 h0 vda (zB (vC qa.den)))(hqa:lq qa<=100000000000):
 Calls prog 103 #[.agg #[vB (qa.num<0),vna,vda]] w0 (Ret w0 h0 (λh r=>vQ h r (iB qa))):=by
 have H:=uG qa;have J:=uF qa;have M:=vS qa;refine cb1 5 (.agg #[vB (qa.num<0),vna,vda]) func103 hs ?_;refine go2 ?_;refine zG (vG (cs:=[_,_,_]) I I) I I I ?_;intro v1 r1 D;obtain⟨U,rfl,rfl⟩:=D;refine zG (vY (cs:=[vB ((0:Rat).num<0),.slice none 0 0,.slice none 0 0]) xU I (by simp only[zb];rfl)) I I I ?_;intro v2 r2 C;obtain⟨O,rfl,rfl⟩:=C;refine go5 ?_;refine wT (A:=[_]) (r':=.var U 29 [.bool false,vna,vda]) (zM (k:=0) (cs:=[_,_,_]) (vs:=[_]) I I I I yG8 (bL I)) I I I (go5 ?_);refine wT (A:=[]) (r':=.var O 29 [.bool false,vna,vda]) (zM (k:=0) (cs:=[_,_,_]) (vs:=[_,_,_]) I I I (ocr I (ocu hna (ocu hda oc0))) yF (bL I)) I I I (go3 ?_);refine yN (λE S=>zS I (vD (cs:=[_,_,_]) mh0 underlying29 I yF I) E S) ?_;exact vQ.abs hna hda
theorem zGF{qa:Rat}{vna vda:Value}(hna:Us .u32 h0 vna (zB qa.num.natAbs))(hda:Us .u32 h0 vda (zB (vC qa.den))){qb:Rat}{vnb vdb:Value}(hnb:Us .u32 h0 vnb (zB qb.num.natAbs))(hdb:Us .u32 h0 vdb (zB (vC qb.den)))(hqa:lq qa<=100000000000)(hqb:lq qb<=100000000000):
 Calls prog 45 #[.agg #[vB (qa.num<0),vna,vda],.agg #[vB (qb.num<0),vnb,vdb]] w0 (Ret w0 h0 (λh r=>vQ h r (qa+qb))):=by
 have bz:=uG qa;have cb:=uF qa;have cd:=vS qa;have bx:=uG qb;have ca:=uF qb;have cc:=vS qb;refine cb2 75 (.agg #[vB (qa.num<0),vna,vda]) (.agg #[vB (qb.num<0),vnb,vdb]) func45 hs ?_;refine go2 ?_;refine zG (vG (cs:=[_,_,_]) I I) I I I ?_;intro v2 r2 bp;obtain⟨b2,rfl,rfl⟩:=bp;refine zG (vG (cs:=[_,_,_]) I I) I I I ?_;intro v3 r3 bo;obtain⟨b3,rfl,rfl⟩:=bo;refine zG (vY (cs:=[vB ((0:Rat).num<0),.slice none 0 0,.slice none 0 0]) xU I (by simp only[zb];rfl)) I I I ?_;intro v4 r4 bn;obtain⟨b4,rfl,rfl⟩:=bn;refine zD0 (λaz=>?_) λaz=>?_
 ·
  refine go3 ?_;refine wT (A:=[]) (r':=.var b4 29 [vB (qb.num<0),vnb,vdb]) (zM (k:=0) (cs:=[_,_,_]) (vs:=[_,_,_]) I I I (ocr I (ocu hnb (ocu hdb oc0))) yF (bL I)) I I I (go4 ?_);refine yN (λE S=>zS I (vD (cs:=[_,_,_]) mh0 underlying29 I yF I) E S) ?_;rw[bX az,Rat.zero_add];exact⟨_,_,I,hnb,hdb⟩
 refine zD0 (λay=>?_) λay=>?_
 ·
  refine go3 ?_;refine wT (A:=[]) (r':=.var b4 29 [vB (qa.num<0),vna,vda]) (zM (k:=0) (cs:=[_,_,_]) (vs:=[_,_,_]) I I I (ocr I (ocu hna (ocu hda oc0))) yF (bL I)) I I I (go4 ?_);refine yN (λE S=>zS I (vD (cs:=[_,_,_]) mh0 underlying29 I yF I) E S) ?_;rw[bX ay,Rat.add_zero];exact⟨_,_,I,hna,hda⟩
 refine go3 ?_;refine zJ 12 _ [] [(0,.q),(1,.q),(2,.q),(5,.q),(6,.q),(7,.q),(3,.c),(4,.c),(8,.c),(9,.c),(10,.q),(11,.q)] zX nX zou nX (λr hr=>hr) (go6 ?_);refine w_c I (sC (ev1 I) call51 (λw hs=>rO hs I hnb hdb) λct h1 ap ax=>?_);rw[qD] at ax;refine w_c I ?_;replace hna:=hna.mono ap;refine sC (ev2 I I) call50 (λw hs=>bN hs hna ax oM oM) λcq h2 ao D=>?_
 try simp only[zE] at D
 have bv:=yO ((qa.num.natAbs)) ((qb.den));refine w_c I ?_;replace hna:=hna.mono ao;replace hda:=hda.mono (ap.trans ao);refine sC (ev1 I) call51 (λw hs=>rO hs I hna hda) λcp h3 aa aw=>?_;rw[qD] at aw;refine w_c I ?_;replace hnb:=hnb.mono ((ap.trans ao).trans aa);refine sC (ev2 I I) call50 (λw hs=>bN hs hnb aw oM oM) λco h4 Z C=>?_
 try simp only[zE] at C
 have bu:=yO ((qb.num.natAbs)) ((qa.den));refine go5 ?_;refine zJ 6 _ [] [(0,.q),(2,.q),(1,.c),(3,.c),(4,.c),(5,.q)] zX nX zou nX (λr hr=>hr) (go2 ?_);refine w_c I ?_;replace hna:=hna.mono (aa.trans Z);replace hda:=hda.mono (aa.trans Z);refine sC (ev1 I) call51 (λw hs=>rO hs I hna hda) λcn h5 U M=>?_;rw[qD] at M;refine w_c I ?_;replace hnb:=hnb.mono (Z.trans U);replace hdb:=hdb.mono ((((ap.trans ao).trans aa).trans Z).trans U);refine sC (ev1 I) call51 (λw hs=>rO hs I hnb hdb) λcm h6 ae av=>?_;rw[qD] at av;refine w_c I ?_;replace M:=M.mono ae;refine sC (ev2 I I) call50 (λw hs=>bN hs M av oM oM) λcl h7 an H=>?_
 try simp only[zE] at H
 have bt:=yO ((qa.den)) ((qb.den));refine uR ?_;refine gv (lF underlying4 I I) I (gc2 (λO=>?_) λO=>?_)
 ·
  refine go1 ?_;refine zJ 7 _ [] (zai 0 4 [(5,.q),(4,.c),(6,.c),(7,.t)]) zX nX zou nX (λr hr=>hr) (go5 ?_);refine w_c I ?_;replace D:=D.mono ((((aa.trans Z).trans U).trans ae).trans an);replace C:=C.mono ((U.trans ae).trans an);refine sC (ev2 I I) call83 (λw hs=>yE4 hs D C oM oM) λck h8 J bl=>?_;have bs:=gC ((((qa.num.natAbs))*((qb.den)))) ((((qb.num.natAbs))*((qa.den))));refine w_c I ?_;replace H:=H.mono J;refine sC (ev3 I I I) call82 (λw hs=>pS hs bl H oM oM (by first|(simp only[zE];omega)|(simp only[zE];first|exact z0u _|exact z5i (z0u _) (z0u _)|exact yji|assumption)|assumption)) λcj h9 am au=>?_
  try simp only[zE] at au
  obtain⟨bc,bf,rfl,ad,aj⟩:=au;refine cF (A:=[]) (q':=.var b4 29 [vB ((mkRat (sg (qa.num<0) (((((((qa.num.natAbs))*((qb.den))))+((((qb.num.natAbs))*((qa.den)))))))) (((((qa.den))*((qb.den)))))).num<0),bc,bf]) I (zM (k:=0) (cs:=[_,_,_]) (vs:=[_,_,_]) I I I (ocr I (ocu ad (ocu aj oc0))) yF (bL I)) I (go4 ?_);refine yN (λE S=>zS I (vD (cs:=[_,_,_]) mh0 underlying29 I yF I) E S) ?_;rw[yD3 O] at ad aj ⊢;exact⟨_,_,I,ad,aj⟩
 refine go7 ?_;replace D:=D.mono ((((aa.trans Z).trans U).trans ae).trans an);replace C:=C.mono ((U.trans ae).trans an);refine cL (ev2 I I) call49 (λw hs=>oQ hs D C) λci h8 J bk=>?_;subst bk;refine gc3 (λak=>?_) λak=>?_
 ·
  refine go4 ?_;replace D:=D.mono J;replace C:=C.mono J;refine cL (ev2 I I) call84 (λw hs=>zTH hs C D oM) λch h9 am bj=>?_;obtain⟨cv,rfl,bh⟩:=bj;have br:=yL (yiu ((((qb.num.natAbs))*((qa.den)))) ((((qa.num.natAbs))*((qb.den)))));refine rS ?_;replace H:=H.mono (J.trans am);refine cL (ev3 I I I) call82 (λw hs=>pS hs bh H oM oM (by first|(simp only[zE];omega)|(simp only[zE];first|exact z0u _|exact z5i (z0u _) (z0u _)|exact yji|assumption)|assumption)) λcg bw bm ar=>?_
  try simp only[zE] at ar
  obtain⟨bb,be,rfl,ac,ai⟩:=ar;refine wT (A:=[]) (r':=.var b4 29 [vB ((mkRat (sg (qb.num<0) (((((((qb.num.natAbs))*((qa.den))))-((((qa.num.natAbs))*((qb.den)))))))) (((((qa.den))*((qb.den)))))).num<0),bb,be]) (zM (k:=0) (cs:=[_,_,_]) (vs:=[_,_,_]) I I I (ocr I (ocu ac (ocu ai oc0))) yF (bL I)) I I I (go4 ?_);refine yN (λE S=>zS I (vD (cs:=[_,_,_]) mh0 underlying29 I yF I) E S) ?_;rw[yMH O (by have:=rV.1 ak;omega)] at ac ai ⊢;exact⟨_,_,I,ac,ai⟩
 refine go6 ?_;replace D:=D.mono J;replace C:=C.mono J;refine cL (ev2 I I) call84 (λw hs=>zTH hs D C oM) λcf h9 am bi=>?_;obtain⟨cu,rfl,bg⟩:=bi;have bq:=yL (yiu ((((qa.num.natAbs))*((qb.den)))) ((((qb.num.natAbs))*((qa.den)))));refine rS ?_;replace H:=H.mono (J.trans am);refine cL (ev3 I I I) call82 (λw hs=>pS hs bg H oM oM (by first|(simp only[zE];omega)|(simp only[zE];first|exact z0u _|exact z5i (z0u _) (z0u _)|exact yji|assumption)|assumption)) λce bw bm aq=>?_
 try simp only[zE] at aq
 obtain⟨ba,bd,rfl,ab,ah⟩:=aq;refine wT (A:=[]) (r':=.var b4 29 [vB ((mkRat (sg (qa.num<0) (((((((qa.num.natAbs))*((qb.den))))-((((qb.num.natAbs))*((qa.den)))))))) (((((qa.den))*((qb.den)))))).num<0),ba,bd]) (zM (k:=0) (cs:=[_,_,_]) (vs:=[_,_,_]) I I I (ocr I (ocu ab (ocu ah oc0))) yF (bL I)) I I I (go3 ?_);refine yN (λE S=>zS I (vD (cs:=[_,_,_]) mh0 underlying29 I yF I) E S) ?_;rw[yMI O (yfe (λh=>ak (rV.2 h)))] at ab ah ⊢;exact⟨_,_,I,ab,ah⟩
theorem zY5{qa:Rat}{vna vda:Value}(hna:Us .u32 h0 vna (zB qa.num.natAbs))(hda:Us .u32 h0 vda (zB (vC qa.den))){qb:Rat}{vnb vdb:Value}(hnb:Us .u32 h0 vnb (zB qb.num.natAbs))(hdb:Us .u32 h0 vdb (zB (vC qb.den)))(hqa:lq qa<=100000000000)(hqb:lq qb<=100000000000):
 Calls prog 55 #[.agg #[vB (qa.num<0),vna,vda],.agg #[vB (qb.num<0),vnb,vdb]] w0 (Ret w0 h0 (λh r=>vQ h r (qa-qb))):=by
 have aj:=uG qa;have am:=uF qa;have ao:=vS qa;have ai:=uG qb;have ak:=uF qb;have an:=vS qb;refine cb2 9 (.agg #[vB (qa.num<0),vna,vda]) (.agg #[vB (qb.num<0),vnb,vdb]) func55 hs ?_;refine go2 ?_;refine zG (vG (cs:=[_,_,_]) I I) I I I ?_;intro v2 r2 ab;obtain⟨b2,rfl,rfl⟩:=ab;refine zG (vG (cs:=[_,_,_]) I I) I I I ?_;intro v3 r3 aa;obtain⟨b3,rfl,rfl⟩:=aa;refine zG (vY (cs:=[vB ((0:Rat).num<0),.slice none 0 0,.slice none 0 0]) xU I (by simp only[zb];rfl)) I I I ?_;intro v4 r4 Z;obtain⟨b4,rfl,rfl⟩:=Z;refine go3 ?_;refine zJ 4 _ [] [(0,.q),(1,.q),(2,.c),(3,.c),(4,.t)] zX nX zou nX (λr hr=>hr) (go2 ?_);refine w_c I (sC (ev1 I) call87 (λw hs=>zNW hs hnb hdb oM) λv7 h1 H U=>?_);obtain⟨ap,aq,rfl,ac,ad⟩:=U;have ah:=zSC qb;refine w_c I ?_;replace hna:=hna.mono H;replace hda:=hda.mono H;refine sC (ev2 I I) call45 (λw hs=>zGF hs hna hda ac ad oM oM) λv8 h2 ar O=>?_;obtain⟨J,M,rfl,C,D⟩:=O;have ae:=lH qa (-qb);refine cF (A:=[]) (q':=.var b4 29 [vB ((qa+(-qb)).num<0),J,M]) I (zM (k:=0) (cs:=[_,_,_]) (vs:=[_,_,_]) I I I (ocr I (ocu C (ocu D oc0))) yF (bL I)) I (go3 ?_);refine yN (λE S=>zS I (vD (cs:=[_,_,_]) mh0 underlying29 I yF I) E S) ?_;rw[<-y0u] at C D ⊢;exact⟨_,_,I,C,D⟩
theorem zNX{qa:Rat}{vna vda:Value}(hna:Us .u32 h0 vna (zB qa.num.natAbs))(hda:Us .u32 h0 vda (zB (vC qa.den))){qb:Rat}{vnb vdb:Value}(hnb:Us .u32 h0 vnb (zB qb.num.natAbs))(hdb:Us .u32 h0 vdb (zB (vC qb.den)))(hqa:lq qa<=100000000000)(hqb:lq qb<=100000000000):
 Calls prog 53 #[.agg #[vB (qa.num<0),vna,vda],.agg #[vB (qb.num<0),vnb,vdb]] w0 (Ret w0 h0 (λh r=>vQ h r (qa*qb))):=by
 have ao:=uG qa;have aq:=uF qa;have au:=vS qa;have an:=uG qb;have ap:=uF qb;have ar:=vS qb;refine cb2 21 (.agg #[vB (qa.num<0),vna,vda]) (.agg #[vB (qb.num<0),vnb,vdb]) func53 hs ?_;refine go2 ?_;refine zG (vG (cs:=[_,_,_]) I I) I I I ?_;intro v2 r2 ai;obtain⟨b2,rfl,rfl⟩:=ai;refine zG (vG (cs:=[_,_,_]) I I) I I I ?_;intro v3 r3 ah;obtain⟨b3,rfl,rfl⟩:=ah;refine zG (vY (cs:=[vB ((0:Rat).num<0),.slice none 0 0,.slice none 0 0]) xU I (by simp only[zb];rfl)) I I I ?_;intro v4 r4 ae;obtain⟨b4,rfl,rfl⟩:=ae;refine go3 ?_;refine zJ 16 _ [] (zai 0 9 [(10,.q),(12,.q),(9,.c),(11,.c),(13,.c),(14,.c),(15,.c),(16,.t)]) zX nX zou nX (λr hr=>hr) (go4 ?_);refine wZ I (λ_ _=>sO underlying4 I I) I (go6 ?_);refine w_c I (sC (ev2 I I) call50 (λw hs=>bN hs hna hnb oM oM) λaz h1 M D=>?_)
 try simp only[zE] at D
 have ak:=yO ((qa.num.natAbs)) ((qb.num.natAbs));refine w_c I ?_;replace hna:=hna.mono M;replace hda:=hda.mono M;refine sC (ev1 I) call51 (λw hs=>rO hs I hna hda) λay h2 aa C=>?_;rw[qD] at C;refine w_c I ?_;replace hnb:=hnb.mono (M.trans aa);replace hdb:=hdb.mono (M.trans aa);refine sC (ev1 I) call51 (λw hs=>rO hs I hnb hdb) λax h3 ad Z=>?_;rw[qD] at Z;refine w_c I ?_;replace C:=C.mono ad;refine sC (ev2 I I) call50 (λw hs=>bN hs C Z oM oM) λaw h4 am U=>?_
 try simp only[zE] at U
 have aj:=yO ((qa.den)) ((qb.den));refine w_c I ?_;replace D:=D.mono ((aa.trans ad).trans am);refine sC (ev3 I I I) call82 (λw hs=>pS hs D U oM oM (by first|(simp only[zE];omega)|(simp only[zE];first|exact z0u _|exact z5i (z0u _) (z0u _)|exact yji|assumption)|assumption)) λav h5 ba O=>?_
 try simp only[zE] at O
 obtain⟨ab,ac,rfl,H,J⟩:=O;refine cF (A:=[]) (q':=.var b4 29 [vB ((mkRat (sg (¬((qa.num<0)↔(qb.num<0))) (((((qa.num.natAbs))*((qb.num.natAbs)))))) (((((qa.den))*((qb.den)))))).num<0),ab,ac]) I (zM (k:=0) (cs:=[_,_,_]) (vs:=[_,_,_]) I I I (ocr I (ocu H (ocu J oc0))) yF (bL I)) I (go3 ?_);refine yN (λE S=>zS I (vD (cs:=[_,_,_]) mh0 underlying29 I yF I) E S) ?_;rw[yAZ] at H J ⊢;exact⟨_,_,I,H,J⟩
theorem zNV{qa:Rat}{vna vda:Value}(hna:Us .u32 h0 vna (zB qa.num.natAbs))(hda:Us .u32 h0 vda (zB (vC qa.den))){qb:Rat}{vnb vdb:Value}(hnb:Us .u32 h0 vnb (zB qb.num.natAbs))(hdb:Us .u32 h0 vdb (zB (vC qb.den)))(hqa:lq qa<=100000000000)(hqb:lq qb<=100000000000):
 Calls prog 81 #[.agg #[vB (qa.num<0),vna,vda],.agg #[vB (qb.num<0),vnb,vdb]] w0 (Ret w0 h0 (λh r=>∃u,r=.tuple #[u,vI (if qb=0 then 3 else 0)]/\vQ h u (if qb=0 then 0 else qa/qb))):=by
 have ar:=uG qa;have av:=uF qa;have ax:=vS qa;have aq:=uG qb;have au:=uF qb;have aw:=vS qb;refine cb2 27 (.agg #[vB (qa.num<0),vna,vda]) (.agg #[vB (qb.num<0),vnb,vdb]) func81 hs ?_;refine go2 ?_;refine zG (vG (cs:=[_,_,_]) I I) I I I ?_;intro v2 r2 ak;obtain⟨b2,rfl,rfl⟩:=ak;refine zG (vG (cs:=[_,_,_]) I I) I I I ?_;intro v3 r3 aj;obtain⟨b3,rfl,rfl⟩:=aj;refine zG (vY (cs:=[vB ((0:Rat).num<0),.slice none 0 0,.slice none 0 0]) xU I (by simp only[zb];rfl)) I I I ?_;intro v4 r4 ai;obtain⟨b4,rfl,rfl⟩:=ai;refine zI8 (λJ=>?_) λJ=>?_
 ·
  refine go2 ?_;refine gv (wJ (ps':=[]) (vs:=[vB ((0:Rat).num<0),.slice none 0 0,.slice none 0 0]) underlying29 xU I (qG underlying29) trivial (by simp only[zb];exact jX)) I (wT (A:=[]) (r':=.var b4 29 [vB ((0:Rat).num<0),.slice none 0 0,.slice none 0 0]) (zM (k:=0) (cs:=[_,_,_]) (vs:=[_,_,_]) I I I I yF (bL I)) I I I (go5 ?_));refine yN (λE S=>qO I (vD (cs:=[_,_,_]) mh0 underlying29 I yF I) (gH I) E S) ?_;rw[zau (bX J),zau (bX J)];exact⟨_,I,vQ.zero _⟩
 have M:=zG7 J;have ap:=zG8.2 M;have be:qa.den*qb.num.natAbs≠0:=z5i qa.den_nz ap;refine go3 ?_;refine zJ 16 _ [] (zai 0 8 [(10,.q),(12,.q),(13,.q),(8,.c),(9,.c),(11,.c),(14,.c),(15,.c),(16,.t),(17,.t)]) zX nX zou nX (λr hr=>hr) (go4 ?_);refine wZ I (λ_ _=>sO underlying4 I I) I (go6 ?_);refine w_c I (sC (ev1 I) call51 (λw hs=>rO hs I hnb hdb) λbc h1 ac aa=>?_);rw[qD] at aa;refine w_c I ?_;replace hna:=hna.mono ac;refine sC (ev2 I I) call50 (λw hs=>bN hs hna aa oM oM) λbb h2 ab C=>?_
 try simp only[zE] at C
 have an:=yO ((qa.num.natAbs)) ((qb.den));refine w_c I ?_;replace hna:=hna.mono ab;replace hda:=hda.mono (ac.trans ab);refine sC (ev1 I) call51 (λw hs=>rO hs I hna hda) λba h3 ah Z=>?_;rw[qD] at Z;refine w_c I ?_;replace hnb:=hnb.mono ((ac.trans ab).trans ah);refine sC (ev2 I I) call50 (λw hs=>bN hs Z hnb oM oM) λaz h4 ao U=>?_
 try simp only[zE] at U
 have am:=yO ((qa.den)) ((qb.num.natAbs));refine w_c I ?_;replace C:=C.mono (ah.trans ao);refine sC (ev3 I I I) call82 (λw hs=>pS hs C U oM oM (by first|(simp only[zE];omega)|(simp only[zE];first|exact z0u _|exact z5i (z0u _) (z0u _)|exact yji|assumption)|assumption)) λay h5 bd O=>?_
 try simp only[zE] at O
 obtain⟨ad,ae,rfl,D,H⟩:=O;refine cF (A:=[]) (q':=.var b4 29 [vB ((mkRat (sg (¬((qa.num<0)↔(qb.num<0))) (((((qa.num.natAbs))*((qb.den)))))) (((((qa.den))*((qb.num.natAbs)))))).num<0),ad,ae]) I (zM (k:=0) (cs:=[_,_,_]) (vs:=[_,_,_]) I I I (ocr I (ocu D (ocu H oc0))) yF (bL I)) I (zE8 I (pV (v:=vI (0)) I) I (go3 ?_));refine yN (λE S=>qO I (vD (cs:=[_,_,_]) mh0 underlying29 I yF I) (gH I) E S) ?_;rw[zae M,zae M];rw[zZK _ M] at D H ⊢;exact⟨_,I,_,_,I,D,H⟩
theorem zVT{qa:Rat}{vna vda:Value}(hna:Us .u32 h0 vna (zB qa.num.natAbs))(hda:Us .u32 h0 vda (zB (vC qa.den))){qb:Rat}{vnb vdb:Value}(hnb:Us .u32 h0 vnb (zB qb.num.natAbs))(hdb:Us .u32 h0 vdb (zB (vC qb.den)))(hqa:lq qa<=100000000000)(hqb:lq qb<=100000000000):
 Calls prog 100 #[.agg #[vB (qa.num<0),vna,vda],.agg #[vB (qb.num<0),vnb,vdb]] w0 (Ret w0 h0 (λh r=>vQ h r (if qb=0 then 0 else qa/qb))):=by
 have ad:=uG qa;have ah:=uF qa;have aj:=vS qa;have ac:=uG qb;have ae:=uF qb;have ai:=vS qb;refine cb2 14 (.agg #[vB (qa.num<0),vna,vda]) (.agg #[vB (qb.num<0),vnb,vdb]) func100 hs ?_;refine go2 ?_;refine zG (vG (cs:=[_,_,_]) I I) I I I ?_;intro v2 r2 aa;obtain⟨b2,rfl,rfl⟩:=aa;refine zG (vG (cs:=[_,_,_]) I I) I I I ?_;intro v3 r3 Z;obtain⟨b3,rfl,rfl⟩:=Z;refine zG (vY (cs:=[vB ((0:Rat).num<0),.slice none 0 0,.slice none 0 0]) xU I (by simp only[zb];rfl)) I I I ?_;intro v4 r4 U;obtain⟨b4,rfl,rfl⟩:=U;refine go6 ?_;refine cL (ev2 I I) call81 (λw hs=>zNV hs hna hda hnb hdb oM oM) λak h1 am M=>?_;obtain⟨_,rfl,H,J,rfl,C,D⟩:=M;have ab:=zFK qa qb;refine go3 ?_;refine zG (vY (cs:=[vB ((0:Rat).num<0),.slice none 0 0,.slice none 0 0]) xU I (by simp only[zb];rfl)) I I I ?_;intro v5 r5 O;obtain⟨b5,rfl,rfl⟩:=O;refine wT (A:=[]) (r':=.var b5 29 [vB ((if qb=0 then 0 else qa/qb).num<0),H,J]) (zM (k:=0) (cs:=[_,_,_]) (vs:=[_,_,_]) I I I (ocr I (ocu C (ocu D oc0))) yF (bL I)) I I I (go6 ?_);refine wT (A:=[_]) (r':=.var b4 29 [vB ((if qb=0 then 0 else qa/qb).num<0),H,J]) (zM (k:=0) (cs:=[_,_,_]) (vs:=[_,_,_]) I I I (ocr I (ocu C (ocu D oc0))) yF (bL I)) I I I (go3 ?_);refine yN (λE S=>zS I (vD (cs:=[_,_,_]) mh1 underlying29 I yF I) E S) ?_;exact⟨_,_,I,C,D⟩
theorem zY8{qa:Rat}{vna vda:Value}(hna:Us .u32 h0 vna (zB qa.num.natAbs))(hda:Us .u32 h0 vda (zB (vC qa.den))){qb:Rat}{vnb vdb:Value}(hnb:Us .u32 h0 vnb (zB qb.num.natAbs))(hdb:Us .u32 h0 vdb (zB (vC qb.den)))(hqa:lq qa<=100000000000)(hqb:lq qb<=100000000000):
 Calls prog 17 #[.agg #[vB (qa.num<0),vna,vda],.agg #[vB (qb.num<0),vnb,vdb]] w0 (Ret w0 h0 (λ_ r=>r=vI (xZ qa qb))):=by
 have av:=uG qa;have ax:=uF qa;have az:=vS qa;have au:=uG qb;have aw:=uF qb;have ay:=vS qb;have bh:-1<=pQ (qa.num.natAbs*qb.den) (qb.num.natAbs*qa.den)/\pQ (qa.num.natAbs*qb.den) (qb.num.natAbs*qa.den)<=1:=zP1 qa qb;refine cb2 34 (.agg #[vB (qa.num<0),vna,vda]) (.agg #[vB (qb.num<0),vnb,vdb]) func17 hs ?_;refine go2 ?_;refine zG (vG (cs:=[_,_,_]) I I) I I I ?_;intro v2 r2 an;obtain⟨b2,rfl,rfl⟩:=an;refine zG (vG (cs:=[_,_,_]) I I) I I I ?_;intro v3 r3 am;obtain⟨b3,rfl,rfl⟩:=am;refine go5 ?_;refine zJ 6 _ [] [(0,.q),(2,.q),(1,.c),(3,.c),(4,.q),(5,.q)] zX nX zou nX (λr hr=>hr) (go2 ?_);refine w_c I (sC (ev1 I) call48 (λw hs=>zDB hs hna hda oM) λv9 h1 O ak=>?_);have ar:=xC qa;subst ak;refine w_c I ?_;replace hnb:=hnb.mono O;replace hdb:=hdb.mono O;refine sC (ev1 I) call48 (λw hs=>zDB hs hnb hdb oM) λbf h2 M ah=>?_;have aj:=xC qb;subst ah;refine zD0 (λD=>?_) λD=>?_
 ·
  refine gc8 (λJ=>?_) λJ=>?_
  ·
   refine go8 ?_;refine zC I I ?_;rw[zCP D,zau J]
  refine go9 ?_;refine zC I I ?_;rw[zCP D,zae J]
 have ad:=zNL D;refine go3 ?_;refine zJ 12 _ [] [(0,.q),(1,.q),(2,.q),(5,.q),(6,.q),(7,.q),(3,.c),(4,.c),(8,.c),(9,.c),(10,.c),(11,.q)] zX nX zou nX (λr hr=>hr) (go6 ?_);refine w_c I ?_;replace hnb:=hnb.mono M;replace hdb:=hdb.mono M;refine sC (ev1 I) call51 (λw hs=>rO hs I hnb hdb) λbe h3 ac aa=>?_;rw[qD] at aa;refine w_c I ?_;replace hna:=hna.mono ((O.trans M).trans ac);refine sC (ev2 I I) call50 (λw hs=>bN hs hna aa oM oM) λbd h4 ab C=>?_
 try simp only[zE] at C
 have ap:=yO ((qa.num.natAbs)) ((qb.den));refine w_c I ?_;replace hna:=hna.mono ab;replace hda:=hda.mono (((O.trans M).trans ac).trans ab);refine sC (ev1 I) call51 (λw hs=>rO hs I hna hda) λbc h5 ai Z=>?_;rw[qD] at Z;refine w_c I ?_;replace hnb:=hnb.mono ((ac.trans ab).trans ai);refine sC (ev2 I I) call50 (λw hs=>bN hs hnb Z oM oM) λbb h6 aq U=>?_
 try simp only[zE] at U
 have ao:=yO ((qb.num.natAbs)) ((qa.den));refine w_c I ?_;replace C:=C.mono (ai.trans aq);refine sC (ev2 I I) call49 (λw hs=>oQ hs C U) λba h7 bg ae=>?_;subst ae;refine zAY (λH=>?_) λH=>?_
 ·
  refine go3 ?_;refine gv (mR I oM oM) I (go5 ?_);refine zC I I ?_;rw[zUN ad H];rfl
 refine go9 ?_;refine zC I I ?_;rw[zPW ad H];rfl
theorem zY6{qa:Rat}{vna vda:Value}(hna:Us .u32 h0 vna (zB qa.num.natAbs))(hda:Us .u32 h0 vda (zB (vC qa.den))){qb:Rat}{vnb vdb:Value}(hnb:Us .u32 h0 vnb (zB qb.num.natAbs))(hdb:Us .u32 h0 vdb (zB (vC qb.den)))(hqa:lq qa<=10000000000)(hqb:lq qb<=10000000000):
 Calls prog 203 #[.agg #[vB (qa.num<0),vna,vda],.agg #[vB (qb.num<0),vnb,vdb]] w0 (Ret w0 h0 (λh r=>vQ h r (zDP qa qb))):=by
 have ao:=uG qa;have aq:=uF qa;have au:=vS qa;have an:=uG qb;have ap:=uF qb;have ar:=vS qb;refine cb2 10 (.agg #[vB (qa.num<0),vna,vda]) (.agg #[vB (qb.num<0),vnb,vdb]) func203 hs ?_;refine go2 ?_;refine zG (vG (cs:=[_,_,_]) I I) I I I ?_;intro v2 r2 ae;obtain⟨b2,rfl,rfl⟩:=ae;refine zG (vG (cs:=[_,_,_]) I I) I I I ?_;intro v3 r3 ad;obtain⟨b3,rfl,rfl⟩:=ad;refine zG (vY (cs:=[vB ((0:Rat).num<0),.slice none 0 0,.slice none 0 0]) xU I (by simp only[zb];rfl)) I I I ?_;intro v4 r4 ac;obtain⟨b4,rfl,rfl⟩:=ac;refine go6 ?_;refine cL (ev2 I I) call45 (λw hs=>zGF hs hna hda hnb hdb oM oM) λv7 h1 ba ab=>?_;obtain⟨aw,ay,rfl,D,J⟩:=ab;have am:=lH qa qb;refine cL (vs:=[vI (1),vI (2)]) e2z call21 (λw hs=>zDC hs oM oM oM oM) λv8 h2 M aa=>?_;have ak:=zB7 (n:=(1:Int)) (d:=(2:Int)) oM oM oM oM;obtain⟨av,ax,rfl,ah,ai⟩:=aa;replace D:=D.mono M;replace J:=J.mono M;refine cL (ev2 I I) call53 (λw hs=>zNX hs D J ah ai oM oM) λv9 h3 az Z=>?_;obtain⟨O,U,rfl,C,H⟩:=Z;have aj:=zAS (qa+qb) (kP (1:Int) (2:Int));refine wT (A:=[]) (r':=.var b4 29 [vB (((qa+qb)*(kP (1:Int) (2:Int))).num<0),O,U]) (zM (k:=0) (cs:=[_,_,_]) (vs:=[_,_,_]) I I I (ocr I (ocu C (ocu H oc0))) yF (bL I)) I I I (go3 ?_);refine yN (λE S=>zS I (vD (cs:=[_,_,_]) mh0 underlying29 I yF I) E S) ?_;rw[zKC] at C H ⊢;exact⟨_,_,I,C,H⟩
theorem zVR{qa:Rat}{vna vda:Value}(hna:Us .u32 h0 vna (zB qa.num.natAbs))(hda:Us .u32 h0 vda (zB (vC qa.den)))(hqa:lq qa<=100000000000):
 Calls prog 134 #[.agg #[vB (qa.num<0),vna,vda]] w0 (Ret w0 h0 (λ_ r=>r=.string (qR (qS qa)))):=by
 have ac:=uG qa;have ad:=uF qa;have ae:=vS qa;refine cb1 22 (.agg #[vB (qa.num<0),vna,vda]) func134 hs ?_;refine go2 ?_;refine zG (vG (cs:=[_,_,_]) I I) I I I ?_;intro v1 r1 Z;obtain⟨b1,rfl,rfl⟩:=Z;refine go7 ?_;refine cL (ev1 I) call177 (λw hs=>zGJ hs hna oM) λv6 h1 M U=>?_;subst U;have ab:=zA6 ((qa.num.natAbs));refine zAY (λH=>?_) λH=>?_
 ·
  refine go2 ?_;refine gv (vN (pa:=([45]:List Nat)) (pb:=(txt ((qa.num.natAbs)))) I I zov) I ?_;replace hda:=hda.mono M;refine zI8 (λC=>?_) λC=>?_
  ·
   refine go4 ?_;refine cL (ev1 I) call177 (λw hs=>zGJ hs hda oM) λO h2 aa D=>?_;subst D;have J:=zA6 (((vC qa.den)));refine gv (vN (pa:=([47]:List Nat)) (pb:=(txt (((vC qa.den))))) I I zov) I (gv (vN (pa:=(([45]:List Nat)++(txt ((qa.num.natAbs))))) (pb:=(([47]:List Nat)++(txt (((vC qa.den)))))) I I zov) I (uR ?_));refine zC I I ?_;rw[<-yIO H C]
  refine go9 ?_;refine zC I I ?_;rw[<-yEI H C]
 replace hda:=hda.mono M;refine zD0 (λC=>?_) λC=>?_
 ·
  refine go4 ?_;refine cL (ev1 I) call177 (λw hs=>zGJ hs hda oM) λO h2 aa D=>?_;subst D;have J:=zA6 (((vC qa.den)));refine gv (vN (pa:=([47]:List Nat)) (pb:=(txt (((vC qa.den))))) I I zov) I (gv (vN (pa:=(txt ((qa.num.natAbs)))) (pb:=(([47]:List Nat)++(txt (((vC qa.den)))))) I I zov) I (uR ?_));refine zC I I ?_;rw[<-yEJ H C]
 refine go9 ?_;refine zC I I ?_;rw[<-yEK H C]
theorem zHM{n m:Int}(hm:0<m)(hm2:m<4611686018427387904):
 y8i 44 #[vI n,vI m] w0 h0 (λ_ r=>r=vI (zAQ n m)):=by
 have D:=zF6 n hm;refine cb2 14 (vI n) (vI m) func44 hs ?_;refine go9 ?_;refine gv (zV6 I I oM) I (zAY (λC=>?_) λC=>?_)
 ·
  refine sH ?_;refine zC I I ?_;rw[zAQ,zau C]
 refine go9 ?_;refine zC I I ?_;rw[zAQ,zae C]
theorem zR9{vl:Value}{xs:List Int}(hl:Is h0 vl xs):
 y8i 9 #[vl] w0 h0 (λ_ r=>r=vB ((↑xs.length:Int)<=500)):=by
 refine cb1 6 vl func9 hs ?_;refine go8 ?_;refine gv (zJS underlying22 I hl) I (go5 ?_);refine zC I I ?_
 rfl
theorem zWW{vl:Value}{xs:List Int}(hl:Is h0 vl xs):
 Calls prog 11 #[vl] w0 (tP w0 h0 (λ_ r L=>∃b,r=vP b 0/\L=[.var b 72 [vl,vI ↑0]])):=by
 refine cb1 6 vl func11 hs ?_;refine go8 ?_;refine gv (wJ (ps':=[(0,_)]) (vs:=[vl,vI 0]) underlying72 yK8 I (zZS underlying72) e2z (vO (A:=[]) (B:=[_]) (C:=[_]) (cs:=[_]) (off:=0) (size:=1) I I I I hl.cells jX)) I (zG (vG (cs:=[_,_]) I I) I I I ?_);intro H J D;obtain⟨M,rfl,rfl⟩:=D;refine go4 ?_;refine qB I I ?_;exact⟨_,I,I⟩
end
theorem wE{w0 w:World}{h0 h:Mem}{b k:Nat}{vl:Value}{xs:List Int}(hl:Is h vl xs)(hk:k<=xs.length){n:Int}(hn:0<n)(hn2:n<4611686018427387904){L:List Res}(hs:St w0 h0 (.var b 72 [vl,vI ↑k]::L) h w):
 Calls prog 13 #[vP b 0,vI n] w (lQ w0 h0 h L (λg r q'=>∃k':Nat,∃z,q'=.var b 72 [vl,vI ↑k']/\k'<=xs.length/\(r=vI z/\0<=z/\z<n))):=by
 have O:=hl.lt63;refine qK (n:=35) (e:=[(0,vP b 0),(1,vI n)]) (vs:=[vP b 0,vI n]) func13 rfl rfl (bL rfl) hs e2z (go7 ?_);refine zJ 10 _ [] (zai 0 10 []) zX nX zou nX (λr J=>J) (go1 ?_);refine wZ I (λ_ _=>gY I) I (go3 ?_);refine wZ I (λ_ _=>gY I) I (go2 ?_);refine w_q I (λh' L' hh hR=>zJS underlying22 I (hl.mono hh)) I (gc3 (λH=>?_) λH=>?_)
 ·
  refine go7 ?_;refine qB I I ?_;exact⟨_,(zmi _),(MLe.refl _),k,0,I,hk,I,zot,hn⟩
 refine go5 ?_;refine gv (gY I) I (go3 ?_);refine gv (gY I) I (go1 ?_);refine wT (A:=[]) (r':=.var b 72 [vl,vI ((↑k:Int)+(1:Int))]) (zM (k:=1) (cs:=[_,_]) (vs:=[_]) I I I I yM6 (bL I)) I I I (go3 ?_);refine zJ 14 _ [] (zai 0 12 [(12,.c),(13,.q)]) zX nX zou nX (λr J=>J) (go1 ?_);refine wZ I (λ_ _=>gY I) I (go3 ?_);refine wZ I (λ_ _=>gY I) I (go3 ?_);refine w_q I (λh' L' hh hR=>zN7 (k) underlying22 sizeOf3 I I (hl.mono hh) oM oM) I (w_q I (λh' L' hh hR=>zRC isAgg3 I (hl.mono hh) oM) I (go1 ?_));refine w_c I (sC (ev2 I I) call44 (λw hs=>zHM hs oM oM) λU h1 M D=>?_);have C:=zAP ((xs).getD (k) 0) (q:=n) oM;subst D;refine go4 ?_;refine qB I I ?_;exact⟨_,(zmi _),M,k+1,_,I,zot,I,C.1,C.2⟩
section
variable{w0:World}{h0:Mem}(hs:MLe h0 (mem w0))
include hs
theorem zWX{n:Int}(hn1:-9223372036854775808<=n)(hn2:n<9223372036854775808):
 y8i 59 #[vI n] w0 h0 (λg r=>lq (zZX n)<=2/\vQ g r (zZX n)):=by
 refine cb1 14 (vI n) func59 hs ?_;refine go2 ?_;refine zG (vY (cs:=[vB ((0:Rat).num<0),.slice none 0 0,.slice none 0 0]) xU I (by simp only[zb];rfl)) I I I ?_;intro v2 r2 aa;obtain⟨b2,rfl,rfl⟩:=aa;refine go5 ?_;refine gv (zV7 (q:=17) I I oM oM oM) I (cL (vs:=[_,vI (12)]) e2z call44 (λw hs=>zHM hs oM oM) λv6 h1 aj Z=>?_);have ac:=zAP (n.tdiv (17:Int)) (q:=(12:Int)) oM;subst Z;refine gv (yD (p:=1) I I oM oM) I (go8 ?_);refine cL (ev2 I I) call44 (λw hs=>zHM hs oM oM) λae h2 ai U=>?_;have ab:=zAP n (q:=(((1:Int)+(zAQ (n.tdiv (17:Int)) (12:Int)))+(1:Int))) oM;subst U;refine go1 ?_;refine cL (ev2 I I) call21 (λw hs=>zDC hs oM oM oM oM) λad h3 ah O=>?_;have H:=zB7 (n:=(zAQ n (((1:Int)+(zAQ (n.tdiv (17:Int)) (12:Int)))+(1:Int)))) (d:=((1:Int)+(zAQ (n.tdiv (17:Int)) (12:Int)))) oM oM oM oM;obtain⟨J,M,rfl,C,D⟩:=O;refine wT (A:=[]) (r':=.var b2 29 [vB ((kP (zAQ n (((1:Int)+(zAQ (n.tdiv (17:Int)) (12:Int)))+(1:Int))) ((1:Int)+(zAQ (n.tdiv (17:Int)) (12:Int)))).num<0),J,M]) (zM (k:=0) (cs:=[_,_,_]) (vs:=[_,_,_]) I I I (ocr I (ocu C (ocu D oc0))) yF (bL I)) I I I (go3 ?_);refine yN (λE S=>zS I (vD (cs:=[_,_,_]) mh0 underlying29 I yF I) E S) ?_;exact⟨H,⟨_,_,I,C,D⟩⟩
theorem aS{k l:Nat}{va:Value}{a:Rat}(ra:(rpQ k).Is h0 va a){vb:Value}{b:Rat}(rb:(rpQ l).Is h0 vb b)(H0:k+l<=10000000000):
 y8i 160 #[va,vb] w0 h0 (λh r=>(rpQ (k+l+1)).Is h r (a+b)):=by
 obtain⟨O,Z,rfl,D,J,ab⟩:=qM ra;obtain⟨M,U,rfl,C,H,aa⟩:=qM rb;exact(yFA hs D J C H oM oM).mono (gA λh r x=>j6 x (by have:=lH a b;omega))
theorem fV{k l:Nat}{va:Value}{a:Rat}(ra:(rpQ k).Is h0 va a){vb:Value}{b:Rat}(rb:(rpQ l).Is h0 vb b)(H0:k+l<=10000000000):
 y8i 121 #[va,vb] w0 h0 (λh r=>(rpQ (k+l+1)).Is h r (a-b)):=by
 obtain⟨O,Z,rfl,D,J,ab⟩:=qM ra;obtain⟨M,U,rfl,C,H,aa⟩:=qM rb;exact(yE5 hs D J C H oM oM).mono (gA λh r x=>j6 x (by have:=zHN a b;omega))
theorem kO{k l:Nat}{va:Value}{a:Rat}(ra:(rpQ k).Is h0 va a){vb:Value}{b:Rat}(rb:(rpQ l).Is h0 vb b)(H0:k+l<=10000000000):
 y8i 153 #[va,vb] w0 h0 (λh r=>(rpQ (k+l)).Is h r (a*b)):=by
 obtain⟨O,Z,rfl,D,J,ab⟩:=qM ra;obtain⟨M,U,rfl,C,H,aa⟩:=qM rb;exact(yE7 hs D J C H oM oM).mono (gA λh r x=>j6 x (by have:=zAS a b;omega))
theorem aR{k l:Nat}{va:Value}{a:Rat}(ra:(rpQ k).Is h0 va a){vb:Value}{b:Rat}(rb:(rpQ l).Is h0 vb b)(H0:k+l<=10000000000):
 y8i 182 #[va,vb] w0 h0 (λ_ r=>r=vI (xZ a b)):=by
 obtain⟨O,Z,rfl,D,J,ab⟩:=qM ra;obtain⟨M,U,rfl,C,H,aa⟩:=qM rb;exact yE9 hs D J C H oM oM
theorem pL{k:Nat}{va:Value}{a:Rat}(ra:(rpQ k).Is h0 va a)(H0:k<=10000000000):
 y8i 122 #[va] w0 h0 (λ_ r=>r=vI (yQ a)):=by
 obtain⟨H,J,rfl,C,D,M⟩:=qM ra;exact zBN hs C D oM
theorem zAL{k l:Nat}{va:Value}{a:Rat}(ra:(rpQ k).Is h0 va a){vb:Value}{b:Rat}(rb:(rpQ l).Is h0 vb b)(H0:k+l<=10000000000):
 y8i 159 #[va,vb] w0 h0 (λ_ r=>r=vB (a=b)):=by
 obtain⟨O,Z,rfl,D,J,ab⟩:=qM ra;obtain⟨M,U,rfl,C,H,aa⟩:=qM rb;exact zZJ hs D J C H oM oM
theorem zWE{k l:Nat}{va:Value}{a:Rat}(ra:(rpQ k).Is h0 va a){vb:Value}{b:Rat}(rb:(rpQ l).Is h0 vb b)(H0:k+l<=10000000000):
 y8i 123 #[va,vb] w0 h0 (λh r=>∃u0,r=.tuple #[u0,vI (if b=0 then 3 else 0)]/\(rpQ (k+l)).Is h u0 (if b=0 then 0 else a/b)):=by
 obtain⟨O,Z,rfl,D,J,ab⟩:=qM ra;obtain⟨M,U,rfl,C,H,aa⟩:=qM rb;exact(yE6 hs D J C H oM oM).mono (gA λh r x=>by obtain⟨u,e,y⟩:=x;exact⟨u,e,j6 y (by have:=zFK a b;omega)⟩)
theorem pK{k l:Nat}{va:Value}{a:Rat}(ra:(rpQ k).Is h0 va a){vb:Value}{b:Rat}(rb:(rpQ l).Is h0 vb b)(H0:k+l<=10000000000):
 y8i 45 #[va,vb] w0 h0 (λh r=>(rpQ (k+l+1)).Is h r (a+b)):=by
 obtain⟨O,Z,rfl,D,J,ab⟩:=qM ra;obtain⟨M,U,rfl,C,H,aa⟩:=qM rb;exact(zGF hs D J C H oM oM).mono (gA λh r x=>j6 x (by have:=lH a b;omega))
theorem tJ{k l:Nat}{va:Value}{a:Rat}(ra:(rpQ k).Is h0 va a){vb:Value}{b:Rat}(rb:(rpQ l).Is h0 vb b)(H0:k+l<=10000000000):
 y8i 55 #[va,vb] w0 h0 (λh r=>(rpQ (k+l+1)).Is h r (a-b)):=by
 obtain⟨O,Z,rfl,D,J,ab⟩:=qM ra;obtain⟨M,U,rfl,C,H,aa⟩:=qM rb;exact(zY5 hs D J C H oM oM).mono (gA λh r x=>j6 x (by have:=zHN a b;omega))
theorem jA{k l:Nat}{va:Value}{a:Rat}(ra:(rpQ k).Is h0 va a){vb:Value}{b:Rat}(rb:(rpQ l).Is h0 vb b)(H0:k+l<=10000000000):
 y8i 53 #[va,vb] w0 h0 (λh r=>(rpQ (k+l)).Is h r (a*b)):=by
 obtain⟨O,Z,rfl,D,J,ab⟩:=qM ra;obtain⟨M,U,rfl,C,H,aa⟩:=qM rb;exact(zNX hs D J C H oM oM).mono (gA λh r x=>j6 x (by have:=zAS a b;omega))
theorem zG0{k l:Nat}{va:Value}{a:Rat}(ra:(rpQ k).Is h0 va a){vb:Value}{b:Rat}(rb:(rpQ l).Is h0 vb b)(H0:k+l<=10000000000):
 y8i 203 #[va,vb] w0 h0 (λh r=>(rpQ (k+l+2)).Is h r (zDP a b)):=by
 obtain⟨O,Z,rfl,D,J,ab⟩:=qM ra;obtain⟨M,U,rfl,C,H,aa⟩:=qM rb;exact(zY6 hs D J C H oM oM).mono (gA λh r x=>j6 x (by have:=yK0 a b;omega))
theorem tK{k l:Nat}{va:Value}{a:Rat}(ra:(rpQ k).Is h0 va a){vb:Value}{b:Rat}(rb:(rpQ l).Is h0 vb b)(H0:k+l<=10000000000):
 y8i 17 #[va,vb] w0 h0 (λ_ r=>r=vI (xZ a b)):=by
 obtain⟨O,Z,rfl,D,J,ab⟩:=qM ra;obtain⟨M,U,rfl,C,H,aa⟩:=qM rb;exact zY8 hs D J C H oM oM
theorem uS{k:Nat}{va:Value}{a:Rat}(ra:(rpQ k).Is h0 va a)(H0:k<=10000000000):
 y8i 48 #[va] w0 h0 (λ_ r=>r=vI (yQ a)):=by
 obtain⟨H,J,rfl,C,D,M⟩:=qM ra;exact zDB hs C D oM
theorem sR{k l:Nat}{va:Value}{a:Rat}(ra:(rpQ k).Is h0 va a){vb:Value}{b:Rat}(rb:(rpQ l).Is h0 vb b)(H0:k+l<=10000000000):
 y8i 73 #[va,vb] w0 h0 (λ_ r=>r=vB (a=b)):=by
 obtain⟨O,Z,rfl,D,J,ab⟩:=qM ra;obtain⟨M,U,rfl,C,H,aa⟩:=qM rb;exact zVS hs D J C H oM oM
theorem zRM{k l:Nat}{va:Value}{a:Rat}(ra:(rpQ k).Is h0 va a){vb:Value}{b:Rat}(rb:(rpQ l).Is h0 vb b)(H0:k+l<=10000000000):
 y8i 81 #[va,vb] w0 h0 (λh r=>∃u0,r=.tuple #[u0,vI (if b=0 then 3 else 0)]/\(rpQ (k+l)).Is h u0 (if b=0 then 0 else a/b)):=by
 obtain⟨O,Z,rfl,D,J,ab⟩:=qM ra;obtain⟨M,U,rfl,C,H,aa⟩:=qM rb;exact(zNV hs D J C H oM oM).mono (gA λh r x=>by obtain⟨u,e,y⟩:=x;exact⟨u,e,j6 y (by have:=zFK a b;omega)⟩)
theorem oV{k:Nat}{va:Value}{a:Rat}(ra:(rpQ k).Is h0 va a)(H0:k<=10000000000):
 y8i 87 #[va] w0 h0 (λh r=>(rpQ k).Is h r (-a)):=by
 obtain⟨H,J,rfl,C,D,M⟩:=qM ra;exact(zNW hs C D oM).mono (gA λh r x=>j6 x (by have:=zSC a;omega))
theorem zRN{k:Nat}{va:Value}{a:Rat}(ra:(rpQ k).Is h0 va a)(H0:k<=10000000000):
 y8i 103 #[va] w0 h0 (λh r=>(rpQ k).Is h r (iB a)):=by
 obtain⟨H,J,rfl,C,D,M⟩:=qM ra;exact(zY9 hs C D oM).mono (gA λh r x=>j6 x (by have:=yK1 a;omega))
theorem zOE{k l:Nat}{va:Value}{a:Rat}(ra:(rpQ k).Is h0 va a){vb:Value}{b:Rat}(rb:(rpQ l).Is h0 vb b)(H0:k+l<=10000000000):
 y8i 100 #[va,vb] w0 h0 (λh r=>(rpQ (k+l)).Is h r (if b=0 then 0 else a/b)):=by
 obtain⟨O,Z,rfl,D,J,ab⟩:=qM ra;obtain⟨M,U,rfl,C,H,aa⟩:=qM rb;exact(zVT hs D J C H oM oM).mono (gA λh r x=>j6 x (by have:=zFK a b;omega))
theorem qP{n:Int}(hn1:-9223372036854775808<=n)(hn2:n<9223372036854775808):
 y8i 27 #[vI n] w0 h0 (λh r=>(rpQ 2).Is h r ((n:Int):Rat)):=by
 exact(zY7 hs hn1 hn2).mono (gA λh r x=>j6 x (by exact dG n hn1 hn2))
theorem zDJ{n:Int}(hn1:-9223372036854775808<=n)(hn2:n<9223372036854775808):
 y8i 116 #[vI n] w0 h0 (λh r=>(rpQ 2).Is h r ((n:Int):Rat)):=by
 exact(yE8 hs hn1 hn2).mono (gA λh r x=>j6 x (by exact dG n hn1 hn2))
theorem dE{n:Int}(hn1:-9223372036854775808<=n)(hn2:n<9223372036854775808){d:Int}(hd1:-9223372036854775808<=d)(hd2:d<9223372036854775808):
 y8i 21 #[vI n,vI d] w0 h0 (λh r=>(rpQ 2).Is h r (kP n d)):=by
 exact(zDC hs hn1 hn2 hd1 hd2).mono (gA λh r x=>j6 x (by exact zB7 hn1 hn2 hd1 hd2))
theorem zZU{qa:Rat}{vna vda:Value}(hna:Us .u32 h0 vna (zB qa.num.natAbs))(hda:Us .u32 h0 vda (zB (vC qa.den))):
 Calls prog 146 #[.agg #[vB (qa.num<0),vna,vda]] w0 (Ret w0 h0 (λ_ r=>r=.tuple #[vI (smZ qa),vB (smB qa)])):=by
 refine cb1 33 (.agg #[vB (qa.num<0),vna,vda]) func146 hs ?_;refine go2 ?_;refine zG (vG (cs:=[_,_,_]) I I) I I I ?_;intro v1 r1 Z;obtain⟨b1,rfl,rfl⟩:=Z;refine qE ?_;refine gU 6 14 (vB (((0:Int)<(↑(zB (vC qa.den)).length:Int))\/((1:Int)<(↑(zB qa.num.natAbs).length:Int)))) ?_ ?_
 ·
  refine zY ((0:Int)<(↑(zB (vC qa.den)).length:Int)) (λO=>?_) (λO=>?_)
  ·
   refine gT O I (go6 ?_);refine gqU ?_;exact y4e (uH O)
  refine gF O I (uR ?_);refine gqU ?_;exact y4e (uJ O)
 refine gc2 (λC=>?_) λC=>?_
 ·
  refine go8 ?_;refine wY I I I ?_;obtain⟨e1,e2⟩:=yM4 C;rw[e1,yM e2]
 refine zD0 (λH=>?_) λH=>?_
 ·
  refine go8 ?_;refine wY I I I ?_;obtain⟨e1,e2⟩:=yM3 C H;rw[e1,xW e2]
 obtain⟨U,ab,J⟩:=yEU C H;have aa:=zYR C;refine go6 ?_;refine gv (zV (q:=0) (0) underlying27 sizeOf124 I I hna I oM) I (go1 ?_);rw[U];refine gv (zGX (k:=.u32) underlying124 underlying2 I oM) I (zAY (λD=>?_) λD=>?_)
 ·
  have M:=D;refine go3 ?_;refine gv (mR I oM oM) I (go8 ?_);refine wY I I I ?_;exact zJH oM (Iff.trans oM J.symm)
 have M:=D;refine qC ?_;refine wY I I I ?_;exact zJH oM (Iff.trans oM J.symm)
theorem tL{k:Nat}{va:Value}{a:Rat}(ra:(rpQ k).Is h0 va a):y8i 146 #[va] w0 h0 (λ_ r=>r=.tuple #[vI (smZ a),vB (smB a)]):=by
 obtain⟨H,J,rfl,C,D,M⟩:=qM ra;exact zZU hs C D
theorem zJ6{n:Int}(hn1:-9223372036854775808<=n)(hn2:n<9223372036854775808):
 y8i 148 #[vI n] w0 h0 (λ_ r=>r=vI (zIQ n)):=by
 refine cb1 9 (vI n) func148 hs ?_;refine sH ?_;refine cnd (λC=>?_) λC=>?_
 ·
  refine go8 ?_;refine zC I I ?_;unfold zIQ;rw[zau C]
 refine gc7 (λD=>?_) λD=>?_
 ·
  refine go8 ?_;refine zC I I ?_;unfold zIQ;rw[zae C,zau D]
 refine go9 ?_;refine zC I I ?_;unfold zIQ;rw[zae C,zae D]
theorem zDM{k:Nat}{vp:Value}{p:Tq}(rp:(tPt k).Is h0 vp p){i:Nat}{j:Nat}(H0:i<3)(H1:j<3):
 y8i 213 #[vp,vI ↑i,vI ↑j] w0 h0 (λh r=>r=.tuple #[vI (smZ (p.at i)),vI (smZ (p.at j)),vB (smB (p.at i)/\smB (p.at j))]):=by
 refine cb3 33 vp (vI ↑i) (vI ↑j) func213 hs ?_;refine go2 ?_;refine nB rp λH ah C=>(go8 ?_);refine gv ((zW (sz:=3) i underlying31 sizeOf29 I I I oM).cv (show _=vP H ((i*3+0)) from zbi (vP H) oM)) I (lX (xB yC (Pc.ta pH i oM) C) λac U=>(cL (ev1 I) call146 (λw hs=>tL hs U) λab h1 ae O=>?_));obtain rfl:=O;refine uR ?_;refine gv ((zW (sz:=3) j underlying31 sizeOf29 I I I oM).cv (show _=vP H ((j*3+0)) from zbi (vP H) oM)) I (lX (xB yC (Pc.ta pH j oM) C) λaa M=>(cL (ev1 I) call146 (λw hs=>tL hs M) λZ h2 ad J=>?_));obtain rfl:=J;refine qC ?_;refine gU 3 32 (vB ((smB (p.at i))/\(smB (p.at j)))) ?_ ?_
 ·
  refine zY (smB (p.at i)) (λD=>?_) (λD=>?_)
  ·
   refine gT D I (go4 ?_);refine gqU ?_;exact y4e (xD D)
  refine gF D I (go3 ?_);refine gqU ?_;exact y4e (xE D)
 refine go6 ?_;refine qU I I I I ?_
 rfl
theorem zES{k:Nat}{va:Value}{a:Tq}(ra:(tPt k).Is h0 va a){vb:Value}{b:Tq}(rb:(tPt k).Is h0 vb b){vc:Value}{c:Tq}(rc:(tPt k).Is h0 vc c){i:Nat}{j:Nat}(H0:i<3)(H1:j<3)(H2:k<=1000000000):
 y8i 206 #[va,vb,vc,vI ↑i,vI ↑j] w0 h0 (λ_ r=>r=vI (orZ (pr a i j) (pr b i j) (pr c i j))):=by
 refine jT (n:=100) (e:=[(0,va),(1,vb),(2,vc),(3,vI ↑i),(4,vI ↑j)]) (vs:=[va,vb,vc,vI ↑i,vI ↑j]) func206 rfl rfl (bL rfl) hs e5z (go2 ?_);refine nB ra λO dh C=>(nB rb λb6 df Z=>(nB rc λb7 de U=>(go5 ?_)));refine lX (xB zK pH C) λck bk=>(go2 ?_);refine cL (ev3 I I I) call213 (λw hs=>zDM (i:=i) (j:=j) hs bk oM oM) λcj h1 dc bj=>?_;obtain rfl:=bj;refine qE ?_;refine lX (xB zK pH Z) λci bi=>(go2 ?_);refine cL (ev3 I I I) call213 (λw hs=>zDM (i:=i) (j:=j) hs bi oM oM) λch h2 db bh=>?_;obtain rfl:=bh;refine qE ?_;refine lX (xB zK pH U) λcg bg=>(go2 ?_);refine cL (ev3 I I I) call213 (λw hs=>zDM (i:=i) (j:=j) hs bg oM oM) λcf h3 da bf=>?_;obtain rfl:=bf;refine rS ?_;refine gU 3 48 (vB ((smB (a.at i)/\smB (a.at j))/\(smB (b.at i)/\smB (b.at j)))) ?_ ?_
 ·
  refine zY (smB (a.at i)/\smB (a.at j)) (λD=>?_) (λD=>?_)
  ·
   refine gT D I (go4 ?_);refine gqU ?_;exact y4e (xD D)
  refine gF D I (go3 ?_);refine gqU ?_;exact y4e (xE D)
 refine gU 3 51 (vB (((smB (a.at i)/\smB (a.at j))/\(smB (b.at i)/\smB (b.at j)))/\(smB (c.at i)/\smB (c.at j)))) ?_ ?_
 ·
  refine zY ((smB (a.at i)/\smB (a.at j))/\(smB (b.at i)/\smB (b.at j))) (λD=>?_) (λD=>?_)
  ·
   refine gT D I (go4 ?_);refine gqU ?_;exact y4e (xD D)
  refine gF D I (go3 ?_);refine gqU ?_;exact y4e (xE D)
 refine gc2 (λH=>?_) λH=>?_
 ·
  obtain⟨⟨⟨ap,ao⟩,an,am⟩,M,J⟩:=H;have cq:=(rH ap).2;have cp:=(rH ao).2;have co:=(rH an).2;have cn:=(rH am).2;have cm:=(rH M).2;have cl:=(rH J).2;have kp:=zZM (u:=smZ (b.at i)-smZ (a.at i)) (v:=smZ (c.at j)-smZ (a.at j)) oM oM oM oM;have kq:=zZM (u:=smZ (b.at j)-smZ (a.at j)) (v:=smZ (c.at i)-smZ (a.at i)) oM oM oM oM;refine go8 ?_;refine gv (gK I I oM oM) I (go6 ?_);refine gv (gK I I oM oM) I (go1 ?_);refine cL (ev1 I) call148 (λw hs=>zJ6 hs oM oM) λar h4 bl be=>?_;obtain rfl:ar=vI (zIQ ((((smZ (b.at i))-(smZ (a.at i)))*((smZ (c.at j))-(smZ (a.at j))))-(((smZ (b.at j))-(smZ (a.at j)))*((smZ (c.at i))-(smZ (a.at i)))))):=be;refine go5 ?_;refine zC I I ?_;exact zbi vI (zZ6 (a:=pr a i j) (b:=pr b i j) (c:=pr c i j) ⟨ap,ao⟩ ⟨an,am⟩ ⟨M,J⟩)
 refine go3 ?_;refine zJ 16 _ [(15,(20,29,[.bool false,.slice none 0 0,.slice none 0 0]))] (zai 0 6 (zai 7 6 [(6,.c),(13,.c),(14,.c),(15,.a),(16,.t)])) zX (jD.cons I I (uM xU I I) jD.nil) (wL zou) (uN I I kF) (λr hr=>hr) (go1 ?_);refine wZ I (λ_ _=>(zW (sz:=3) i underlying31 sizeOf29 I I I oM).cv (show _=vP b6 ((i*3+0)) from zbi (vP b6) oM)) I (wX I (xB yC (Pc.ta pH i oM) Z) λce bd=>(go1 ?_));refine wZ I (λ_ _=>(zW (sz:=3) i underlying31 sizeOf29 I I I oM).cv (show _=vP O ((i*3+0)) from zbi (vP O) oM)) I (wX I (xB yC (Pc.ta pH i oM) C) λcd bc=>(go1 ?_));refine wZ I (λ_ _=>(zW (sz:=3) j underlying31 sizeOf29 I I I oM).cv (show _=vP b7 ((j*3+0)) from zbi (vP b7) oM)) I (wX I (xB yC (Pc.ta pH j oM) U) λcb bb=>(go1 ?_));refine wZ I (λ_ _=>(zW (sz:=3) j underlying31 sizeOf29 I I I oM).cv (show _=vP O ((j*3+0)) from zbi (vP O) oM)) I (wX I (xB yC (Pc.ta pH j oM) C) λca ba=>?_);refine w_c I (sC (ev2 I I) call121 (λw hs=>fV hs bd bc oM) λcc h4 bl ah=>?_);replace ah:=Rp.Is.le ah (Le.q (l:=2*k+1) oM);refine w_c I (sC (ev2 I I) call121 (λw hs=>fV hs bb.up ba.up oM) λbz h5 cz ae=>?_);replace ae:=Rp.Is.le ae (Le.q (l:=2*k+1) oM);refine w_c I (sC (ev2 I I) call153 (λw hs=>kO hs ah.up ae oM) λbx h6 cy ad=>?_);replace ad:=Rp.Is.le ad (Le.q (l:=4*k+2) oM);refine w_a I I (λdi=>?_);have ak:(rpQ 1).R h6 [.bool false,.slice none 0 0,.slice none 0 0] (0:Rat):=(yE dC);have ai:=(Le.q (l:=4*k+2) oM).R ak;refine yG (A:=[]) I (uB sizeOf29 pH ai ad) λbo aj=>(go3 ?_);refine zJ 18 _ [] (zai 0 7 (zai 8 6 [(7,.c),(14,.c),(15,.c),(16,.c),(17,.q)])) zX nX (wL zou) nX (λr hr=>hr) (wX I (xB yC pH aj) λbw az=>(go1 ?_));refine wZ I (λ_ _=>(zW (sz:=3) j underlying31 sizeOf29 I I I oM).cv (show _=vP b6 ((j*3+0)) from zbi (vP b6) oM)) I (wX I (xB yC (Pc.ta pH j oM) Z) λbv ay=>(go1 ?_));refine wZ I (λ_ _=>(zW (sz:=3) j underlying31 sizeOf29 I I I oM).cv (show _=vP O ((j*3+0)) from zbi (vP O) oM)) I (wX I (xB yC (Pc.ta pH j oM) C) λbu ax=>(go1 ?_));refine wZ I (λ_ _=>(zW (sz:=3) i underlying31 sizeOf29 I I I oM).cv (show _=vP b7 ((i*3+0)) from zbi (vP b7) oM)) I (wX I (xB yC (Pc.ta pH i oM) U) λbs aw=>(go1 ?_));refine wZ I (λ_ _=>(zW (sz:=3) i underlying31 sizeOf29 I I I oM).cv (show _=vP O ((i*3+0)) from zbi (vP O) oM)) I (wX I (xB yC (Pc.ta pH i oM) C) λbr av=>?_);refine w_c I (sC (ev2 I I) call121 (λw hs=>fV hs ay ax oM) λbt h7 cw ac=>?_);replace ac:=Rp.Is.le ac (Le.q (l:=2*k+1) oM);refine w_c I (sC (ev2 I I) call121 (λw hs=>fV hs aw.up av.up oM) λbq h8 cu ab=>?_);replace ab:=Rp.Is.le ab (Le.q (l:=2*k+1) oM);refine w_c I (sC (ev2 I I) call153 (λw hs=>kO hs ac.up ab oM) λbp h9 ct aa=>?_);replace aa:=Rp.Is.le aa (Le.q (l:=4*k+2) oM);refine w_c I (sC (ev2 I I) call182 (λw hs=>aR hs az.up aa oM) λaq dd bn au=>?_);obtain rfl:aq=vI (xZ (((b.at i)-(a.at i))*((c.at j)-(a.at j))) (((b.at j)-(a.at j))*((c.at i)-(a.at i)))):=au;have bm:=jC (((b.at i)-(a.at i))*((c.at j)-(a.at j))) (((b.at j)-(a.at j))*((c.at i)-(a.at i)));refine go4 ?_;refine zC I I ?_;exact zbi vI (yJ2 (pr a i j) (pr b i j) (pr c i j))
theorem zBZ{k:Nat}{va:Value}{a:Rat}(ra:(rpQ k).Is h0 va a){vb:Value}{b:Rat}(rb:(rpQ k).Is h0 vb b){vx:Value}{x:Rat}(rx:(rpQ k).Is h0 vx x)(H0:k<=1000000000):
 y8i 212 #[va,vb,vx] w0 h0 (λ_ r=>r=vB (kR a b x)):=by
 refine cb3 29 va vb vx func212 hs ?_;refine go2 ?_;refine nB ra λb3 ap O=>(nB rb λb4 ao M=>(nB rx λb5 an D=>(go4 ?_)));refine zJ 8 _ [] [(0,.q),(1,.q),(3,.q),(4,.q),(2,.c),(5,.c),(6,.q),(7,.q)] zX nX zou nX (λr hr=>hr) (wX I (xB yC pH O) λv9 r9=>(wX I (xB yC pH D) λaj ac=>(wX I (xB yC pH D) λai aa=>(wX I (xB yC pH M) λah Z=>?_))));refine w_c I (sC (ev2 I I) call182 (λw hs=>aR hs r9 ac oM) λJ h1 am ab=>?_);obtain rfl:J=vI (xZ a x):=ab;have ae:=jC a x;refine w_c I (sC (ev2 I I) call182 (λw hs=>aR hs aa.up Z.up oM) λH h2 ak U=>?_);obtain rfl:H=vI (xZ x b):=U;have ad:=jC x b;refine go8 ?_;refine gU 4 20 (vB (((xZ a x)<=(0:Int))/\((xZ x b)<=(0:Int)))) ?_ ?_
 ·
  refine zY ((xZ a x)<=(0:Int)) (λC=>?_) (λC=>?_)
  ·
   refine gT C I (go6 ?_);refine gqU ?_;exact y4e (xD C)
  refine gF C I (go4 ?_);refine gqU ?_;exact y4e (xE C)
 refine gU 8 28 (vB ((((xZ a x)<=(0:Int))/\((xZ x b)<=(0:Int)))\/(((0:Int)<=(xZ a x))/\((0:Int)<=(xZ x b))))) ?_ ?_
 ·
  refine zY (((xZ a x)<=(0:Int))/\((xZ x b)<=(0:Int))) (λC=>?_) (λC=>?_)
  ·
   refine gT C I (go8 ?_);refine gqU ?_;exact y4e (uH C)
  refine gF C I (go4 ?_);refine gU 4 27 (vB (((0:Int)<=(xZ a x))/\((0:Int)<=(xZ x b)))) ?_ ?_
  ·
   refine zY ((0:Int)<=(xZ a x)) (λC=>?_) (λC=>?_)
   ·
    refine go1 ?_;refine gT C I (go7 ?_);refine gqU ?_;exact y4e (xD C)
   refine go1 ?_;refine gF C I (go5 ?_);refine gqU ?_;exact y4e (xE C)
  refine go2 ?_;refine gqU ?_;exact y4e (uJ C)
 refine go4 ?_;refine zC I I ?_;exact kS yDM
theorem yFJ{k:Nat}{va:Value}{a:Tq}(ra:(tPt k).Is h0 va a){vb:Value}{b:Tq}(rb:(tPt k).Is h0 vb b){vp:Value}{p:Tq}(rp:(tPt k).Is h0 vp p){i:Nat}{j:Nat}(H0:i<3)(H1:j<3)(H2:k<=1000000000):
 y8i 205 #[va,vb,vp,vI ↑i,vI ↑j] w0 h0 (λ_ r=>r=vB (onS (pr a i j) (pr b i j) (pr p i j))):=by
 refine jT (n:=42) (e:=[(0,va),(1,vb),(2,vp),(3,vI ↑i),(4,vI ↑j)]) (vs:=[va,vb,vp,vI ↑i,vI ↑j]) func205 rfl rfl (bL rfl) hs e5z (go2 ?_);refine nB ra λZ bj M=>(nB rb λU bi J=>(nB rp λO bh H=>(go4 ?_)));refine zJ 32 _ [] (zai 0 9 ((9,.c)::zai 10 10 ((20,.c)::zai 21 7 [(28,.c),(29,.q),(30,.q),(31,.q)]))) zX nX (wL zou) nX (λr hr=>hr) (go1 ?_);refine wZ I (λ_ _=>(zW (sz:=3) i underlying31 sizeOf29 I I I oM).cv (show _=vP Z ((i*3+0)) from zbi (vP Z) oM)) I (wX I (xB yC (Pc.ta pH i oM) M) λbd ar=>(go1 ?_));refine wZ I (λ_ _=>(zW (sz:=3) i underlying31 sizeOf29 I I I oM).cv (show _=vP U ((i*3+0)) from zbi (vP U) oM)) I (wX I (xB yC (Pc.ta pH i oM) J) λbc aq=>(go1 ?_));refine wZ I (λ_ _=>(zW (sz:=3) i underlying31 sizeOf29 I I I oM).cv (show _=vP O ((i*3+0)) from zbi (vP O) oM)) I (wX I (xB yC (Pc.ta pH i oM) H) λbb ap=>?_);refine w_c I (sC (ev3 I I I) call212 (λw hs=>zBZ hs ar aq ap oM) λac h1 bg ao=>?_);obtain rfl:ac=vB (kR (a.at i) (b.at i) (p.at i)):=ao;refine go1 ?_;refine jZ (kR (a.at i) (b.at i) (p.at i)) (λD=>?_) (λD=>?_)
 ·
  rw[xW D];refine yV I I I (λh' L' hh hR=>xG I) I (yV I I I (λh' L' hh hR=>(zW (sz:=3) j underlying31 sizeOf29 I I I oM).cv (show _=vP Z ((j*3+0)) from zbi (vP Z) oM)) I (oX I (xB yC (Pc.ta pH j oM) M) λba an=>(yV I I I (λh' L' hh hR=>xG I) I (yV I I I (λh' L' hh hR=>(zW (sz:=3) j underlying31 sizeOf29 I I I oM).cv (show _=vP U ((j*3+0)) from zbi (vP U) oM)) I (oX I (xB yC (Pc.ta pH j oM) J) λaz am=>(yV I I I (λh' L' hh hR=>xG I) I (yV I I I (λh' L' hh hR=>(zW (sz:=3) j underlying31 sizeOf29 I I I oM).cv (show _=vP O ((j*3+0)) from zbi (vP O) oM)) I (oX I (xB yC (Pc.ta pH j oM) H) λay ak=>?_))))))));refine w_c I (iT I I (sC (ev3 I I I) call212 (λw hs=>zBZ hs an am ak oM) λab h2 bf aj=>?_));obtain rfl:ab=vB (kR (a.at j) (b.at j) (p.at j)):=aj;refine go2 ?_;refine jZ (kR (a.at j) (b.at j) (p.at j)) (λC=>?_) (λC=>?_)
  ·
   rw[xW C];refine oX I (xB zK pH M) λax ai=>(oX I (xB zK pH J) λaw ah=>(oX I (xB zK pH H) λav ae=>(yV I I I (λh' L' hh hR=>xG I) I (yV I I I (λh' L' hh hR=>xG I) I ?_))));refine w_c I (iT I I (sC (vs:=[_,_,_,_,_]) e5z call206 (λw hs=>zES (i:=i) (j:=j) hs ai ah ae oM oM oM) λaa h3 be ad=>?_));obtain rfl:aa=vI (orZ (pr a i j) (pr b i j) (pr p i j)):=ad;have au:=tV (pr a i j) (pr b i j) (pr p i j);refine go6 ?_;refine zC I I ?_
   first|exact kS (by unfold onS;simp only[pr,<-fT] at *;grind)|exact(xW (by unfold onS;simp only[pr,<-fT] at *;grind)).symm|exact(yM (by unfold onS;simp only[pr,<-fT] at *;grind)).symm
  rw[yM C];refine go5 ?_;refine w_c I (mJ I I I I (go6 ?_));refine zC I I ?_
  first|exact kS (by unfold onS;simp only[pr,<-fT] at *;grind)|exact(xW (by unfold onS;simp only[pr,<-fT] at *;grind)).symm|exact(yM (by unfold onS;simp only[pr,<-fT] at *;grind)).symm
 rw[yM D];refine go9 ?_;refine w_c I (mJ I I I I (go7 ?_));refine w_c I (mJ I I I I (go6 ?_));refine zC I I ?_
 first|exact kS (by unfold onS;simp only[pr,<-fT] at *;grind)|exact(xW (by unfold onS;simp only[pr,<-fT] at *;grind)).symm|exact(yM (by unfold onS;simp only[pr,<-fT] at *;grind)).symm
theorem zOP{k:Nat}{vl:Value}{l:(List Tq)}(rl:(tLs k).Is h0 vl l){vp:Value}{p:Tq}(rp:(tPt k).Is h0 vp p){i:Nat}{j:Nat}(H0:i<3)(H1:j<3)(H2:k<=100000)(H3:l.length<=1000):
 y8i 183 #[vl,vp,vI ↑i,vI ↑j] w0 h0 (λ_ r=>r=vI (kL l (pr p i j) i j)):=by
 refine jT (n:=78) (e:=[(0,vl),(1,vp),(2,vI ↑i),(3,vI ↑j)]) (vs:=[vl,vp,vI ↑i,vI ↑j]) func183 rfl rfl (bL rfl) hs e4z (go2 ?_);refine nB rp λb5 bp aa=>(nY ?_);refine gcL (ι:=Nat×Mem) (λ(m,ma)=>(MLe h0 ma/\(m<=l.length/\∀q,q<m->¬onS (vV l i j q) (vT l i j q) (pr p i j)),[(0,vl),(2,vI ↑i),(3,vI ↑j),(5,vP b5 0),(9,vB (kM l (pr p i j) i j m)),(16,vl),(17,vI (↑(l).length:Int)),(18,vI ↑m)],[.var b5 31 bp],ma,l.length-m)) (0,h0) ?_ ?_ (he:=⟨I,I,I,I,y4e (yM id).symm,I,I,I,y5i⟩)
 · exact⟨mle,zot,λq hq=>by omega⟩
 rintro⟨m,ma⟩ ⟨bq,ai,O⟩
 refine yY ?_;refine gc6 (λaj=>?_) λaj=>?_
 ·
  refine go7 ?_;refine lX (xI zT m underlying35 zK rl) λci bk=>(lX (xA zK bk) λch bj=>(nA (ρ:=(tPt 1)) (X:=zT) yK (yR (yE dC)) λam bt ah=>(go1 ?_)));have ad:=(Le.t (Le.q (l:=k+1) oM)).R ah;refine zP (A:=[]) (uB sizeOf31 pH ad (bj.le (Le.t (Le.q (l:=k+1) oM)))) λbr M=>(go9 ?_);refine gv (wI I I oM oM) I (lX (xI zT ((m+1)%l.length) underlying35 zK rl (hi:=by exact zcu _ oM)) λcg bi=>(lX (xA zK bi) λcf bh=>(nA (ρ:=(tPt 1)) (X:=zT) yK (yR (yE dC)) λak bs ae=>?_)));have ac:=(Le.t (Le.q (l:=k+1) oM)).R ae;refine zP (A:=[]) (uB sizeOf31 pH ac (bh.le (Le.t (Le.q (l:=k+1) oM)))) λbo J=>(go5 ?_);refine lX (xB zK pH M) λce bg=>(lX (xB zK pH J) λcd bf=>(lX (xB zK pH aa) λcc be=>(go2 ?_)));refine cL (vs:=[_,_,_,_,_]) e5z call205 (λw hs=>yFJ (i:=i) (j:=j) hs bg bf (be.le (Le.t (Le.q (l:=k+1) oM))) oM oM oM) λaq h1 cm bd=>?_;obtain rfl:aq=vB (onS (pr (l.getD m zT) i j) (pr (l.getD ((m+1)%l.length) zT) i j) (pr p i j)):=bd;refine gc2 (λH=>?_) λH=>?_
  ·
   refine qC ?_;refine zC I I ?_;exact zbi vI (yBR oM H)
  refine go3 ?_;refine zJ 18 _ [] (zai 0 6 (zai 8 6 [(6,.c),(7,.q),(14,.c),(15,.q),(16,.q),(17,.q)])) zX nX (wL zou) nX (λr hr=>hr) (go1 ?_);refine wZ I (λ_ _=>(zW (sz:=3) j underlying31 sizeOf29 I I I oM).cv (show _=vP am ((j*3+0)) from zbi (vP am) oM)) I (wX I (xB yC (Pc.ta pH j oM) M) λcb bc=>(go1 ?_));refine wZ I (λ_ _=>(zW (sz:=3) j underlying31 sizeOf29 I I I oM).cv (show _=vP b5 ((j*3+0)) from zbi (vP b5) oM)) I (wX I (xB yC (Pc.ta pH j oM) aa) λca bb=>(go1 ?_));refine wZ I (λ_ _=>(zW (sz:=3) j underlying31 sizeOf29 I I I oM).cv (show _=vP ak ((j*3+0)) from zbi (vP ak) oM)) I (wX I (xB yC (Pc.ta pH j oM) J) λbz az=>(go1 ?_));refine wZ I (λ_ _=>(zW (sz:=3) j underlying31 sizeOf29 I I I oM).cv (show _=vP b5 ((j*3+0)) from zbi (vP b5) oM)) I (wX I (xB yC (Pc.ta pH j oM) aa) λbx ay=>?_);refine w_c I (sC (ev2 I I) call182 (λw hs=>aR hs bc bb oM) λap h2 cl ba=>?_);obtain rfl:ap=vI (xZ ((l.getD m zT).at j) (p.at j)):=ba;have bn:=jC ((l.getD m zT).at j) (p.at j);refine go1 ?_;refine w_c I (sC (ev2 I I) call182 (λw hs=>aR hs az.up ay.up oM) λao h3 ck ax=>?_);obtain rfl:ao=vI (xZ ((l.getD ((m+1)%l.length) zT).at j) (p.at j)):=ax;have bm:=jC ((l.getD ((m+1)%l.length) zT).at j) (p.at j);refine uR ?_;refine gv (lF underlying4 I I) I (gc2 (λZ=>?_) λZ=>?_)
  ·
   have ab:(vV l i j m).2<=(pr p i j).2↔(vT l i j m).2<=(pr p i j).2:=by have h:=Z;rw[kA,kA] at h;exact h
   refine go8 ?_;refine xK (A:=[]) (xK (A:=[]) ?_);refine gqL ((m+1),h3) ?_ ?_ (he:=⟨I,I,I,I,zbi (λz=>some (vB z)) (yAF ab),I,I,I,y5i⟩)
   · exact⟨mle,zot,zBU O H⟩
   omega
  have ab:¬((vV l i j m).2<=(pr p i j).2↔(vT l i j m).2<=(pr p i j).2):=by have h:=Z;rw[kA,kA] at h;exact h
  refine go4 ?_;refine lX (xB zK pH M) λbw aw=>(lX (xB zK pH J) λbv av=>(lX (xB zK pH aa) λbu au=>(go2 ?_)));refine cL (vs:=[_,_,_,_,_]) e5z call206 (λw hs=>zES (i:=i) (j:=j) hs aw av (au.le (Le.t (Le.q (l:=k+1) oM))) oM oM oM) λan h4 cj ar=>?_;obtain rfl:an=vI (orZ (pr (l.getD m zT) i j) (pr (l.getD ((m+1)%l.length) zT) i j) (pr p i j)):=ar;have bl:=tV (pr (l.getD m zT) i j) (pr (l.getD ((m+1)%l.length) zT) i j) (pr p i j);refine go6 ?_;refine gU 4 66 (vB (((xZ ((l.getD m zT).at j) (p.at j))<=(0:Int))/\((0:Int)<(orZ (pr (l.getD m zT) i j) (pr (l.getD ((m+1)%l.length) zT) i j) (pr p i j))))) ?_ ?_
  ·
   refine zY ((xZ ((l.getD m zT).at j) (p.at j))<=(0:Int)) (λC=>?_) (λC=>?_)
   ·
    refine gT C I (go6 ?_);refine gqU ?_;exact y4e (xD C)
   refine gF C I (go4 ?_);refine gqU ?_;exact y4e (xE C)
  refine gU 7 73 (vB ((((xZ ((l.getD m zT).at j) (p.at j))<=(0:Int))/\((0:Int)<(orZ (pr (l.getD m zT) i j) (pr (l.getD ((m+1)%l.length) zT) i j) (pr p i j))))\/(((xZ ((l.getD ((m+1)%l.length) zT).at j) (p.at j))<=(0:Int))/\((orZ (pr (l.getD m zT) i j) (pr (l.getD ((m+1)%l.length) zT) i j) (pr p i j))<(0:Int))))) ?_ ?_
  ·
   refine zY (((xZ ((l.getD m zT).at j) (p.at j))<=(0:Int))/\((0:Int)<(orZ (pr (l.getD m zT) i j) (pr (l.getD ((m+1)%l.length) zT) i j) (pr p i j)))) (λC=>?_) (λC=>?_)
   ·
    refine gT C I (go7 ?_);refine gqU ?_;exact y4e (uH C)
   refine gF C I (go2 ?_);refine gU 4 72 (vB (((xZ ((l.getD ((m+1)%l.length) zT).at j) (p.at j))<=(0:Int))/\((orZ (pr (l.getD m zT) i j) (pr (l.getD ((m+1)%l.length) zT) i j) (pr p i j))<(0:Int)))) ?_ ?_
   ·
    refine zY ((xZ ((l.getD ((m+1)%l.length) zT).at j) (p.at j))<=(0:Int)) (λC=>?_) (λC=>?_)
    ·
     refine go1 ?_;refine gT C I (go7 ?_);refine gqU ?_;exact y4e (xD C)
    refine go1 ?_;refine gF C I (go5 ?_);refine gqU ?_;exact y4e (xE C)
   refine go2 ?_;refine gqU ?_;exact y4e (uJ C)
  refine gc2 (λD=>?_) λD=>?_
  ·
   rw[kA,kA] at D;refine qE ?_;refine xK (A:=[]) (xK (A:=[]) ?_);refine gqL ((m+1),h4) ?_ ?_ (he:=⟨I,I,I,I,zbi (λz=>some (vB z)) (yAG ab D),I,I,I,y5i⟩)
   · exact⟨mle,zot,zBU O H⟩
   omega
  rw[kA,kA] at D;refine go7 ?_;refine xK (A:=[]) (xK (A:=[]) ?_);refine gqL ((m+1),h4) ?_ ?_ (he:=⟨I,I,I,I,zbi (λz=>some (vB z)) (yAE D),I,I,I,y5i⟩)
  · exact⟨mle,zot,zBU O H⟩
  omega
 refine zD0 (λU=>?_) λU=>?_
 ·
  refine go7 ?_;refine zC I I ?_;exact zbi vI (yBS oM ai O U)
 refine go8 ?_;refine zC I I ?_;exact zbi vI (zT4 oM ai O U)
end
end Go.Proofs.YtpkaegemlpaenaaGreat
namespace Bk
open Go Go.RowKit
theorem Is.up{h h':Mem}{v:Value}{xs:List Int}(r:Is h v xs)(hm:MLe h h':=by exact mle):Is h' v xs:=r.mono hm
end Bk
namespace Go.Proofs.YtpkaegemlpaenaaGreat
open Bk Go Tryz
attribute [local irreducible] GL GC GQ W OpV
section
variable{w0:World}{h0:Mem}(hs:MLe h0 (mem w0))
include hs
theorem yAH{k l:Nat}{va:Value}{a:Tq}(ra:(tPt k).Is h0 va a){vb:Value}{b:Tq}(rb:(tPt l).Is h0 vb b)(H0:k+l<=1000000000):
 y8i 14 #[va,vb] w0 h0 (λh r=>(tPt (k+3*l+3)).Is h r (T3.mk (a.x+b.x) (a.y+b.y) (a.z+b.z))):=by
 refine cb2 20 va vb func14 hs ?_;refine go2 ?_;refine nB ra λb2 bn au=>(nB rb λb3 bm ad=>(nA (ρ:=(tPt (k+3*l+3))) (X:=zT) yK (yR (yE oM)) λb4 bl bc=>(go9 ?_)));refine fX (go4 ?_);refine gv (OpV.tr dC (yS (q:=3) I I)) I (go7 ?_);refine zJ 9 _ [] (zai 0 7 [(7,.c),(8,.q),(9,.t)]) zX nX zou nX (λr hr=>hr) (go3 ?_);refine wX I (xB yC (y6e pH) au) λbb an=>(go2 ?_);refine wX I (xB yC (y6e pH) ad) λay aj=>?_;refine w_c I (sC (ev2 I I) call45 (λw hs=>pK hs an aj oM) λaa h1 bk H=>?_)
 change (rpQ (k+l+1)).Is h1 aa (a.x+b.x) at H
 refine go1 ?_;have aq:=(Le.t (Le.q (l:=k+l+1) oM)).R au;refine yG (A:=[_,_]) I (uB sizeOf29 (y6e pH) aq H) λbh O=>(go5 ?_);refine gv ((yD (q:=1) I I oM oM).cv (show _=vI (1) from I)) I (go2 ?_);refine wK (go4 ?_);refine gv (OpV.tr dC (yS (q:=3) I I)) I (go7 ?_);refine zJ 9 _ [] (zai 0 7 [(7,.c),(8,.q),(9,.t)]) zX nX zou nX (λr hr=>hr) (go3 ?_);refine wX I (xB yC (y7i pH) O) λba am=>(go2 ?_);refine wX I (xB yC (y7i pH) ad) λax ai=>?_;refine w_c I (sC (ev2 I I) call45 (λw hs=>pK hs am ai oM) λZ h2 bj D=>?_)
 change (rpQ ((k+l+1)+l+1)).Is h2 Z (a.y+b.y) at D
 replace D:=Rp.Is.le D (Le.q (l:=k+2*l+2) oM);refine go1 ?_;have ap:=(Le.t (Le.q (l:=k+2*l+2) oM)).R O;refine yG (A:=[_,_]) I (uB sizeOf29 (y7i pH) ap D) λbg M=>(go5 ?_);refine gv ((yD (q:=1) I I oM oM).cv (show _=vI (2) from I)) I (go2 ?_);refine wK (go4 ?_);refine gv (OpV.tr dC (yS (q:=3) I I)) I (go7 ?_);refine zJ 9 _ [] (zai 0 7 [(7,.c),(8,.q),(9,.t)]) zX nX zou nX (λr hr=>hr) (go3 ?_);refine wX I (xB yC (y7u pH) M) λaz ak=>(go2 ?_);refine wX I (xB yC (y7u pH) ad) λaw ah=>?_;refine w_c I (sC (ev2 I I) call45 (λw hs=>pK hs ak ah oM) λU h3 bi C=>?_)
 change (rpQ ((k+2*l+2)+l+1)).Is h3 U (a.z+b.z) at C
 replace C:=Rp.Is.le C (Le.q (l:=k+3*l+3) oM);refine go1 ?_;have ao:=(Le.t (Le.q (l:=k+3*l+3) oM)).R M;refine yG (A:=[_,_]) I (uB sizeOf29 (y7u pH) ao C) λbf ar=>(go5 ?_);refine gv ((yD (q:=1) I I oM oM).cv (show _=vI (3) from I)) I (go2 ?_);refine wK (go4 ?_);refine gv (OpV.fa dC (yS (q:=3) I I)) I (uR ?_);refine lX (xB zK pH ar) λav ae=>(zP (A:=[]) (uB sizeOf31 pH bc ae) λbd ac=>(go3 ?_));refine wG (jG (t:=4) zK mh0 I ac) ?_;intro be J ab;refine yN (λE S=>zS I J E S) ?_;exact ab
theorem zOL{k l:Nat}{va:Value}{a:Tq}(ra:(tPt k).Is h0 va a){vb:Value}{b:Tq}(rb:(tPt l).Is h0 vb b)(H0:k+l<=1000000000):
 y8i 22 #[va,vb] w0 h0 (λh r=>(tPt (k+3*l+3)).Is h r (T3.mk (a.x-b.x) (a.y-b.y) (a.z-b.z))):=by
 refine cb2 20 va vb func22 hs ?_;refine go2 ?_;refine nB ra λb2 bn au=>(nB rb λb3 bm aj=>(nA (ρ:=(tPt (k+3*l+3))) (X:=zT) yK (yR (yE oM)) λb4 bl bc=>(go9 ?_)));refine fX (go4 ?_);refine gv (OpV.tr dC (yS (q:=3) I I)) I (go7 ?_);refine zJ 9 _ [] (zai 0 7 [(7,.c),(8,.q),(9,.t)]) zX nX zou nX (λr hr=>hr) (go3 ?_);refine wX I (xB yC (y6e pH) au) λbb ar=>(go2 ?_);refine wX I (xB yC (y6e pH) aj) λay ao=>?_;refine w_c I (sC (ev2 I I) call55 (λw hs=>tJ hs ar ao oM) λaa h1 bk M=>?_)
 change (rpQ (k+l+1)).Is h1 aa (a.x-b.x) at M
 refine go1 ?_;have ad:=(Le.t (Le.q (l:=k+l+1) oM)).R au;refine yG (A:=[_,_]) I (uB sizeOf29 (y6e pH) ad M) λbg J=>(go5 ?_);refine gv ((yD (q:=1) I I oM oM).cv (show _=vI (1) from I)) I (go2 ?_);refine wK (go4 ?_);refine gv (OpV.tr dC (yS (q:=3) I I)) I (go7 ?_);refine zJ 9 _ [] (zai 0 7 [(7,.c),(8,.q),(9,.t)]) zX nX zou nX (λr hr=>hr) (go3 ?_);refine wX I (xB yC (y7i pH) J) λba aq=>(go2 ?_);refine wX I (xB yC (y7i pH) aj) λax an=>?_;refine w_c I (sC (ev2 I I) call55 (λw hs=>tJ hs aq an oM) λZ h2 bj D=>?_)
 change (rpQ ((k+l+1)+l+1)).Is h2 Z (a.y-b.y) at D
 replace D:=Rp.Is.le D (Le.q (l:=k+2*l+2) oM);refine go1 ?_;have ac:=(Le.t (Le.q (l:=k+2*l+2) oM)).R J;refine yG (A:=[_,_]) I (uB sizeOf29 (y7i pH) ac D) λbf H=>(go5 ?_);refine gv ((yD (q:=1) I I oM oM).cv (show _=vI (2) from I)) I (go2 ?_);refine wK (go4 ?_);refine gv (OpV.tr dC (yS (q:=3) I I)) I (go7 ?_);refine zJ 9 _ [] (zai 0 7 [(7,.c),(8,.q),(9,.t)]) zX nX zou nX (λr hr=>hr) (go3 ?_);refine wX I (xB yC (y7u pH) H) λaz ap=>(go2 ?_);refine wX I (xB yC (y7u pH) aj) λaw am=>?_;refine w_c I (sC (ev2 I I) call55 (λw hs=>tJ hs ap am oM) λU h3 bi C=>?_)
 change (rpQ ((k+2*l+2)+l+1)).Is h3 U (a.z-b.z) at C
 replace C:=Rp.Is.le C (Le.q (l:=k+3*l+3) oM);refine go1 ?_;have ab:=(Le.t (Le.q (l:=k+3*l+3) oM)).R H;refine yG (A:=[_,_]) I (uB sizeOf29 (y7u pH) ab C) λbe ai=>(go5 ?_);refine gv ((yD (q:=1) I I oM oM).cv (show _=vI (3) from I)) I (go2 ?_);refine wK (go4 ?_);refine gv (OpV.fa dC (yS (q:=3) I I)) I (uR ?_);refine lX (xB zK pH ai) λav ak=>(zP (A:=[]) (uB sizeOf31 pH bc ak) λbd ah=>(go3 ?_));refine wG (jG (t:=4) zK mh0 I ah) ?_;intro bh O ae;refine yN (λE S=>zS I O E S) ?_;exact ae
theorem zG4{l k:Nat}{vq:Value}{q:Rat}(rq:(rpQ l).Is h0 vq q){va:Value}{a:Tq}(ra:(tPt k).Is h0 va a)(H0:k+l<=1000000000):
 y8i 20 #[vq,va] w0 h0 (λh r=>(tPt (k+3*l+1)).Is h r (T3.mk (q*a.x) (q*a.y) (q*a.z))):=by
 refine cb2 18 vq va func20 hs ?_;refine go2 ?_;refine nB rq λb2 bn ap=>(nB ra λb3 bm au=>(nA (ρ:=(tPt (k+3*l+1))) (X:=zT) yK (yR (yE oM)) λb4 bl bc=>(go9 ?_)));refine fX (go4 ?_);refine gv (OpV.tr dC (yS (q:=3) I I)) I (go7 ?_);refine zJ 7 _ [] (zai 0 5 [(5,.c),(6,.q),(7,.t)]) zX nX zou nX (λr hr=>hr) (go1 ?_);refine wX I (xB yC pH ap) λbb ar=>(go2 ?_);refine wX I (xB yC (y6e pH) au) λba aq=>?_;refine w_c I (sC (ev2 I I) call53 (λw hs=>jA hs ar aq oM) λah h1 bk H=>?_)
 change (rpQ (l+k)).Is h1 ah (q*a.x) at H
 replace H:=Rp.Is.le H (Le.q (l:=k+l) oM);refine go1 ?_;have ak:=(Le.t (Le.q (l:=k+l) oM)).R au;refine yG (A:=[_]) I (uB sizeOf29 (y6e pH) ak H) λbg M=>(go5 ?_);refine gv ((yD (q:=1) I I oM oM).cv (show _=vI (1) from I)) I (go2 ?_);refine wK (go4 ?_);refine gv (OpV.tr dC (yS (q:=3) I I)) I (go7 ?_);refine zJ 7 _ [] (zai 0 5 [(5,.c),(6,.q),(7,.t)]) zX nX zou nX (λr hr=>hr) (go1 ?_);refine wX I (xB yC pH ap) λaz ad=>(go2 ?_);refine wX I (xB yC (y7i pH) M) λax ab=>?_;refine w_c I (sC (ev2 I I) call53 (λw hs=>jA hs ad ab oM) λU h2 bj D=>?_)
 change (rpQ (l+(k+l))).Is h2 U (q*a.y) at D
 replace D:=Rp.Is.le D (Le.q (l:=k+2*l) oM);refine go1 ?_;have aj:=(Le.t (Le.q (l:=k+2*l) oM)).R M;refine yG (A:=[_]) I (uB sizeOf29 (y7i pH) aj D) λbf J=>(go5 ?_);refine gv ((yD (q:=1) I I oM oM).cv (show _=vI (2) from I)) I (go2 ?_);refine wK (go4 ?_);refine gv (OpV.tr dC (yS (q:=3) I I)) I (go7 ?_);refine zJ 7 _ [] (zai 0 5 [(5,.c),(6,.q),(7,.t)]) zX nX zou nX (λr hr=>hr) (go1 ?_);refine wX I (xB yC pH ap) λay ac=>(go2 ?_);refine wX I (xB yC (y7u pH) J) λaw aa=>?_;refine w_c I (sC (ev2 I I) call53 (λw hs=>jA hs ac aa oM) λO h3 bi C=>?_)
 change (rpQ (l+(k+2*l))).Is h3 O (q*a.z) at C
 replace C:=Rp.Is.le C (Le.q (l:=k+3*l) oM);refine go1 ?_;have ai:=(Le.t (Le.q (l:=k+3*l) oM)).R J;refine yG (A:=[_]) I (uB sizeOf29 (y7u pH) ai C) λbe ao=>(go5 ?_);refine gv ((yD (q:=1) I I oM oM).cv (show _=vI (3) from I)) I (go2 ?_);refine wK (go4 ?_);refine gv (OpV.fa dC (yS (q:=3) I I)) I (uR ?_);refine lX (xB zK pH ao) λav Z=>(zP (A:=[]) (uB sizeOf31 pH bc (Z.le (Le.t (Le.q (l:=k+3*l+1) oM)))) λbd an=>(go3 ?_));refine wG (jG (t:=4) zK mh0 I an) ?_;intro bh ae am;refine yN (λE S=>zS I ae E S) ?_;exact am
theorem gM{x:Int}(hx1:-9223372036854775808<=x)(hx2:x<9223372036854775808){y:Int}(hy1:-9223372036854775808<=y)(hy2:y<9223372036854775808){z:Int}(hz1:-9223372036854775808<=z)(hz2:z<9223372036854775808):
 y8i 12 #[vI x,vI y,vI z] w0 h0 (λh r=>(tPt 2).Is h r (T3.mk ((x:Int):Rat) ((y:Int):Rat) ((z:Int):Rat))):=by
 refine cb3 14 (vI x) (vI y) (vI z) func12 hs ?_;refine go2 ?_;refine nA (ρ:=(tPt 1)) (X:=zT) yK (yR (yE dC)) λb6 ak M=>(go5 ?_);refine cL (ev1 I) call27 (λw hs=>qP hs oM oM) λv8 h1 aj r8=>(go1 ?_);refine cL (ev1 I) call27 (λw hs=>qP hs oM oM) λae h2 ai Z=>(go1 ?_);refine cL (ev1 I) call27 (λw hs=>qP hs oM oM) λad h3 ah U=>(lX (xV (ρ:=(tPt 2)) (xS (ps':=[(0,_),(1,_),(2,_)]) underlying31 yK I I sizeOf29 e6 I (yR (yE dC)) (zD I (y6e (y5u _)) r8.up (zD I (y7i (y5u _)) Z.up (zD I (y7u (y5u _)) U zN))))) λac O=>?_);have D:=(Le.t (Le.q (l:=2) dC)).R M;refine zP (A:=[]) (uB sizeOf31 pH D O) λaa J=>(go3 ?_);refine wG (jG (t:=6) zK mh0 I J) ?_;intro ab C H;refine yN (λE S=>zS I C E S) ?_;exact H
end
end Go.Proofs.YtpkaegemlpaenaaGreat
namespace Bk
open Go Go.RowKit
open Classical
abbrev Pl:=Pt×Rat
theorem tH{x:Rat}:yQ x=1↔0<x:=by
 have h2:=xC x;rw[<-oK];omega
theorem gX{x:Rat}:yQ x= -1↔x<0:=by
 have h2:=xC x;rw[<-qW];omega
theorem qZ{a b:Pt}:a=b↔a.x=b.x/\a.y=b.y/\a.z=b.z:=by cases a;cases b;exact T3.mk.injEq ..▸Iff.rfl
def axI(n:Pt):Nat:=if 0<n.z then 0 else if n.z<0 then 1 else if 0<n.y then 2 else if n.y<0 then 0 else if 0<n.x then 1 else if n.x<0 then 2 else 1
def axJ(n:Pt):Nat:=if 0<n.z then 1 else if n.z<0 then 0 else if 0<n.y then 0 else if n.y<0 then 2 else if 0<n.x then 2 else if n.x<0 then 1 else 2
def axK(n:Pt):Nat:=if n.z≠0 then 2 else if n.y≠0 then 1 else 0
theorem zCV(n:Pt):(0<n.z/\axI n=0/\axJ n=1/\axK n=2)\/(n.z<0/\axI n=1/\axJ n=0/\axK n=2)\/(n.z=0/\0<n.y/\axI n=2/\axJ n=0/\axK n=1)\/(n.z=0/\n.y<0/\axI n=0/\axJ n=2/\axK n=1)\/
 (n.z=0/\n.y=0/\0<n.x/\axI n=1/\axJ n=2/\axK n=0)\/(n.z=0/\n.y=0/\n.x<0/\axI n=2/\axJ n=1/\axK n=0)\/(n.z=0/\n.y=0/\n.x=0/\axI n=1/\axJ n=2/\axK n=0):=by
 have C:∀a:Rat,0<a\/(a<0/\¬0<a)\/(a=0/\¬0<a/\¬a<0):=λa=>by grind
 unfold axI axJ axK
 rcases C n.z with h|⟨h,h'⟩|⟨h,h',h''⟩
 · left;simp only[zau h,zau (show n.z≠0 by grind)];exact⟨h,y5i,y5i,y5i⟩
 · right;left;simp only[zae h',zau h,zau (show n.z≠0 by grind)];exact⟨h,y5i,y5i,y5i⟩
 · simp only[zae h',zae h'',zae (show ¬n.z≠0 by grind)]
   rcases C n.y with k|⟨k,k'⟩|⟨k,k',k''⟩
   · right;right;left;simp only[zau k,zau (show n.y≠0 by grind)];exact⟨h,k,y5i,y5i,y5i⟩
   · right;right;right;left;simp only[zae k',zau k,zau (show n.y≠0 by grind)];exact⟨h,k,y5i,y5i,y5i⟩
   · simp only[zae k',zae k'',zae (show ¬n.y≠0 by grind)]
     rcases C n.x with l|⟨l,l'⟩|⟨l,l',l''⟩
     · right;right;right;right;left;simp only[zau l];exact⟨h,k,l,y5i,y5i,y5i⟩
     · right;right;right;right;right;left;simp only[zae l',zau l];exact⟨h,k,l,y5i,y5i,y5i⟩
     · right;right;right;right;right;right;simp only[zae l',zae l''];exact⟨h,k,l,y5i,y5i,y5i⟩
theorem zEC(n:Pt):axI n+axJ n<=3/\axI n<3/\axJ n<3/\axK n=3-axI n-axJ n:=by
 rcases zCV n with h|h|h|h|h|h|h<;>omega
theorem yDU(n:Pt):axI n<3:=(zEC n).2.1
theorem yDT(n:Pt):axJ n<3:=(zEC n).2.2.1
theorem zUZ(n:Pt):n.at (axK n)=0↔n=T3.mk (0:Rat) 0 0:=by
 obtain⟨x,y,z⟩:=n;rw[T3.mk.injEq]
 rcases zCV ⟨x,y,z⟩ with h|h|h|h|h|h|h<;>simp only at h<;>obtain⟨h,h1⟩:=h
 all_goals first|rw[h1.2.2]|rw[h1.2.2.2]|rw[h1.2.2.2.2]
 all_goals simp only[T3.at]
 all_goals grind
def jS(pl:Pl)(p:Pt):Pt:=T3.mk (p.at (axI pl.1)) (p.at (axJ pl.1)) (0:Rat)
def yBD(pl:Pl)(q:Pt):Rat:=if pl.1.at (axK pl.1)=0 then 0 else(pl.2-(pl.1.at (axI pl.1)*q.x+pl.1.at (axJ pl.1)*q.y))/pl.1.at (axK pl.1)
def s7(pl:Pl)(q:Pt):Pt:=if pl.1.at (axK pl.1)=0 then T3.mk (0:Rat) 0 0 else(((T3.mk (0:Rat) 0 0).set (axI pl.1) q.x).set (axJ pl.1) q.y).set (axK pl.1) (yBD pl q)
def zF(a b:Pt):Rat:=a.x*b.x+a.y*b.y+a.z*b.z
def zO(a b:Pt):Pt:=T3.mk (a.y*b.z-a.z*b.y) (a.z*b.x-a.x*b.z) (a.x*b.y-a.y*b.x)
def yJ(a b:Pt):Pt:=T3.mk (a.x-b.x) (a.y-b.y) (a.z-b.z)
theorem yHZ(a b c:Pt):uV [a,b,c] 0 1 3=(b.x-a.x)*(c.y-a.y)-(b.y-a.y)*(c.x-a.x):=by
 simp[uV,gp,T3.at];grind
theorem zJG{ni nj nk d ai aj ak bi bj bk ci cj ck:Rat}(ha:nk*ak=d-(ni*ai+nj*aj))(hb:nk*bk=d-(ni*bi+nj*bj))(hc:nk*ck=d-(ni*ci+nj*cj)):
 nk*(((bj-aj)*(ck-ak)-(bk-ak)*(cj-aj))*ni+((bk-ak)*(ci-ai)-(bi-ai)*(ck-ak))*nj+((bi-ai)*(cj-aj)-(bj-aj)*(ci-ai))*nk)=(ni*ni+nj*nj+nk*nk)*((bi-ai)*(cj-aj)-(bj-aj)*(ci-ai)):=by
 grind
theorem zNN(a:Rat):xZ a 0=yQ a:=by rw[zID,show a-0=a by grind]
theorem iS{c:Rat}(hc:0<c)(x:Rat):yQ (c*x)=yQ x:=by
 have h:=yC7 x 0 c;rw[y3u,zNN,zNN,tH.2 hc,Int.mul_one,y3e] at h;exact h
theorem zJN{c e x y:Rat}(hc:0<c)(he:0<e)(h:c*x=e*y):yQ x=yQ y:=by
 rw[<-iS hc x,<-iS he y,h]
theorem zYO{i j k:Rat}(hk:k≠0):0<i*i+j*j+k*k:=by
 have h1:0<=i*i:=by rcases @Rat.le_total 0 i with h|h;exact zod h h;have:=zod (a:=-i) (b:=-i) zo0 zo0;grind
 have h2:0<=j*j:=by rcases @Rat.le_total 0 j with h|h;exact zod h h;have:=zod (a:=-j) (b:=-j) zo0 zo0;grind
 have h3:0<k*k:=by
  rcases @Rat.le_total 0 k with h|h
  · exact ydi zo0 zo0
  · have:=ydi (a:=-k) (b:=-k) zo0 zo0;grind
 grind
theorem zFM{n d m q:Rat}(h:¬n=0):n*((d-m)/n)=d-m:=by
 rw[y3e,z6u h]
theorem zF3{ni nj nk d ai aj ak bi bj bk ci cj ck:Rat}(hk:0<nk)(ha:nk*ak=d-(ni*ai+nj*aj))(hb:nk*bk=d-(ni*bi+nj*bj))(hc:nk*ck=d-(ni*ci+nj*cj)){X:Rat}
    (hX:X=((bj-aj)*(ck-ak)-(bk-ak)*(cj-aj))*ni+((bk-ak)*(ci-ai)-(bi-ai)*(ck-ak))*nj+((bi-ai)*(cj-aj)-(bj-aj)*(ci-ai))*nk):
    yQ ((bi-ai)*(cj-aj)-(bj-aj)*(ci-ai))=yQ X:=by
 rw[hX];exact(zJN hk (zYO zo0) (zJG ha hb hc)).symm
theorem zF4{ni nj nk d ai aj ak bi bj bk ci cj ck:Rat}(hk:nk<0)(ha:nk*ak=d-(ni*ai+nj*aj))(hb:nk*bk=d-(ni*bi+nj*bj))(hc:nk*ck=d-(ni*ci+nj*cj)){X:Rat}
    (hX:X= -(((bj-aj)*(ck-ak)-(bk-ak)*(cj-aj))*ni+((bk-ak)*(ci-ai)-(bi-ai)*(ck-ak))*nj+((bi-ai)*(cj-aj)-(bj-aj)*(ci-ai))*nk)):
    yQ ((bi-ai)*(cj-aj)-(bj-aj)*(ci-ai))=yQ X:=by
 refine(zJN (c:=-nk) zo0 (zYO (i:=ni) (j:=nj) (k:=nk) zo0) ?_).symm;rw[hX,<-zJG ha hb hc];grind
theorem zX8(pl:Pl)(p q r:Pt)(h:¬pl.1.at (axK pl.1)=0):
 yQ (uV [jS pl (s7 pl p),jS pl (s7 pl q),jS pl (s7 pl r)] 0 1 3)=yQ (zF (zO (yJ (s7 pl q) (s7 pl p)) (yJ (s7 pl r) (s7 pl p))) pl.1):=by
 rw[yHZ];have O:=zFM (d:=pl.2) (m:=pl.1.at (axI pl.1)*p.x+pl.1.at (axJ pl.1)*p.y) (q:=0) h;have M:=zFM (d:=pl.2) (m:=pl.1.at (axI pl.1)*q.x+pl.1.at (axJ pl.1)*q.y) (q:=0) h;have J:=zFM (d:=pl.2) (m:=pl.1.at (axI pl.1)*r.x+pl.1.at (axJ pl.1)*r.y) (q:=0) h;unfold s7 yBD jS;rw[zae h,zae h,zae h,zae h,zae h,zae h];generalize (pl.2-(pl.1.at (axI pl.1)*p.x+pl.1.at (axJ pl.1)*p.y))/pl.1.at (axK pl.1)=u at *;generalize (pl.2-(pl.1.at (axI pl.1)*q.x+pl.1.at (axJ pl.1)*q.y))/pl.1.at (axK pl.1)=v at *;generalize (pl.2-(pl.1.at (axI pl.1)*r.x+pl.1.at (axJ pl.1)*r.y))/pl.1.at (axK pl.1)=w at *;obtain⟨⟨x,y,z⟩,d⟩:=pl;obtain⟨p1,p2,p3⟩:=p;obtain⟨q1,Z,U⟩:=q;obtain⟨r1,r2,r3⟩:=r
 rcases zCV ⟨x,y,z⟩ with e|e|e|e|e|e|e
 · obtain⟨hs,H,D,C⟩:=e
   simp only[H,D,C,T3.at,T3.set,zF,zO,yJ] at *;exact zF3 hs O M J zo0
 · obtain⟨hs,H,D,C⟩:=e
   simp only[H,D,C,T3.at,T3.set,zF,zO,yJ] at *;exact zF4 hs O M J zo0
 · obtain⟨h1,hs,H,D,C⟩:=e
   simp only[H,D,C,T3.at,T3.set,zF,zO,yJ] at *;exact zF3 hs O M J zo0
 · obtain⟨h1,hs,H,D,C⟩:=e
   simp only[H,D,C,T3.at,T3.set,zF,zO,yJ] at *;exact zF4 hs O M J zo0
 · obtain⟨h1,h2,hs,H,D,C⟩:=e
   simp only[H,D,C,T3.at,T3.set,zF,zO,yJ] at *;exact zF3 hs O M J zo0
 · obtain⟨h1,h2,hs,H,D,C⟩:=e
   simp only[H,D,C,T3.at,T3.set,zF,zO,yJ] at *;exact zF4 hs O M J zo0
 · obtain⟨h1,h2,h3,H,D,C⟩:=e
   rw[C] at h;exact absurd h3 h
theorem zU0(n:Pt):(axI n=0/\axJ n=1/\axK n=2)\/(axI n=1/\axJ n=0/\axK n=2)\/(axI n=2/\axJ n=0/\axK n=1)\/(axI n=0/\axJ n=2/\axK n=1)\/(axI n=1/\axJ n=2/\axK n=0)\/(axI n=2/\axJ n=1/\axK n=0):=by
 rcases zCV n with h|h|h|h|h|h|h<;>omega
theorem zDS{s:Pl}{p:Pt}(h:¬s.1.at (axK s.1)=0)(hs:yQ (zF s.1 p-s.2)=0):s7 s (jS s p)=p:=by
 rw[uL] at hs;have C:=zFM (d:=s.2) (m:=s.1.at (axI s.1)*p.at (axI s.1)+s.1.at (axJ s.1)*p.at (axJ s.1)) (q:=0) h;unfold s7 yBD jS;rw[zae h,zae h];simp only;generalize (s.2-(s.1.at (axI s.1)*p.at (axI s.1)+s.1.at (axJ s.1)*p.at (axJ s.1)))/s.1.at (axK s.1)=u at *;obtain⟨⟨x,y,z⟩,d⟩:=s;obtain⟨a,b,c⟩:=p;have hz:∀{n u v:Rat},¬n=0->n*u=n*v->u=v:=λ{n u v} h e=>by
  have h1:n*(u-v)=0:=by grind
  rcases zoe.1 h1 with h2|h2
  · exact absurd h2 h
  · grind
 rcases zU0 ⟨x,y,z⟩ with⟨e1,e2,e3⟩|⟨e1,e2,e3⟩|⟨e1,e2,e3⟩|⟨e1,e2,e3⟩|⟨e1,e2,e3⟩|⟨e1,e2,e3⟩<;>simp only[e1,e2,e3,T3.at,T3.set,zF] at *<;>rw[T3.mk.injEq]<;>simp only[true_and,and_true]<;>exact hz h zo0
end Bk
namespace Bk
open Classical
def i3(x y z:Int):Pt:=T3.mk ((x:Int):Rat) ((y:Int):Rat) ((z:Int):Rat)
abbrev bdI(z:Int)(n:Nat):Prop:=z.natAbs<=n
def s8(q:Rat)(n:Nat):Prop:=∃z:Int,bdI z n/\q=(z:Rat)/2
def spP(p:Pt):Prop:=s8 p.x 9/\s8 p.y 9/\s8 p.z 9
theorem zCF{z:Int}{n m:Nat}(h:bdI z n)(hm:2*n<=m):s8 ((z:Int):Rat) m:=by
 refine⟨2*z,by unfold bdI at *;omega,?_⟩;rw[zji];have C:((2:Int):Rat)=2:=I;rw[C];grind
theorem zPI{z:Int}{n:Nat}(h:bdI z n):s8 (kP z 2) n:=⟨z,h,rfl⟩
theorem y5{p:Pt}{i:Nat}{q:Rat}(hi:i<3)(h:∀u,u<i->s8 (p.at u) 9)(hq:s8 q 9):∀u,u<i+1->s8 ((p.set i q).at u) 9:=by
 intro u C
 by_cases e:u=i
 · subst e
   match u,hi with
   |0,_=>exact hq
   |1,_=>exact hq
   |2,_=>exact hq
 · have h1:u<i:=by omega
   have h2:=h u h1;have hc:(i=1/\u=0)\/(i=2/\u=0)\/(i=2/\u=1):=by omega
   rcases hc with⟨rfl,rfl⟩|⟨rfl,rfl⟩|⟨rfl,rfl⟩<;>exact h2
theorem yM2{p:Pt}(h:∀u,u<3->s8 (p.at u) 9):spP p:=⟨h 0 zox,h 1 zox,h 2 zox⟩
end Bk
namespace Go.Proofs.YtpkaegemlpaenaaGreat
open Bk Go Tryz
attribute [local irreducible] GL GC GQ W OpV
section
variable{w0:World}{h0:Mem}(hs:MLe h0 (mem w0))
include hs
theorem zWP{k:Nat}{vn:Value}{n:Tq}(rn:(tPt k).Is h0 vn n)(H0:k<=1000000000):
 y8i 106 #[vn] w0 h0 (λh r=>r=.tuple #[vI (↑(axI n):Int),vI (↑(axJ n):Int)]):=by
 refine cb1 29 vn func106 hs ?_;refine go2 ?_;refine nB rn λb1 au Z=>(qE ?_);refine fX (go4 ?_);refine gv (OpV.tr dC (bW (q:=0) I I)) I (uR ?_);refine gv ((yD (q:=1) I I oM oM).cv (show _=vI (3) from I)) I (gv ((wI (q:=3) I I oM oM).cv (show _=vI (0) from I)) I (go1 ?_));refine gv ((yD (q:=2) I I oM oM).cv (show _=vI (4) from I)) I (gv ((wI (q:=3) I I oM oM).cv (show _=vI (1) from I)) I (go8 ?_));refine lX (xB yC (y7u pH) Z) λao ah=>(cL (ev1 I) call122 (λw hs=>pL hs ah oM) λU h1 ar ac=>?_);obtain rfl:U=vI (yQ n.z):=ac;have ak:=xC n.z;refine gc9 (λD=>?_) λD=>?_
 ·
  refine cD ?_;refine wY I I I ?_;have J:axI n=0:=by unfold axI;simp only[tH,gX] at *;grind
  have H:axJ n=1:=by unfold axJ;simp only[tH,gX] at *;grind
  rw[J,H];rfl
 refine gc6 (λC=>?_) λC=>?_
 ·
  refine cD ?_;refine wY I I I ?_;have J:axI n=1:=by unfold axI;simp only[tH,gX] at *;grind
  have H:axJ n=0:=by unfold axJ;simp only[tH,gX] at *;grind
  rw[J,H];rfl
 refine go6 ?_;refine gv ((qT (q:=1) I I oM oM).cv (show _=vI (1) from I)) I (go2 ?_);refine wK (go4 ?_);refine gv (OpV.tr dC (bW (q:=0) I I)) I (uR ?_);refine gv ((yD (q:=1) I I oM oM).cv (show _=vI (2) from I)) I (gv ((wI (q:=3) I I oM oM).cv (show _=vI (2) from I)) I (go1 ?_));refine gv ((yD (q:=2) I I oM oM).cv (show _=vI (3) from I)) I (gv ((wI (q:=3) I I oM oM).cv (show _=vI (0) from I)) I (go8 ?_));refine lX (xB yC (y7i pH) Z) λan ae=>(cL (ev1 I) call122 (λw hs=>pL hs ae oM) λO h2 aq ab=>?_);obtain rfl:O=vI (yQ n.y):=ab;have aj:=xC n.y;refine gc9 (λD=>?_) λD=>?_
 ·
  refine cD ?_;refine wY I I I ?_;have J:axI n=2:=by unfold axI;simp only[tH,gX] at *;grind
  have H:axJ n=0:=by unfold axJ;simp only[tH,gX] at *;grind
  rw[J,H];rfl
 refine gc6 (λC=>?_) λC=>?_
 ·
  refine cD ?_;refine wY I I I ?_;have J:axI n=0:=by unfold axI;simp only[tH,gX] at *;grind
  have H:axJ n=2:=by unfold axJ;simp only[tH,gX] at *;grind
  rw[J,H];rfl
 refine go6 ?_;refine gv ((qT (q:=1) I I oM oM).cv (show _=vI (0) from I)) I (go2 ?_);refine wK (go4 ?_);refine gv (OpV.tr dC (bW (q:=0) I I)) I (uR ?_);refine gv ((yD (q:=1) I I oM oM).cv (show _=vI (1) from I)) I (gv ((wI (q:=3) I I oM oM).cv (show _=vI (1) from I)) I (go1 ?_));refine gv ((yD (q:=2) I I oM oM).cv (show _=vI (2) from I)) I (gv ((wI (q:=3) I I oM oM).cv (show _=vI (2) from I)) I (go8 ?_));refine lX (xB yC (y6e pH) Z) λam ad=>(cL (ev1 I) call122 (λw hs=>pL hs ad oM) λM h3 ap aa=>?_);obtain rfl:M=vI (yQ n.x):=aa;have ai:=xC n.x;refine gc9 (λD=>?_) λD=>?_
 ·
  refine cD ?_;refine wY I I I ?_;have J:axI n=1:=by unfold axI;simp only[tH,gX] at *;grind
  have H:axJ n=2:=by unfold axJ;simp only[tH,gX] at *;grind
  rw[J,H];rfl
 refine gc6 (λC=>?_) λC=>?_
 ·
  refine cD ?_;refine wY I I I ?_;have J:axI n=2:=by unfold axI;simp only[tH,gX] at *;grind
  have H:axJ n=1:=by unfold axJ;simp only[tH,gX] at *;grind
  rw[J,H];rfl
 refine go6 ?_;refine gv ((qT (q:=1) I I oM oM).cv (show _=vI (-1) from I)) I (go2 ?_);refine wK (go4 ?_);refine gv (OpV.fa dC (bW (q:=0) I I)) I (cD ?_);refine wY I I I ?_;have J:axI n=1:=by unfold axI;simp only[tH,gX] at *;grind
 have H:axJ n=2:=by unfold axJ;simp only[tH,gX] at *;grind
 rw[J,H];rfl
theorem zJY{k l:Nat}{va:Value}{a:Tq}(ra:(tPt k).Is h0 va a){vb:Value}{b:Tq}(rb:(tPt l).Is h0 vb b)(H0:k+l<=1000000000):
 y8i 35 #[va,vb] w0 h0 (λ_ r=>r=vB (a=b)):=by
 refine cb2 24 va vb func35 hs ?_;refine go2 ?_;refine nB ra λb2 ab J=>(nB rb λb3 aa H=>(go6 ?_));refine lX (xB yC (y6e pH) J) λv6 r6=>(go1 ?_);refine lX (xB yC (y6e pH) H) λv8 r8=>(cL (ev2 I I) call73 (λw hs=>sR hs r6 r8 oM) λv9 h1 au r9=>?_);obtain rfl:v9=vB (a.x=b.x):=r9;refine qH (ι:=Mem) 7 (λM=>MLe h1 M) (λ_=>[(16,vB ((a.x=b.x)/\(a.y=b.y))),(2,vP b2 0),(3,vP b3 0)]) (λ_=>[.var b3 31 aa,.var b2 31 ab]) (λM=>M) ?_ ?_
 ·
  refine zY (a.x=b.x) (λD=>?_) (λD=>?_)
  ·
   refine gT D I (go3 ?_);refine lX (xB yC (y7i pH) J) λar an=>(go3 ?_);refine lX (xB yC (y7i pH) H) λaq am=>(go1 ?_);refine cL (ev2 I I) call73 (λw hs=>sR hs an am oM) λae h2 O ak=>?_;obtain rfl:ae=vB (a.y=b.y):=ak;refine go2 ?_;refine zU h2 O ⟨?_,I,I,y5i⟩ I I;exact y4e (xD D)
  refine gF D I (go7 ?_);refine zU h1 (MLe.refl _) ⟨?_,I,I,y5i⟩ I I;exact y4e (xE D)
 intro C Z;refine rA ?_;refine qH (ι:=Mem) 7 (λM=>MLe C M) (λ_=>[(23,vB (((a.x=b.x)/\(a.y=b.y))/\(a.z=b.z)))]) (λ_=>[.var b3 31 aa,.var b2 31 ab]) (λM=>M) ?_ ?_
 ·
  refine zY ((a.x=b.x)/\(a.y=b.y)) (λD=>?_) (λD=>?_)
  ·
   refine gT D I (go3 ?_);refine lX (xB yC (y7u pH) J) λap aj=>(go3 ?_);refine lX (xB yC (y7u pH) H) λao ai=>(go1 ?_);refine cL (ev2 I I) call73 (λw hs=>sR hs aj ai oM) λad h2 O ah=>?_;obtain rfl:ad=vB (a.z=b.z):=ah;refine go2 ?_;refine zU h2 O ⟨?_,y5i⟩ I I;exact y4e (xD D)
  refine gF D I (go7 ?_);refine zU C (MLe.refl _) ⟨?_,y5i⟩ I I;exact y4e (xE D)
 intro ac U;refine rA ?_;refine go4 ?_;refine zC I I ?_
 first|exact kS (by rw[qZ];grind)|exact(xW (by rw[qZ];grind)).symm|exact(yM (by rw[qZ];grind)).symm
theorem zDK{k:Nat}{va:Value}{a:Tq}(ra:(tPt k).Is h0 va a)(H0:k<=1000000):
 y8i 80 #[va] w0 h0 (λ_ r=>r=vB (a=zT)):=by
 refine cb1 6 va func80 hs ?_;refine go2 ?_;refine nB ra λO M C=>(go5 ?_);refine lX (xB zK pH C) λv3 r3=>(lX (xV (ρ:=(tPt 1)) (xS (ps':=[]) underlying31 yK I I sizeOf29 trivial I (yR (yE dC)) zN)) λv4 r4=>(cL (ev2 I I) call35 (λw hs=>zJY hs r3 r4 oM) λD h1 J H=>?_));obtain rfl:D=vB (a=zT):=H;refine go4 ?_;refine zC I I ?_
 rfl
theorem tW{k l:Nat}{va:Value}{a:Tq}(ra:(tPt k).Is h0 va a){vb:Value}{b:Tq}(rb:(tPt l).Is h0 vb b)(H0:k+l<=1000000000):
 y8i 56 #[va,vb] w0 h0 (λh r=>(rpQ (3*k+3*l+9)).Is h r (zF a b)):=by
 refine cb2 21 va vb func56 hs ?_;refine go2 ?_;refine nB ra λb2 cf an=>(nB rb λb3 ce am=>(nA (ρ:=(rpQ (3*k+3*l+9))) (X:=(0:Rat)) xU (yE oM) λb4 cd bp=>(go4 ?_)));refine nA (ρ:=(rpQ 1)) (X:=(0:Rat)) xU (yE dC) λb5 cc be=>(go9 ?_);refine fX (go4 ?_);refine gv (OpV.tr dC (yS (q:=3) I I)) I (go7 ?_);refine zJ 9 _ [] (zai 0 7 [(7,.c),(8,.c),(9,.t)]) zX nX zou nX (λr hr=>hr) (wX I (xB yC pH be) λbo az=>(go2 ?_));refine wX I (xB yC (y6e pH) an) λbl aw=>(go2 ?_);refine wX I (xB yC (y6e pH) am) λbi ar=>?_;refine w_c I (sC (ev2 I I) call53 (λw hs=>jA hs aw ar oM) λai h1 cb O=>?_)
 change (rpQ (k+l)).Is h1 ai (a.x*b.x) at O
 refine w_c I (sC (ev2 I I) call45 (λw hs=>pK hs az.up O oM) λad h2 ca H=>?_)
 change (rpQ (1+(k+l)+1)).Is h2 ad ((0:Rat)+(a.x*b.x)) at H
 replace H:=Rp.Is.le H (Le.q (l:=k+l+2) oM);have bc:=(Le.q (l:=k+l+2) oM).R be;refine yG (A:=[]) I (uB sizeOf29 pH bc H) λbu aa=>(go5 ?_);refine gv ((yD (q:=1) I I oM oM).cv (show _=vI (1) from I)) I (go2 ?_);refine wK (go4 ?_);refine gv (OpV.tr dC (yS (q:=3) I I)) I (go7 ?_);refine zJ 9 _ [] (zai 0 7 [(7,.c),(8,.c),(9,.t)]) zX nX zou nX (λr hr=>hr) (wX I (xB yC pH aa) λbn ay=>(go2 ?_));refine wX I (xB yC (y7i pH) an) λbk av=>(go2 ?_);refine wX I (xB yC (y7i pH) am) λbh aq=>?_;refine w_c I (sC (ev2 I I) call53 (λw hs=>jA hs av aq oM) λah h3 bz M=>?_)
 change (rpQ (k+l)).Is h3 ah (a.y*b.y) at M
 refine w_c I (sC (ev2 I I) call45 (λw hs=>pK hs ay.up M oM) λac h4 bx D=>?_)
 change (rpQ ((k+l+2)+(k+l)+1)).Is h4 ac (((0:Rat)+(a.x*b.x))+(a.y*b.y)) at D
 replace D:=Rp.Is.le D (Le.q (l:=2*k+2*l+3) oM);have bb:=(Le.q (l:=2*k+2*l+3) oM).R aa;refine yG (A:=[]) I (uB sizeOf29 pH bb D) λbt Z=>(go5 ?_);refine gv ((yD (q:=1) I I oM oM).cv (show _=vI (2) from I)) I (go2 ?_);refine wK (go4 ?_);refine gv (OpV.tr dC (yS (q:=3) I I)) I (go7 ?_);refine zJ 9 _ [] (zai 0 7 [(7,.c),(8,.c),(9,.t)]) zX nX zou nX (λr hr=>hr) (wX I (xB yC pH Z) λbm ax=>(go2 ?_));refine wX I (xB yC (y7u pH) an) λbj au=>(go2 ?_);refine wX I (xB yC (y7u pH) am) λbg ap=>?_;refine w_c I (sC (ev2 I I) call53 (λw hs=>jA hs au ap oM) λae h5 bw J=>?_)
 change (rpQ (k+l)).Is h5 ae (a.z*b.z) at J
 refine w_c I (sC (ev2 I I) call45 (λw hs=>pK hs ax.up J oM) λab h6 bv C=>?_)
 change (rpQ ((2*k+2*l+3)+(k+l)+1)).Is h6 ab ((((0:Rat)+(a.x*b.x))+(a.y*b.y))+(a.z*b.z)) at C
 replace C:=Rp.Is.le C (Le.q (l:=3*k+3*l+4) oM);have ba:=(Le.q (l:=3*k+3*l+4) oM).R Z;refine yG (A:=[]) I (uB sizeOf29 pH ba C) λbs bd=>(go5 ?_);refine gv ((yD (q:=1) I I oM oM).cv (show _=vI (3) from I)) I (go2 ?_);refine wK (go4 ?_);refine gv (OpV.fa dC (yS (q:=3) I I)) I (uR ?_);refine lX (xB yC pH bd) λbf ao=>(zP (A:=[_]) (uB sizeOf29 pH bp (ao.le (Le.q (l:=3*k+3*l+9) oM))) λbq ak=>(go3 ?_));refine wG (jG (t:=4) yC mh1 I ak) ?_;intro br U aj;refine yN (λE S=>zS I U E S) ?_;exact(Rp.Is.cast aj (by unfold zF;grind))
theorem lG{k l:Nat}{va:Value}{a:Tq}(ra:(tPt k).Is h0 va a){vb:Value}{b:Tq}(rb:(tPt l).Is h0 vb b)(H0:k+l<=1000000000):
 y8i 102 #[va,vb] w0 h0 (λh r=>(tPt (2*k+2*l+3)).Is h r (zO a b)):=by
 refine cb2 37 va vb func102 hs ?_;refine go2 ?_;refine nB ra λb2 ct aa=>(nB rb λb3 cq Z=>(nA (ρ:=(tPt (2*k+2*l+3))) (X:=zT) yK (yR (yE oM)) λb4 cp bz=>(go4 ?_)));refine nA (ρ:=(tPt (2*k+2*l+3))) (X:=zT) yK (yR (yE oM)) λb5 co bx=>(go9 ?_);refine fX (go4 ?_);refine gv (OpV.tr dC (yS (q:=3) I I)) I (uR ?_);refine gv ((yD (q:=1) I I oM oM).cv (show _=vI (1) from I)) I (gv ((wI (q:=3) I I oM oM).cv (show _=vI (1) from I)) I (go1 ?_));refine gv ((yD (q:=2) I I oM oM).cv (show _=vI (2) from I)) I (gv ((wI (q:=3) I I oM oM).cv (show _=vI (2) from I)) I (go4 ?_));refine zJ 17 _ [] (zai 0 7 (zai 8 6 [(7,.c),(14,.c),(15,.c),(16,.q),(17,.t)])) zX nX (wL zou) nX (λr hr=>hr) (go3 ?_);refine wX I (xB yC (y7i pH) aa) λbw bj=>(go2 ?_);refine wX I (xB yC (y7u pH) Z) λbv bi=>(go2 ?_);refine wX I (xB yC (y7u pH) aa) λbu bh=>(go2 ?_);refine wX I (xB yC (y7i pH) Z) λbt bg=>?_;refine w_c I (sC (ev2 I I) call53 (λw hs=>jA hs bj bi oM) λba h1 cn ac=>?_)
 change (rpQ (k+l)).Is h1 ba (a.y*b.z) at ac
 refine w_c I (sC (ev2 I I) call53 (λw hs=>jA hs bh.up bg.up oM) λaz h2 cm ab=>?_)
 change (rpQ (k+l)).Is h2 az (a.z*b.y) at ab
 refine w_c I (sC (ev2 I I) call55 (λw hs=>tJ hs ac.up ab oM) λay h3 cl H=>?_)
 change (rpQ ((k+l)+(k+l)+1)).Is h3 ay ((a.y*b.z)-(a.z*b.y)) at H
 replace H:=Rp.Is.le H (Le.q (l:=2*k+2*l+1) oM);refine go1 ?_;refine yG (A:=[]) I (uB sizeOf29 (y6e pH) bx (H.le (Le.q (l:=2*k+2*l+3) oM))) λcd bf=>(go5 ?_);refine gv ((yD (q:=1) I I oM oM).cv (show _=vI (1) from I)) I (go2 ?_);refine wK (go4 ?_);refine gv (OpV.tr dC (yS (q:=3) I I)) I (uR ?_);refine gv ((yD (q:=1) I I oM oM).cv (show _=vI (2) from I)) I (gv ((wI (q:=3) I I oM oM).cv (show _=vI (2) from I)) I (go1 ?_));refine gv ((yD (q:=2) I I oM oM).cv (show _=vI (3) from I)) I (gv ((wI (q:=3) I I oM oM).cv (show _=vI (0) from I)) I (go4 ?_));refine zJ 17 _ [] (zai 0 7 (zai 8 6 [(7,.c),(14,.c),(15,.c),(16,.q),(17,.t)])) zX nX (wL zou) nX (λr hr=>hr) (go3 ?_);refine wX I (xB yC (y7u pH) aa) λbs aw=>(go2 ?_);refine wX I (xB yC (y6e pH) Z) λbq au=>(go2 ?_);refine wX I (xB yC (y6e pH) aa) λbo aq=>(go2 ?_);refine wX I (xB yC (y7u pH) Z) λbm ao=>?_;refine w_c I (sC (ev2 I I) call53 (λw hs=>jA hs aw au oM) λak h4 ck U=>?_)
 change (rpQ (k+l)).Is h4 ak (a.z*b.x) at U
 refine w_c I (sC (ev2 I I) call53 (λw hs=>jA hs aq.up ao.up oM) λai h5 cj M=>?_)
 change (rpQ (k+l)).Is h5 ai (a.x*b.z) at M
 refine w_c I (sC (ev2 I I) call55 (λw hs=>tJ hs U.up M oM) λae h6 ci D=>?_)
 change (rpQ ((k+l)+(k+l)+1)).Is h6 ae ((a.z*b.x)-(a.x*b.z)) at D
 replace D:=Rp.Is.le D (Le.q (l:=2*k+2*l+1) oM);refine go1 ?_;refine yG (A:=[]) I (uB sizeOf29 (y7i pH) bf (D.le (Le.q (l:=2*k+2*l+3) oM))) λcc be=>(go5 ?_);refine gv ((yD (q:=1) I I oM oM).cv (show _=vI (2) from I)) I (go2 ?_);refine wK (go4 ?_);refine gv (OpV.tr dC (yS (q:=3) I I)) I (uR ?_);refine gv ((yD (q:=1) I I oM oM).cv (show _=vI (3) from I)) I (gv ((wI (q:=3) I I oM oM).cv (show _=vI (0) from I)) I (go1 ?_));refine gv ((yD (q:=2) I I oM oM).cv (show _=vI (4) from I)) I (gv ((wI (q:=3) I I oM oM).cv (show _=vI (1) from I)) I (go4 ?_));refine zJ 17 _ [] (zai 0 7 (zai 8 6 [(7,.c),(14,.c),(15,.c),(16,.q),(17,.t)])) zX nX (wL zou) nX (λr hr=>hr) (go3 ?_);refine wX I (xB yC (y6e pH) aa) λbr av=>(go2 ?_);refine wX I (xB yC (y7i pH) Z) λbp ar=>(go2 ?_);refine wX I (xB yC (y7i pH) aa) λbn ap=>(go2 ?_);refine wX I (xB yC (y6e pH) Z) λbl an=>?_;refine w_c I (sC (ev2 I I) call53 (λw hs=>jA hs av ar oM) λaj h7 ch O=>?_)
 change (rpQ (k+l)).Is h7 aj (a.x*b.y) at O
 refine w_c I (sC (ev2 I I) call53 (λw hs=>jA hs ap.up an.up oM) λah h8 cg J=>?_)
 change (rpQ (k+l)).Is h8 ah (a.y*b.x) at J
 refine w_c I (sC (ev2 I I) call55 (λw hs=>tJ hs O.up J oM) λad h9 cf C=>?_)
 change (rpQ ((k+l)+(k+l)+1)).Is h9 ad ((a.x*b.y)-(a.y*b.x)) at C
 replace C:=Rp.Is.le C (Le.q (l:=2*k+2*l+1) oM);refine go1 ?_;refine yG (A:=[]) I (uB sizeOf29 (y7u pH) be (C.le (Le.q (l:=2*k+2*l+3) oM))) λcb bd=>(go5 ?_);refine gv ((yD (q:=1) I I oM oM).cv (show _=vI (3) from I)) I (go2 ?_);refine wK (go4 ?_);refine gv (OpV.fa dC (yS (q:=3) I I)) I (uR ?_);refine lX (xB zK pH bd) λbk am=>(zP (A:=[_]) (uB sizeOf31 pH bz am) λca bc=>(go3 ?_));refine wG (jG (t:=4) zK mh1 I bc) ?_;intro ce ax bb;refine yN (λE S=>zS I ax E S) ?_;exact bb
end
theorem zOT{w0 w:World}{h0 h:Mem}{b k:Nat}{vl:Value}{xs:List Int}(hl:Is h vl xs)(hk:k<=xs.length){n:Int}(hn:0<n)(hn2:n<4611686018427387904){L:List Res}(hs:St w0 h0 (.var b 72 [vl,vI ↑k]::L) h w):
 Calls prog 38 #[vP b 0,vI n] w (lQ w0 h0 h L (λg r q'=>∃k':Nat,∃p:Prop,q'=.var b 72 [vl,vI ↑k']/\k'<=xs.length/\r=vB p)):=by
 have H:=hl.lt63;refine qK (n:=11) (e:=[(0,vP b 0),(1,vI n)]) (vs:=[vP b 0,vI n]) func38 rfl rfl (bL rfl) hs e2z (go9 ?_);refine yH (A:=[]) (vs:=[_,_]) call13 e2z (λX w hs=>wE hl zow oM oM hs) I ?_;intro Z g7 q7 D C;obtain⟨k7,U,rfl,O,rfl,J,M⟩:=C;refine go7 ?_;refine qB I I ?_;exact⟨_,(zmi _),D,_,_,I,zot,I⟩
theorem zET{w0 w:World}{h0 h:Mem}{b k:Nat}{vl:Value}{xs:List Int}(hl:Is h vl xs)(hk:k<=xs.length){L:List Res}(hs:St w0 h0 (.var b 72 [vl,vI ↑k]::L) h w):
 Calls prog 16 #[vP b 0] w (lQ w0 h0 h L (λg r q'=>∃k':Nat,∃m:T3 Rat,q'=.var b 72 [vl,vI ↑k']/\k'<=xs.length/\spP m/\(tPt 2).Is g r m)):=by
 have bg:=hl.lt63;refine qK (n:=22) (e:=[(0,vP b 0)]) (vs:=[vP b 0]) func16 rfl rfl (bL rfl) hs ⟨rfl,y5i⟩ (go2 ?_);refine nA (ρ:=(tPt 2)) (X:=zT) yK (yR (yE dC)) λb2 ba ao=>(go4 ?_);refine nA (ρ:=(tPt 2)) (X:=zT) yK (yR (yE dC)) λZ az an=>(go9 ?_);refine gcL (ι:=Nat×T3 Rat×List Value×Nat×Mem) (λ(i,m0,D,C,ma)=>(MLe h ma/\((tPt 2).R ma D m0/\C<=xs.length/\i<=3/\∀u,u<i->s8 (m0.at u) 9),[(0,vP b 0),(2,vP b2 0),(3,vP Z 0),(4,vI ↑i)],(.var Z 31 D::.var b2 31 ba::.var b 72 [vl,vI ↑C]::L),ma,3-i)) (0,(T3.mk 0 0 0),az,k,h) ?_ ?_
 · exact⟨mle,an,oM,zot,λu h=>by omega⟩
 rintro⟨i,m0,D,C,ma⟩ ⟨ah,M,aw,hi,hh⟩
 refine yY ?_;refine gc7 (λax=>?_) λax=>?_
 ·
  refine go8 ?_;refine yH (A:=[_,_]) (vs:=[_,vI (5)]) call13 e2z (λX w hs=>wE hl.up zow oM oM hs) I ?_;intro bt cc bw bm ae;obtain⟨bx,aa,rfl,bj,rfl,bd,bf⟩:=ae;refine cL (ev1 I) call27 (λw hs=>qP hs oM oM) λbs h1 ca ar=>(gv ((zW (sz:=3) i underlying31 sizeOf29 I I I oM).cv (show _=vP Z ((i*3+0)) from zbi (vP Z) oM)) I (zP (A:=[]) (uB sizeOf29 (Pc.ta pH i oM) M ar) λak J=>(go5 ?_)));refine yH (A:=[_,_]) (vs:=[_,vI (4)]) call38 e2z (λX w hs=>zOT hl.up zow oM oM hs) I ?_;intro br ay bv bl ad;obtain⟨av,cd,rfl,bi,rfl⟩:=ad;refine gc2 (λai=>?_) λai=>?_
  ·
   refine go3 ?_;refine yH (A:=[_,_]) (vs:=[_,vI (9)]) call13 e2z (λX w hs=>wE hl.up zow oM oM hs) I ?_;intro bq cb bu bk ac;obtain⟨au,am,rfl,bh,rfl,bc,be⟩:=ac;refine cL (vs:=[_,vI (2)]) e2z call21 (λw hs=>dE hs oM oM dC dC) λbp h2 bz aq=>(gv ((zW (sz:=3) i underlying31 sizeOf29 I I I oM).cv (show _=vP Z ((i*3+0)) from zbi (vP Z) oM)) I (zP (A:=[]) (uB sizeOf29 (Pc.ta pH i oM) J aq) λaj ab=>(go8 ?_)));refine gqL ((i+1),((m0.set i ((aa:Int):Rat)).set i (kP am (2:Int))),aj,au,h2) ?_ ?_
   · exact⟨mle,ab,oM,zot,by first|exact y5 oM hh (zCF (n:=4) oM dC)|exact y5 oM (λu hu=>y5 oM hh (zCF (n:=4) oM dC) u oM) (zPI oM)⟩
   omega
  refine go8 ?_;refine gqL ((i+1),(m0.set i ((aa:Int):Rat)),ak,av,ay) ?_ ?_
  · exact⟨mle,J.up,oM,zot,by first|exact y5 oM hh (zCF (n:=4) oM dC)|exact y5 oM (λu hu=>y5 oM hh (zCF (n:=4) oM dC) u oM) (zPI oM)⟩
  omega
 refine go7 ?_;refine lX (xB zK pH M) λbo ap=>(zP (A:=[_]) (uB sizeOf31 pH ao ap) λbn U=>(go3 ?_));refine wG (jG (t:=2) zK mh1 I U) ?_;intro bb H O;refine gO (λE S=>zS I H E S) ?_;exact⟨_,(.cons _ (.cons _ (zmi _))),ah,_,_,I,zot,yM2 (λu hu=>hh u oM),O⟩
section
variable{w0:World}{h0:Mem}(hs:MLe h0 (mem w0))
include hs
theorem zWG{m l:Nat}{vs:Value}{s:Pq}(rs:(tPl m l).Is h0 vs s)(H0:m<=1000000000):
 y8i 152 #[vs] w0 h0 (λh r=>r=.tuple #[vI (↑(axI s.1):Int),vI (↑(axJ s.1):Int),vI (↑(axK s.1):Int)]):=by
 refine cb1 29 vs func152 hs ?_;refine go2 ?_;refine nB rs λb1 av H=>(nY ?_);refine lX (xB yC (y6i (y7u pH)) H) λar ak=>(cL (ev1 I) call48 (λw hs=>uS hs ak oM) λae h1 au aj=>?_);obtain rfl:ae=vI (yQ s.1.z):=aj;have an:=xC s.1.z;refine gc3 (λac=>?_) λac=>?_
 ·
  refine qE ?_;refine lX (xB yC (y6i (y7i pH)) H) λaq ai=>(cL (ev1 I) call48 (λw hs=>uS hs ai oM) λad h2 ap ah=>?_);obtain rfl:ad=vI (yQ s.1.y):=ah;have am:=xC s.1.y;refine gc3 (λab=>?_) λab=>?_
  ·
   refine qC ?_;refine lX (xB yC (y6i (y6e pH)) H) λaa M=>(cL (ev1 I) call48 (λw hs=>uS hs M oM) λD h3 ao J=>?_);obtain rfl:D=vI (yQ s.1.x):=J;have O:=xC s.1.x;refine gc3 (λC=>?_) λC=>?_
   ·
    refine yF9 ?_;refine qU I I I I ?_;have eI:axI s.1=2:=by unfold axI;simp only[uL,qW] at *;grind
    have Z:axJ s.1=1:=by unfold axJ;simp only[uL,qW] at *;grind
    have U:axK s.1=0:=by unfold axK;simp only[uL,qW] at *;grind
    rw[eI,Z,U];rfl
   refine rS ?_;refine qU I I I I ?_;have eI:axI s.1=1:=by unfold axI;simp only[uL,qW] at *;grind
   have Z:axJ s.1=2:=by unfold axJ;simp only[uL,qW] at *;grind
   have U:axK s.1=0:=by unfold axK;simp only[uL,qW] at *;grind
   rw[eI,Z,U];rfl
  refine go8 ?_;refine lX (xB yC (y6i (y7i pH)) H) λaa M=>(cL (ev1 I) call48 (λw hs=>uS hs M oM) λD h3 ao J=>?_);obtain rfl:D=vI (yQ s.1.y):=J;have O:=xC s.1.y;refine gc3 (λC=>?_) λC=>?_
  ·
   refine yF9 ?_;refine qU I I I I ?_;have eI:axI s.1=0:=by unfold axI;simp only[uL,qW] at *;grind
   have Z:axJ s.1=2:=by unfold axJ;simp only[uL,qW] at *;grind
   have U:axK s.1=1:=by unfold axK;simp only[uL,qW] at *;grind
   rw[eI,Z,U];rfl
  refine rS ?_;refine qU I I I I ?_;have eI:axI s.1=2:=by unfold axI;simp only[uL,qW] at *;grind
  have Z:axJ s.1=0:=by unfold axJ;simp only[uL,qW] at *;grind
  have U:axK s.1=1:=by unfold axK;simp only[uL,qW] at *;grind
  rw[eI,Z,U];rfl
 refine go8 ?_;refine lX (xB yC (y6i (y7u pH)) H) λaa M=>(cL (ev1 I) call48 (λw hs=>uS hs M oM) λD h2 ap J=>?_);obtain rfl:D=vI (yQ s.1.z):=J;have O:=xC s.1.z;refine gc3 (λC=>?_) λC=>?_
 ·
  refine yF9 ?_;refine qU I I I I ?_;have eI:axI s.1=1:=by unfold axI;simp only[uL,qW] at *;grind
  have Z:axJ s.1=0:=by unfold axJ;simp only[uL,qW] at *;grind
  have U:axK s.1=2:=by unfold axK;simp only[uL,qW] at *;grind
  rw[eI,Z,U];rfl
 refine rS ?_;refine qU I I I I ?_;have eI:axI s.1=0:=by unfold axI;simp only[uL,qW] at *;grind
 have Z:axJ s.1=1:=by unfold axJ;simp only[uL,qW] at *;grind
 have U:axK s.1=2:=by unfold axK;simp only[uL,qW] at *;grind
 rw[eI,Z,U];rfl
theorem zLP{m l k:Nat}{vs:Value}{s:Pq}(rs:(tPl m l).Is h0 vs s){vp:Value}{p:Tq}(rp:(tPt k).Is h0 vp p)(H0:k<=1000000000)(H1:m<=1000000000):
 y8i 112 #[vs,vp] w0 h0 (λh r=>(tPt (k+1)).Is h r (jS s p)):=by
 refine cb2 21 vs vp func112 hs ?_;refine go2 ?_;refine nB rs λb2 ap U=>(nB rp λM ao J=>(nA (ρ:=(tPt (k+1))) (X:=zT) yK (yR (yE oM)) λb4 an O=>(go4 ?_)));refine lX (xB lW pH U) λv9 r9=>(cL (ev1 I) call152 (λw hs=>zWG hs r9 oM) λak h1 am ac=>?_);obtain rfl:=ac;refine uR ?_;refine zJ 7 _ [] (zai 0 7 [(7,.t)]) zX nX zou nX (λr hr=>hr) (go1 ?_);refine wZ I (λ_ _=>(zW (sz:=3) (axI s.1) underlying31 sizeOf29 I I zo5 (by exact yDU _)).cv (show _=vP M (((axI s.1)*3+0)) from zbi (vP M) oM)) I (wX I (xB yC (Pc.ta pH (axI s.1) (by exact yDU _)) J) λaj ab=>(go1 ?_));refine wZ I (λ_ _=>(zW (sz:=3) (axJ s.1) underlying31 sizeOf29 I I zo5 (by exact yDT _)).cv (show _=vP M (((axJ s.1)*3+0)) from zbi (vP M) oM)) I (wX I (xB yC (Pc.ta pH (axJ s.1) (by exact yDT _)) J) λai aa=>(wX I (xV (ρ:=(tPt (k+1))) (xS (ps':=[(0,_),(1,_)]) underlying31 yK I I sizeOf29 e4z I (yR (yE oM)) (zD I (y6e (y5u _)) (ab.le (Le.q (l:=k+1) oM)) (zD I (y7i (y5u _)) (aa.le (Le.q (l:=k+1) oM)) zN)))) λah Z=>(yG (A:=[]) I (uB sizeOf31 pH O Z) λad H=>(go3 ?_))));refine wG (jG (t:=4) zK mh0 I H) ?_;intro ae C D;refine yN (λE S=>zS I C E S) ?_;exact D
theorem zWH{m l k:Nat}{vs:Value}{s:Pq}(rs:(tPl m l).Is h0 vs s){vp:Value}{p:Tq}(rp:(tPt k).Is h0 vp p)(H0:k<=1000000)(H1:l<=1000000)(H2:m<=1000000):
 y8i 23 #[vs,vp] w0 h0 (λ_ r=>r=vI (yQ (zF s.1 p-s.2))):=by
 refine cb2 13 vs vp func23 hs ?_;refine go2 ?_;refine nB rs λb2 ai D=>(nB rp λb3 ah J=>(go4 ?_));refine zJ 9 _ [] [(0,.q),(1,.q),(2,.q),(4,.q),(5,.q),(3,.c),(6,.c),(7,.c),(8,.q)] zX nX zou nX (λr hr=>hr) (go1 ?_);refine wX I (xB zK (y6i pH) D) λv6 r6=>(wX I (xB zK pH J) λv7 r7=>(go1 ?_));refine wX I (xB yC (y6u pH) D) λab U=>?_;refine w_c I (sC (ev2 I I) call56 (λw hs=>tW hs r6 r7 oM) λv8 h1 ae M=>?_);replace M:=Rp.Is.le M (Le.q (l:=3*k+3*m+9) oM);refine w_c I (sC (ev2 I I) call55 (λw hs=>tJ hs M U.up oM) λaa h2 ad C=>?_);replace C:=Rp.Is.le C (Le.q (l:=3*k+l+3*m+10) oM);refine w_c I (sC (ev1 I) call48 (λw hs=>uS hs C oM) λH h3 ac O=>?_);obtain rfl:H=vI (yQ ((zF s.1 p)-s.2)):=O;have Z:=xC ((zF s.1 p)-s.2);refine go4 ?_;refine zC I I ?_
 rfl
theorem zOQ{n:Int}(hn1:-9223372036854775808<=n)(hn2:n<9223372036854775808):y8i 59 #[vI n] w0 h0 (λh r=>(rpQ 2).Is h r (zZX n)):=
 (zWX hs hn1 hn2).mono (gA λh r x=>j6 x.2 x.1)
end
end Go.Proofs.YtpkaegemlpaenaaGreat
namespace Bk
open Classical
def lpP(x:List Int):Prop:=(3<=x.length/\x.length<=64)/\∀i,i<x.length->(0<=(x.getD i 0)/\(x.getD i 0)<512)/\∀k,k<i->¬(x.getD i 0)=(x.getD k 0)
def vfP(L:List (List Int)):Prop:=(1<=L.length/\L.length<=16)/\∀l,l<L.length->lpP ((L.getD l []))
def vaP(F:List (List (List Int))):Prop:=F.length<=256/\∀f,f<F.length->vfP ((F.getD f []))
abbrev E5:=Int×Int×Int×Int×Int
def edX(x:List Int)(f l:Nat):Nat->List E5:=wS λi=>((x.getD i 0),(x.getD ((i+1)%x.length) 0),(f:Int),(l:Int),(i:Int))
def edL(L:List (List Int))(f:Nat):Nat->List E5:=gP λl=>edX ((L.getD l [])) f l ((L.getD l [])).length
def edF(F:List (List (List Int))):Nat->List E5:=gP λf=>edL ((F.getD f [])) f ((F.getD f [])).length
def edZ(F:List (List (List Int))):List E5:=edF F F.length
abbrev e0:E5:=((0:Int),(0:Int),(0:Int),(0:Int),(0:Int))
def zPR(e:E5)(a b:Int):Prop:=e.1=a/\e.2.1=b
def iP(E:List E5)(a b:Int):Nat->Int
  |0=>0
  |m+1=>if zPR ((E.getD m ((0:Int),(0:Int),(0:Int),(0:Int),(0:Int)))) a b then iP E a b m+1 else iP E a b m
theorem zA9(E:List E5)(a b:Int):∀m,0<=iP E a b m/\iP E a b m<=m
  |0=>by unfold iP;omega
  |m+1=>by
   have h:=zA9 E a b m;unfold iP
   split<;>omega
theorem tm_t{E:List E5}{a b:Int}{m:Nat}(h:zPR ((E.getD m ((0:Int),(0:Int),(0:Int),(0:Int),(0:Int)))) a b):iP E a b m+1=iP E a b (m+1):=(zau h).symm
theorem tm_f{E:List E5}{a b:Int}{m:Nat}(h:¬zPR ((E.getD m ((0:Int),(0:Int),(0:Int),(0:Int),(0:Int)))) a b):iP E a b m=iP E a b (m+1):=(zae h).symm
def tmZ(E:List E5)(a b:Int):Int:=iP E a b E.length
def yCS(E:List E5)(i:Nat):Prop:=tmZ E ((E.getD i ((0:Int),(0:Int),(0:Int),(0:Int),(0:Int)))).2.1 ((E.getD i ((0:Int),(0:Int),(0:Int),(0:Int),(0:Int)))).1<tmZ E ((E.getD i ((0:Int),(0:Int),(0:Int),(0:Int),(0:Int)))).1 ((E.getD i ((0:Int),(0:Int),(0:Int),(0:Int),(0:Int)))).2.1
def yGS(E:List E5):Nat->List E5:=bA (yCS E) λi=>((30:Int),(-1:Int),((E.getD i ((0:Int),(0:Int),(0:Int),(0:Int),(0:Int)))).2.2.1,((E.getD i ((0:Int),(0:Int),(0:Int),(0:Int),(0:Int)))).2.2.2.1,((E.getD i ((0:Int),(0:Int),(0:Int),(0:Int),(0:Int)))).2.2.2.2)
def clZ(F:List (List (List Int))):List E5:=if vaP F then yGS (edZ F) (edZ F).length else[((1:Int),(-1:Int),(-1:Int),(-1:Int),(-1:Int))]
theorem zPN(x:List Int)(f l m:Nat):(edX x f l m).length=m:=yW _ _
theorem zH6{L:List (List Int)}(h:∀l,l<L.length->((L.getD l [])).length<=64)(f:Nat):∀m,m<=L.length->(edL L f m).length<=64*m
  |0,_=>zbe _
  |m+1,hm=>by
   have h1:=zH6 h f m zot;have h2:=h m zot
   show List.length (edL L f m++edX (L.getD m []) f m (L.getD m []).length)<=_
   rw[lAz,zPN];omega
theorem zCO{F:List (List (List Int))}(h:∀f,f<F.length->((F.getD f [])).length<=16/\∀l,l<((F.getD f [])).length->((((F.getD f [])).getD l [])).length<=64):∀m,m<=F.length->(edF F m).length<=1024*m
  |0,_=>zbe _
  |m+1,hm=>by
   have h1:=zCO h m zot;have h2:=h m zot;have h3:=zH6 h2.2 m _ (zbe _)
   show List.length (edF F m++edL (F.getD m []) m (F.getD m []).length)<=_
   rw[lAz];omega
end Bk
namespace Bk
open Go Go.RowKit
section
variable {P:Program}{n:Nat}{w0:World}{h0:Mem}{e:List (Nat×Value)}{L:List Res}{h:Mem}{Q:Exit->Act->World->Prop}
variable {ty:TypeId}{ps:String}{af:Array Edge}
end
end Bk
namespace Go.Proofs.YtpkaegemlpaenaaGreat
open Bk Go Tryz
attribute [local irreducible] GL GC GQ W OpV
section
variable{w0:World}{h0:Mem}(hs:MLe h0 (mem w0))
include hs
theorem dF{vL:Value}{L:(List (List Int))}(rL:tII.Is h0 vL L):
 y8i 178 #[vL] w0 h0 (λ_ r=>r=vB (vfP L)):=by
 refine cb1 65 vL func178 hs ?_;refine qE ?_;refine gU 5 14 (vB (((↑(L).length:Int)<(1:Int))\/((16:Int)<(↑(L).length:Int)))) ?_ ?_
 ·
  refine zY ((↑(L).length:Int)<(1:Int)) (λC=>?_) (λC=>?_)
  ·
   refine gT C I (go5 ?_);refine gqU ?_;exact y4e (uH C)
  refine gF C I (go8 ?_);refine gqU ?_;exact y4e (uJ C)
 refine gc2 (λai=>?_) λai=>?_
 ·
  refine go7 ?_;refine zC I I ?_;exact(yM (λe=>by have:=e.1;omega)).symm
 refine go9 ?_;refine gcL (ι:=Nat×Mem) (λ(l,U)=>(MLe h0 U/\(l<=L.length/\∀u,u<l->lpP (L.getD u [])),[(0,vL),(3,vI ↑l)],[],U,L.length-l)) (0,h0) ?_ ?_
 · exact⟨mle,zot,λu h=>by omega⟩
 rintro⟨l,U⟩ ⟨bb,bp,Z⟩
 refine yY ?_;refine gc9 (λah=>?_) λah=>?_
 ·
  refine go8 ?_;refine lX (xI [] l underlying51 fL rL) λbo au=>(lX (xA fL au) λM H=>(go9 ?_));refine gU 5 32 (vB (((↑((L.getD l [])).length:Int)<(3:Int))\/((64:Int)<(↑((L.getD l [])).length:Int)))) ?_ ?_
  ·
   refine zY ((↑((L.getD l [])).length:Int)<(3:Int)) (λC=>?_) (λC=>?_)
   ·
    refine gT C I (go5 ?_);refine gqU ?_;exact y4e (uH C)
   refine gF C I (go8 ?_);refine gqU ?_;exact y4e (uJ C)
  refine gc2 (λae=>?_) λae=>?_
  ·
   refine qC ?_;refine zC I I ?_;exact(yM (λe=>by have:=(e.2 l oM).1;omega)).symm
  refine go8 ?_;refine gcL (ι:=Nat×Mem) (λ(i,J)=>(MLe U J/\(i<=(L.getD l []).length/\∀u,u<i->(0<=(L.getD l []).getD u 0/\(L.getD l []).getD u 0<512)/\∀k,k<u->¬(L.getD l []).getD u 0=(L.getD l []).getD k 0),[(0,vL),(3,vI ↑l),(4,M),(5,vI ↑i)],[],J,(L.getD l []).length-i)) (0,U) ?_ ?_
  · exact⟨mle,zot,λu h=>by omega⟩
  rintro⟨i,J⟩ ⟨ba,br,hi2⟩
  refine yY ?_;refine gc9 (λad=>?_) λad=>?_
  ·
   refine go9 ?_;refine lX (xI (0:Int) i underlying22 ty3 H) λbn ar=>(lX (xA ty3 ar) λbm aq=>?_);obtain⟨rfl,bf,ay⟩:=kX aq;refine go1 ?_;refine gU 7 50 (vB ((((L.getD l []).getD i (0:Int))<(0:Int))\/((512:Int)<=((L.getD l []).getD i (0:Int))))) ?_ ?_
   ·
    refine zY (((L.getD l []).getD i (0:Int))<(0:Int)) (λC=>?_) (λC=>?_)
    ·
     refine gT C I (go7 ?_);refine gqU ?_;exact y4e (uH C)
    refine gF C I (go5 ?_);refine lX (xI (0:Int) i underlying22 ty3 H) λbl ap=>(go1 ?_);refine lX (xA ty3 ap) λbk ao=>?_;obtain⟨rfl,be,ax⟩:=kX ao;refine go4 ?_;refine gqU ?_;exact y4e (uJ C)
   refine gc2 (λac=>?_) λac=>?_
   ·
    refine dQ ?_;refine zC I I ?_;exact(yM (λe=>by have:=((e.2 l oM).2 i oM).1;omega)).symm
   refine go8 ?_;refine gcL (ι:=Nat×Mem) (λ(k,O)=>(MLe J O/\(k<=i/\∀v,v<k->¬(L.getD l []).getD i 0=(L.getD l []).getD v 0),[(0,vL),(3,vI ↑l),(4,M),(5,vI ↑i),(6,vI ↑k)],[],O,i-k)) (0,J) ?_ ?_
   · exact⟨mle,zot,λu h=>by omega⟩
   rintro⟨k,O⟩ ⟨az,bq,aa⟩
   refine yY ?_;refine gc8 (λab=>?_) λab=>?_
   ·
    refine go5 ?_;refine zJ 9 _ [] (zai 0 9 []) zX nX zou nX (λr hr=>hr) (go2 ?_);refine wX I (xI (0:Int) i underlying22 ty3 H) λbj an=>(wX I (xA ty3 an) λbi am=>?_);obtain⟨rfl,bd,aw⟩:=kX am;refine go2 ?_;refine wX I (xI (0:Int) k underlying22 ty3 H) λbh ak=>(wX I (xA ty3 ak) λbg aj=>?_);obtain⟨rfl,bc,av⟩:=kX aj;refine gc3 (λD=>?_) λD=>?_
    ·
     refine yCD ?_;refine zC I I ?_;exact(yM (λe=>((e.2 l oM).2 i oM).2 k oM D)).symm
    refine go8 ?_;refine gqL ((k+1),O) ?_ ?_
    · exact⟨mle,zot,vZ (Q:=λv=>¬(L.getD l []).getD i 0=(L.getD l []).getD v 0) aa D⟩
    omega
   refine qE ?_;refine gqL ((i+1),O) ?_ ?_
   · exact⟨mle,zot,vZ (Q:=λu=>(0<=(L.getD l []).getD u 0/\(L.getD l []).getD u 0<512)/\∀k,k<u->¬(L.getD l []).getD u 0=(L.getD l []).getD k 0) hi2 ⟨zot,λk hk=>aa k oM⟩⟩
   omega
  refine qE ?_;refine gqL ((l+1),J) ?_ ?_
  · exact⟨mle,zot,vZ (Q:=λu=>lpP (L.getD u [])) Z ⟨zot,λu hu=>hi2 u oM⟩⟩
  omega
 refine qE ?_;refine zC I I ?_;exact(xW ⟨zot,λu hu=>Z u oM⟩).symm
theorem zRO{vF:Value}{F:(List (List (List Int)))}(rF:(rpS tII).Is h0 vF F):
 y8i 180 #[vF] w0 h0 (λ_ r=>r=vB (vaP F)):=by
 refine cb1 19 vF func180 hs ?_;refine rS ?_;refine cnd (λaa=>?_) λaa=>?_
 ·
  refine go7 ?_;refine zC I I ?_;exact(yM (λe=>by have:=e.1;omega)).symm
 refine go9 ?_;refine gcL (ι:=Nat×Mem) (λ(f,Z)=>(MLe h0 Z/\(f<=F.length/\∀u,u<f->vfP (F.getD u [])),[(0,vF),(3,vI ↑f)],[],Z,F.length-f)) (0,h0) ?_ ?_
 · exact⟨mle,zot,λu h=>by omega⟩
 rintro⟨f,Z⟩ ⟨ab,ah,D⟩
 refine yY ?_;refine gc9 (λH=>?_) λH=>?_
 ·
  refine go8 ?_;refine lX (xI [] f underlying165 cC rF) λad U=>(lX (xA cC U) λac O=>(cL (ev1 I) call178 (λw hs=>dF hs O) λJ h1 ae M=>?_));obtain rfl:J=vB (vfP (F.getD f [])):=M;refine gc3 (λC=>?_) λC=>?_
  ·
   refine qE ?_;refine zC I I ?_;exact(yM (λe=>C (e.2 f oM))).symm
  refine go8 ?_;refine gqL ((f+1),h1) ?_ ?_
  · exact⟨mle,zot,vZ (Q:=λu=>vfP (F.getD u [])) D (zdi C)⟩
  omega
 refine qE ?_;refine zC I I ?_;exact(xW ⟨zot,λu hu=>D u oM⟩).symm
theorem zG2{vF:Value}{F:(List (List (List Int)))}(rF:(rpS tII).Is h0 vF F)(H0:F.length<=1000)(H1:∀f,f<F.length->(F.getD f []).length<=16/\∀l,l<(F.getD f []).length->((F.getD f []).getD l []).length<=64):
 y8i 135 #[vF] w0 h0 (λh r=>(rpS tE5).Is h r (edZ F)):=by
 refine cb1 56 vF func135 hs ?_;refine nY ?_;refine xJ 168 5 ?_;have ah:=RL.nil (ρ:=rpP rpI (rpP rpI (rpP rpI (rpP rpI rpI)))) (h:=h0);refine gcL (ι:=Nat×List (Int×Int×Int×Int×Int)×Value×List Value×Mem) (λ(f,D0,J,O,ma)=>(MLe h0 ma/\(RL tE5 ma O D0/\f<=F.length/\D0=edF F f),[(0,vF),(3,J),(4,vI ↑f)],[.gs 168 5 J D0.length O],ma,F.length-f)) (0,[],(.slice none 0 0),[],h0) ?_ ?_
 · exact⟨mle,ah,zot,I⟩
 rintro⟨f,D0,J,O,ma⟩ ⟨bj,aa,ck,ap⟩
 refine yY ?_;refine gc9 (λan=>?_) λan=>?_
 ·
  refine uR ?_;refine gcL (ι:=Nat×List (Int×Int×Int×Int×Int)×Value×List Value×Mem) (λ(l,D1,C,D,mb)=>(MLe ma mb/\(RL tE5 mb D D1/\l<=(F.getD f []).length/\D1=edF F f++edL (F.getD f []) f l),[(0,vF),(3,C),(4,vI ↑f),(5,vI ↑l)],[.gs 168 5 C D1.length D],mb,(F.getD f []).length-l)) (0,D0,J,O,ma) ?_ ?_
  · exact⟨mle,aa,zot,by rw[ap];exact(zqi _).symm⟩
  rintro⟨l,D1,C,D,mb⟩ ⟨bi,Z,ci,ao⟩
  refine yY ?_;refine go6 ?_;refine lX (xI [] f underlying165 cC rF) λbx bd=>(lX (xA cC bd) λbw bz=>(gc4 (λam=>?_) λam=>?_))
  ·
   refine go8 ?_;refine lX (xI [] f underlying165 cC rF) λbv bc=>(lX (xA cC bc) λbu bb=>(go1 ?_));refine lX (xI [] l underlying51 fL bb) λbt ba=>(lX (xA fL ba) λau ad=>(go9 ?_));refine gcL (ι:=Nat×List (Int×Int×Int×Int×Int)×Value×List Value×Mem) (λ(i,D2,H,M,mc)=>(MLe mb mc/\(RL tE5 mc M D2/\i<=((F.getD f []).getD l []).length/\D2=edF F f++edL (F.getD f []) f l++edX ((F.getD f []).getD l []) f l i),[(0,vF),(3,H),(4,vI ↑f),(5,vI ↑l),(6,au),(7,vI ↑i)],[.gs 168 5 H D2.length M],mc,((F.getD f []).getD l []).length-i)) (0,D1,C,D,mb) ?_ ?_
   · exact⟨mle,Z,zot,by rw[ao];exact(zqi _).symm⟩
   rintro⟨i,D2,H,M,mc⟩ ⟨bh,U,cj,ae⟩
   refine yY ?_;have ch:=zCO H1 f oM;have cg:=(H1 f oM).1;have cf:=zH6 (H1 f oM).2 f l oM;have ce:=(H1 f oM).2 l oM;have cd:=zPN ((F.getD f []).getD l []) f l i;have cc:D2.length<=1100000:=by rw[ae,lAz,lAz];omega
   refine gc9 (λak=>?_) λak=>?_
   ·
    refine go4 ?_;refine qJ (A:=[]) 20 [] (zai 0 17 [(17,.c),(18,.c),(19,.q)]) zX nX (wL zou) nX (go3 ?_);refine wX I (xI (0:Int) i underlying22 ty3 ad) λbs az=>(wX I (xA ty3 az) λbr ay=>?_);obtain⟨rfl,bl,bg⟩:=kX ay;refine go4 ?_;refine w_q I (λh' L' hh hR=>jN underlying22 I (ad.up.mono hh)) I (wZ I (λ_ _=>wI I I oM oM) I (wX I (xI (0:Int) ((i+1)%((F.getD f []).getD l []).length) underlying22 ty3 ad (hi:=by exact zcu _ oM)) λbq ax=>(wX I (xA ty3 ax) λbp aw=>?_)));obtain⟨rfl,bk,bf⟩:=kX aw;refine go3 ?_;refine wX I (xV (ρ:=tE5) (xN (ps':=[(0,_),(1,_),(2,_),(3,_),(4,_)]) underlying168 zMK I I (zV1 underlying168) ⟨I,I,I,I,I,I,I,I,I,I,y5i⟩ I (yA wQ (yA wQ (yA wQ (yA wQ wQ)))) (zD I (y6i (y5u _)) (wM oM oM) (zD I (y6u (y6i (y5u _))) (wM oM oM) (zD I (y6u (y6u (y6i (y5u _)))) (wM oM oM) (zD I (y6u (y6u (y6u (y6i (y5u _))))) (wM oM oM) (zD I (y6u (y6u (y6u (y6u (y5u _))))) (wM oM oM) zN))))))) λbo av=>?_;refine w_c I (jR (λX=>zL (ρ:=tE5) (m:=1) (xs:=[((((F.getD f []).getD l []).getD i (0:Int)),((((F.getD f []).getD l []).getD ((i+1)%((F.getD f []).getD l []).length) (0:Int)),((↑f:Int),((↑l:Int),(↑i:Int)))))]) (ps':=[(0,_)]) underlying163 zMK I I I (yA wQ (yA wQ (yA wQ (yA wQ wQ)))) e2z (zD I (y5e (y5u _) e50 0 dC) av zN) zoi nP) I ?_)
    rintro bn cb ⟨bm,rfl,aj⟩
    refine w_c I (xY (A:=[]) (ρ:=tE5) aj dK ?_);intro h1 be ac;refine fK (A:=[]) (λX=>zR (ρ:=tE5) (bytes:=40) underlying163 zMK I I I I nP I I U.up ac bO bO) I (xO zoy) ?_
    rintro ar ca ⟨aq,rfl,ai⟩
    refine go9 ?_;refine gqL ((i+1),(D2++[((((F.getD f []).getD l []).getD i (0:Int)),((((F.getD f []).getD l []).getD ((i+1)%((F.getD f []).getD l []).length) (0:Int)),((↑f:Int),((↑l:Int),(↑i:Int)))))]),ar,aq,h1) ?_ ?_
    · exact⟨mle,ai,zot,by rw[ae,zki];rfl⟩
    omega
   have ei:i=((F.getD f []).getD l []).length:=by omega
   refine qE ?_;refine gqL ((l+1),D2,H,M,mc) ?_ ?_
   · exact⟨mle,U.up,zot,by rw[ae,ei,zki];rfl⟩
   omega
  have el:l=(F.getD f []).length:=by omega
  refine qE ?_;refine gqL ((f+1),D1,C,D,mb) ?_ ?_
  · exact⟨mle,Z,zot,by rw[ao,el];rfl⟩
  omega
 have ef:f=F.length:=by omega
 refine qC ?_;refine wW (A:=[]) (ρ:=tE5) aa ?_;intro h1 be ab;refine zC I I ?_;exact(Rp.Is.cast ab (by rw[ap,ef];rfl))
theorem zG1{vE:Value}{E:(List (Int×(Int×(Int×(Int×Int)))))}(rE:(rpS tE5).Is h0 vE E){a:Int}(ha1:-9223372036854775808<=a)(ha2:a<9223372036854775808){b:Int}(hb1:-9223372036854775808<=b)(hb2:b<9223372036854775808)(H0:E.length<=1000000):
 y8i 181 #[vE,vI a,vI b] w0 h0 (λ_ r=>r=vI (tmZ E a b)):=by
 refine cb3 34 vE (vI a) (vI b) func181 hs ?_;refine nY ?_;refine gcL (ι:=Nat×Mem) (λ(m,D)=>(MLe h0 D/\(m<=E.length),[(0,vE),(1,vI a),(2,vI b),(7,vI (iP E a b m)),(8,vI ↑m)],[],D,E.length-m)) (0,h0) ?_ ?_
 · exact⟨mle,oM⟩
 rintro⟨m,D⟩ ⟨ah,H⟩
 refine yY ?_;have au:=H;have ar:=zA9 E a b m;refine gc9 (λM=>?_) λM=>?_
 ·
  refine go8 ?_;refine lX (xI e50 m underlying163 t8 rE) λaq ac=>(lX (xF underlying168 sizeOf3 (y6i pH) ac) λap ab=>(lX (xA ty3 ab) λao aa=>?_));obtain⟨rfl,aj,ae⟩:=kX aa;refine go2 ?_;refine gU 9 30 (vB ((((E.getD m e50).1)=a)/\((((E.getD m e50).2).1)=b))) ?_ ?_
  ·
   refine zY (((E.getD m e50).1)=a) (λJ=>?_) (λJ=>?_)
   ·
    refine gT J I (go5 ?_);refine lX (xI e50 m underlying163 t8 rE) λan Z=>(go1 ?_);refine lX (xF underlying168 sizeOf3 (y6u (y6i pH)) Z) λam U=>(go1 ?_);refine lX (xA ty3 U) λak O=>?_;obtain⟨rfl,ai,ad⟩:=kX O;refine go6 ?_;refine gqU ?_;exact y4e (xD J)
   refine gF J I (go9 ?_);refine gqU ?_;exact y4e (xE J)
  refine gc2 (λC=>?_) λC=>?_
  ·
   refine qC ?_;refine gqL ((m+1),D) ?_ ?_ (he:=⟨I,I,I,zbi (λz=>some (vI z)) (tm_t C),I,y5i⟩)
   · exact⟨mle,oM⟩
   omega
  refine go8 ?_;refine gqL ((m+1),D) ?_ ?_ (he:=⟨I,I,I,zbi (λz=>some (vI z)) (tm_f C),I,y5i⟩)
  · exact⟨mle,oM⟩
  omega
 refine qC ?_;refine zC I I ?_;have em:m=E.length:=by omega
 subst em
 rfl
theorem zOF{vF:Value}{F:(List (List (List Int)))}(rF:(rpS tII).Is h0 vF F):
 y8i 145 #[vF] w0 h0 (λh r=>(rpS tE5).Is h r (clZ F)):=by
 refine cb1 64 vF func145 hs ?_;refine go9 ?_;refine cL (ev1 I) call180 (λw hs=>zRO hs rF) λv7 h1 dx r7=>?_;obtain rfl:v7=vB (vaP F):=r7;refine gc3 (λad=>?_) λad=>?_
 ·
  refine go2 ?_;refine lX (xV (ρ:=tE5) (xN (ps':=[(0,_),(1,_),(2,_),(3,_),(4,_)]) underlying200 kD I I (zDF underlying200) ⟨I,I,I,I,I,I,I,I,I,I,y5i⟩ I (yA wQ (yA wQ (yA wQ (yA wQ wQ)))) (zD I (y6i (y5u _)) (wM dC dC) (zD I (y6u (y6i (y5u _))) (wM dC dC) (zD I (y6u (y6u (y6i (y5u _)))) (wM dC dC) (zD I (y6u (y6u (y6u (y6i (y5u _))))) (wM dC dC) (zD I (y6u (y6u (y6u (y6u (y5u _))))) (wM dC dC) zN))))))) λv9 r9=>(zG (zL (ρ:=tE5) (m:=1) (xs:=[((1:Int),((-1:Int),((-1:Int),((-1:Int),(-1:Int)))))]) (ps':=[(0,_)]) underlying133 kD I I I (yA wQ (yA wQ (yA wQ (yA wQ wQ)))) e2z (zD I (y5e (y5u _) e50 0 dC) r9 zN) zoi nP) I I I ?_)
  rintro dp dt ⟨cm,rfl,aj⟩
  refine go5 ?_;refine wW (A:=[]) (ρ:=tE5) aj ?_;intro h2 bu ab;refine zC I I ?_;exact(Rp.Is.cast ab (by exact(zae ad).symm))
 refine uR ?_;have U:vaP F:=zdi ad;have ae:∀f,f<F.length->(F.getD f []).length<=16/\∀l,l<(F.getD f []).length->((F.getD f []).getD l []).length<=64:=λf hf=>⟨(U.2 f hf).1.2,λl hl=>((U.2 f hf).2 l hl).1.2⟩;have ea:F.length<=256:=U.1;have dz:=zCO ae F.length (zbe _);have dy:(edZ F).length<=262144:=by show(edF F F.length).length<=_;omega
 refine cL (ev1 I) call135 (λw hs=>zG2 hs rF.up (by first|omega|exact ae) (by first|omega|exact ae)) λaq h2 bu H=>(uR ?_);refine xJ 200 5 ?_;have ac:=RL.nil (ρ:=rpP rpI (rpP rpI (rpP rpI (rpP rpI rpI)))) (h:=h2);refine gcL (ι:=Nat×List (Int×Int×Int×Int×Int)×Value×List Value×Mem) (λ(i,D,C,J,ma)=>(MLe h2 ma/\(RL tE5 ma J D/\i<=(edZ F).length/\D=yGS (edZ F) i),[(3,C),(4,aq),(5,vI ↑i)],[.gs 200 5 C D.length J],ma,(edZ F).length-i)) (0,[],(.slice none 0 0),[],h2) ?_ ?_
 · exact⟨mle,ac,zot,I⟩
 rintro⟨i,D,C,J,ma⟩ ⟨cd,M,du,hD⟩
 refine yY ?_;have eb:D.length<=i:=by rw[hD];exact cJ _ _ i
 refine gc9 (λak=>?_) λak=>?_
 ·
  refine go5 ?_;refine zJ 25 _ [] (zai 0 11 (zai 12 11 [(11,.c),(23,.c),(24,.q)])) zX nX (wL zou) nX (λr hr=>hr) (go3 ?_);refine wX I (xI e50 i underlying163 t8 H) λdn bq=>(wX I (xF underlying168 sizeOf3 (y6i pH) bq) λdm bp=>(wX I (xA ty3 bp) λdl bo=>?_));obtain⟨rfl,ck,cc⟩:=kX bo;refine go2 ?_;refine wX I (xI e50 i underlying163 t8 H) λdk bn=>(wX I (xF underlying168 sizeOf3 (y6u (y6i pH)) bn) λdj bm=>(wX I (xA ty3 bm) λdi bl=>?_));obtain⟨rfl,cj,cb⟩:=kX bl;refine go3 ?_;refine wX I (xI e50 i underlying163 t8 H) λdh bj=>(wX I (xF underlying168 sizeOf3 (y6u (y6i pH)) bj) λdf bi=>(wX I (xA ty3 bi) λde bh=>?_));obtain⟨rfl,ci,ca⟩:=kX bh;refine go2 ?_;refine wX I (xI e50 i underlying163 t8 H) λdd bg=>(wX I (xF underlying168 sizeOf3 (y6i pH) bg) λdc bf=>(wX I (xA ty3 bf) λdb be=>?_));obtain⟨rfl,ch,bz⟩:=kX be;refine w_c I (sC (ev3 I I I) call181 (λw hs=>zG1 hs H.up oM oM oM oM oM) λap h3 bt bk=>?_);obtain rfl:ap=vI (tmZ (edZ F) (((edZ F).getD i e50).1) ((((edZ F).getD i e50).2).1)):=bk;have bs:=zA9 (edZ F) (((edZ F).getD i e50).1) ((((edZ F).getD i e50).2).1) (edZ F).length;refine w_c I (sC (ev3 I I I) call181 (λw hs=>zG1 hs H.up oM oM oM oM oM) λao h4 dw bd=>?_);obtain rfl:ao=vI (tmZ (edZ F) ((((edZ F).getD i e50).2).1) (((edZ F).getD i e50).1)):=bd;have br:=zA9 (edZ F) ((((edZ F).getD i e50).2).1) (((edZ F).getD i e50).1) (edZ F).length;refine gc3 (λO=>?_) λO=>?_
  ·
   refine qJ (A:=[]) 20 [] (zai 0 17 [(17,.c),(18,.c),(19,.q)]) zX nX (wL zou) nX (go3 ?_);refine wX I (xI e50 i underlying163 t8 H) λda bc=>(wX I (xF underlying168 sizeOf3 (y6u (y6u (y6i pH))) bc) λcz bb=>(wX I (xA ty3 bb) λcy ba=>?_));obtain⟨rfl,cg,bx⟩:=kX ba;refine go2 ?_;refine wX I (xI e50 i underlying163 t8 H) λcw az=>(wX I (xF underlying168 sizeOf3 (y6u (y6u (y6u (y6i pH)))) az) λcv ay=>(wX I (xA ty3 ay) λcu ax=>?_));obtain⟨rfl,cf,bw⟩:=kX ax;refine go2 ?_;refine wX I (xI e50 i underlying163 t8 H) λct aw=>(wX I (xF underlying168 sizeOf3 (y6u (y6u (y6u (y6u pH)))) aw) λcq av=>(wX I (xA ty3 av) λcp au=>?_));obtain⟨rfl,ce,bv⟩:=kX au;refine wX I (xV (ρ:=tE5) (xN (ps':=[(0,_),(1,_),(2,_),(3,_),(4,_)]) underlying200 kD I I (zDF underlying200) ⟨I,I,I,I,I,I,I,I,I,I,y5i⟩ I (yA wQ (yA wQ (yA wQ (yA wQ wQ)))) (zD I (y6i (y5u _)) (wM dC dC) (zD I (y6u (y6i (y5u _))) (wM dC dC) (zD I (y6u (y6u (y6i (y5u _)))) (wM oM oM) (zD I (y6u (y6u (y6u (y6i (y5u _))))) (wM oM oM) (zD I (y6u (y6u (y6u (y6u (y5u _))))) (wM oM oM) zN))))))) λco ar=>?_;refine w_c I (jR (λX=>zL (ρ:=tE5) (m:=1) (xs:=[((30:Int),((-1:Int),((((((edZ F).getD i e50).2).2).1),(((((((edZ F).getD i e50).2).2).2).1),((((((edZ F).getD i e50).2).2).2).2)))))]) (ps':=[(0,_)]) underlying133 kD I I I (yA wQ (yA wQ (yA wQ (yA wQ wQ)))) e2z (zD I (y5e (y5u _) e50 0 dC) ar zN) zoi nP) I ?_)
   rintro cn dr ⟨cl,rfl,ai⟩
   refine w_c I (xY (A:=[]) (ρ:=tE5) ai dK ?_);intro h5 dv aa;refine fK (A:=[]) (λX=>zR (ρ:=tE5) (bytes:=40) underlying133 kD I I I I nP I I M.up aa bO bO) I (xO zoy) ?_
   rintro an dq ⟨am,rfl,ah⟩
   refine go9 ?_;refine gqL ((i+1),(D++[((30:Int),((-1:Int),((((((edZ F).getD i e50).2).2).1),(((((((edZ F).getD i e50).2).2).2).1),((((((edZ F).getD i e50).2).2).2).2)))))]),an,am,h5) ?_ ?_
   · exact⟨mle,ah,zot,by rw[hD];exact zBI O⟩
   omega
  refine go8 ?_;refine gqL ((i+1),D,C,J,h4) ?_ ?_
  · exact⟨mle,M.up,zot,by rw[hD];exact zBJ O⟩
  omega
 refine qC ?_;refine wW (A:=[]) (ρ:=tE5) M.up ?_;intro h3 bt Z;refine zC I I ?_;exact(Rp.Is.cast Z (by rw[hD,show i=(edZ F).length by omega];exact(zau U).symm))
end
end Go.Proofs.YtpkaegemlpaenaaGreat
namespace Bk
open Classical
def wV(a b:Pt):Pt:=T3.mk (a.x+b.x) (a.y+b.y) (a.z+b.z)
def yNR(l l':List Pt)(v:Pt):Prop:=l'.length=l.length/\∀q,q<l.length->gp l' q=wV (gp l q) v
def hgt(pl:Pl)(p:Pt):Rat:=zF pl.1 p-pl.2
def sdZ(pl:Pl)(p:Pt):Int:=yQ (hgt pl p)
theorem aZ(pl:Pl)(p:Pt):-1<=sdZ pl p/\sdZ pl p<=1:=xC _
abbrev nx(l:List Pt)(m:Nat):Pt:=gp l ((m+1)%l.length)
section
variable {pl:Pl}{l B:List Pt}{m:Nat}
end
def cA(l:List Pt):Prop:=aJ l 0 1->¬uV l 0 1 l.length=0
theorem zD2{l:List Pt}(h:¬uV l 0 1 l.length=0):cA l:=λ_=>h
abbrev PI:=Int×Int
def crI(u v w:PI):Int:=(v.1-u.1)*(w.2-u.2)-(v.2-u.2)*(w.1-u.1)
def sgI(n:Int):Int:=if 0<n then 1 else if n<0 then -1 else 0
def orI(u v w:PI):Int:=sgI (crI u v w)
def lxI(u v:PI):Bool:=decide (u.1<v.1\/(u.1=v.1/\u.2<v.2))
def apI(a b c d:Int):Bool:=decide ((a<c/\a<d/\b<c/\b<d)\/(c<a/\d<a/\c<b/\d<b))
def alS(a b c d:PI):Int:=
 if lxI (if lxI d b then d else b) (if lxI a c then c else a) then 0 else if lxI (if lxI a c then c else a) (if lxI d b then d else b) then 3
 else if((if lxI a c then c else a)=a\/(if lxI a c then c else a)=b)/\((if lxI a c then c else a)=c\/(if lxI a c then c else a)=d) then 1 else 2
def alI(a b c d:PI):Int:=alS (if lxI b a then b else a) (if lxI b a then a else b) (if lxI d c then d else c) (if lxI d c then c else d)
def toI(a b c d:PI):Int:=
 if apI a.1 b.1 c.1 d.1\/apI a.2 b.2 c.2 d.2 then 0
 else if orI a b c=0/\orI a b d=0/\orI c d a=0/\orI c d b=0 then alI a b c d
 else if 0<orI a b c*orI a b d\/0<orI c d a*orI c d b then 0
 else if(orI a b c=0\/orI a b d=0)/\(orI c d a=0\/orI c d b=0) then 1 else 2
def af(x y r:Int)(u:PI):P2:=(((x+r*u.1:Int):Rat),((y+r*u.2:Int):Rat))
def waI(n p q:Nat):Int:=if q=p+1\/(p=0/\q+1=n) then 1 else 0
theorem yC3{a b:List Pt}{p q:Nat}:2<=oJ (vV a 0 1 p) (vT a 0 1 p) (vV b 0 1 q) (vT b 0 1 q)↔zAA a b 0 1 p q:=by
 unfold zAA;rw[zNF];omega
theorem zXJ{a b:List Pt}{p q:Nat}(h:zAA a b 0 1 p q):zAA b a 0 1 q p:=by
 unfold zAA at *;rw[zF5];exact h
theorem eU{a b:List Pt}(h:fC a b 0 1):fC b a 0 1:=by
 obtain⟨p,q,D,C,h⟩:=h;exact⟨q,p,C,D,zXJ h⟩
theorem yHI(a b:Pt):pr (T3.mk (zDP a.x b.x) (zDP a.y b.y) (0:Rat)) 0 1=zR8 (pr a 0 1) (pr b 0 1):=rfl
theorem yCO{l:List Pt}(hf:cA l)(hs:aJ l 0 1):¬yQ (arZ l 0 1)=0:=λe=>hf hs (uL.1 e)
theorem yGF{L:List (List Pt)}(h:∀x,x∈L->cA x)(m:Nat):cA (gl L m):=by
 show cA (L.getD m [])
 rw[zoa]
 rcases zte m L.length with h1|h1
 · rw[zoc h1]
   exact h _ (ybe h1)
 · rw[zre h1]
   exactλe=>absurd e.1 zox
theorem yJ0{L:List (List Pt)}{m:Nat}(h:yQ (uV (gl L m) 0 1 (gl L m).length)<0):sG L 0 1 m L.length=pZ L 0 1 m:=by
 have h1:yQ (arZ (gl L m) 0 1)<0:=h;unfold pZ;rw[zae zot]
theorem zZR{L:List (List Pt)}{m:Nat}(hf:∀x,x∈L->cA x)(hs:aJ (gl L m) 0 1)(h:¬yQ (uV (gl L m) 0 1 (gl L m).length)<0):0<yQ (arZ (gl L m) 0 1):=by
 have h1:¬yQ (arZ (gl L m) 0 1)<0:=h;have h2:=yCO (yGF hf m) hs;omega
theorem yJZ{L:List (List Pt)}{m:Nat}(hf:∀x,x∈L->cA x)(hs:aJ (gl L m) 0 1)(h:¬yQ (uV (gl L m) 0 1 (gl L m).length)<0):-1=pZ L 0 1 m:=by
 unfold pZ;rw[zau (zZR hf hs h)]
theorem zKG{O:List Int}{m:Nat}{f:Nat->Int}{p:Int}(hl:O.length=m)(h:∀q,q<m->O.getD q 0=f q)(hp:p=f m):(O++[p]).length=m+1/\∀q,q<m+1->(O++[p]).getD q 0=f q:=by
 refine⟨by rw[lAz,hl];rfl,λq C=>?_⟩;rw[zoa]
 by_cases e:q=m
 · subst e
   rw[yni zot,hl,yvi];exact hp
 · rw[ypi zot,<-zoa]
   exact h q zot
theorem yKK{L:List (List Pt)}{a:Nat}(h:0<yQ (arZ (gl L a) 0 1)):¬iF L 0 1 a/\∀b,b<L.length->¬zC8 L 0 1 a b:=by
 refine⟨λe=>e.1 h,λb _ e=>?_⟩;have h1:=e.1.1.2;have h2:pZ L 0 1 a= -1:=by unfold pZ;rw[zau h]
 omega
theorem yLH{L:List (List Pt)}{m:Nat}(hf:∀x,x∈L->cA x)(hs:aJ (gl L m) 0 1)(h:0<=yQ (uV (gl L m) 0 1 (gl L m).length)):0<yQ (arZ (gl L m) 0 1):=zZR hf hs zot
theorem zTZ{L:List (List Pt)}{a:Nat}{o:Int}(h:¬0<=yQ (uV (gl L a) 0 1 (gl L a).length))(ho:o=pZ L 0 1 a)(h1:o<0):iF L 0 1 a:=by
 have h2:yQ (arZ (gl L a) 0 1)<0:=ywi.1 h;refine⟨zot,?_⟩;rw[ho] at h1;unfold pZ at h1;rw[zae zot] at h1;exact h1
theorem zB0{L:List (List Pt)}{a:Nat}{o:Int}(ho:o=pZ L 0 1 a)(h1:¬o<0):¬iF L 0 1 a:=λe=>by
 rw[ho] at h1;unfold pZ at h1;rw[zae e.1] at h1;exact h1 e.2
abbrev Fc:=(Pt×Rat)×List (List Int)×List Nat
abbrev En:=Int×Int×Rat
abbrev Sd:=List Pt×List Fc×List En
abbrev zV4:Pt×Rat:=(zT,(0:Rat))
abbrev zA:Fc:=(zV4,([]:List (List Int)),([]:List Nat))
def nmL(n:Nat)(x:List Int):Prop:=∀k,k<x.length->0<=(x.getD k 0)/\(x.getD k 0)<n
def nmP(s:Sd)(f:Nat):Prop:=∀l,l<((s.2.1.getD f zA).2.1).length->nmL s.1.length ((((s.2.1.getD f zA).2.1).getD l []))
def xP(s:Sd):List (List (List Int)):=wS (λf=>(s.2.1.getD f zA).2.1) s.2.1.length
theorem kQ(s:Sd):(xP s).length=s.2.1.length:=yW _ _
theorem rC{s:Sd}{f:Nat}(h:f<s.2.1.length):((xP s).getD f [])=(s.2.1.getD f zA).2.1:=uE _ _ h
def zGN(ps:List Pt)(x:List Int):Nat->List Pt:=wS λk=>gp ps ((x.getD k 0)).toNat
def zIB(s:Sd)(f:Nat):Nat->List (List Pt):=wS λl=>zGN s.1 ((((s.2.1.getD f zA).2.1).getD l [])) ((((s.2.1.getD f zA).2.1).getD l [])).length
def xR(s:Sd)(f:Int):List (List Pt):=if(0<=f/\f<s.2.1.length)/\nmP s f.toNat then zIB s f.toNat ((s.2.1.getD f.toNat zA).2.1).length else[]
theorem yGN{s:Sd}{f:Int}(h:∀f,f<s.2.1.length->(s.2.1.getD f zA).2.1.length<=10000/\∀l,l<(s.2.1.getD f zA).2.1.length->((s.2.1.getD f zA).2.1.getD l []).length<=10000):(xR s f).length<=10000/\∀l,((xR s f).getD l []).length<=10000:=by
 unfold xR
 split
 · rename_i hf
   have h1:=h f.toNat zot;have h2:(zIB s f.toNat (s.2.1.getD f.toNat zA).2.1.length).length=(s.2.1.getD f.toNat zA).2.1.length:=yW _ _;refine⟨zot,λl=>?_⟩
   rcases zte l (s.2.1.getD f.toNat zA).2.1.length with h3|h3
   · unfold zIB
     rw[uE _ _ h3];unfold zGN;rw[yW];exact h1.2 l h3
   · rw[zoa,zre zot];exact zuu _
 · exact⟨zuu _,λl=>zuu _⟩
def flA(pl:Pl)(l:List Pt):Nat->List Pt:=wS λi=>jS pl (gp l i)
def flL(pl:Pl)(L:List (List Pt)):Nat->List (List Pt):=wS λi=>flA pl (gl L i) (gl L i).length
def kY(s:Sd)(f:Nat):List (List Pt):=flL ((s.2.1.getD f zA)).1 (xR s f) (xR s f).length
def dg(kind face loop edge:Int):E5:=(kind,(-1:Int),face,loop,edge)
def szP(s:Sd)(f:Nat):Prop:=¬vfP ((s.2.1.getD f zA).2.1)\/¬nmP s f
def zIK(s:Sd):Prop:=(512<s.1.length\/256<s.2.1.length)\/1024<s.2.2.length
def yJD(s:Sd):Nat->List E5:=bA (szP s) λf=>dg 1 f (-1) (-1)
def szZ(s:Sd):List E5:=if zIK s then yJD s s.2.1.length++[dg 2 (-1) (-1) (-1)] else yJD s s.2.1.length
def twP(s:Sd)(i:Nat):Prop:=∃k,k<i/\gp s.1 i=gp s.1 k
def zNC(s:Sd):Nat->List E5:=bA (twP s) λi=>dg 37 (-1) (-1) i
def zrP(s:Sd)(f:Nat):Prop:=((s.2.1.getD f zA)).1.1=zT
def zU5(s:Sd):Nat->List E5:=bA (zrP s) λf=>dg 9 f (-1) (-1)
def ofP(s:Sd)(f l k:Nat):Prop:=¬sdZ ((s.2.1.getD f zA)).1 (gp (gl (xR s f) l) k)=0
def ofX(s:Sd)(f l:Nat):Nat->List E5:=bA (ofP s f l) λk=>dg 31 f l k
def ofL(s:Sd)(f:Nat):Nat->List E5:=gP λl=>ofX s f l (gl (xR s f) l).length
def zRL(s:Sd):Nat->List E5:=gP λf=>ofL s f (xR s f).length
theorem mZ{s:Sd}{f:Int}(h:∀f,f<s.2.1.length->(s.2.1.getD f zA).2.1.length<=16/\∀l,l<(s.2.1.getD f zA).2.1.length->((s.2.1.getD f zA).2.1.getD l []).length<=64):(xR s f).length<=16/\∀l,((xR s f).getD l []).length<=64:=by
 unfold xR
 split
 · rename_i hf
   have h1:=h f.toNat zot;have h2:(zIB s f.toNat (s.2.1.getD f.toNat zA).2.1.length).length=(s.2.1.getD f.toNat zA).2.1.length:=yW _ _;refine⟨zot,λl=>?_⟩
   rcases zte l (s.2.1.getD f.toNat zA).2.1.length with h3|h3
   · unfold zIB
     rw[uE _ _ h3];unfold zGN;rw[yW];exact h1.2 l h3
   · rw[zoa,zre zot];exact zuu _
 · exact⟨zuu _,λl=>zuu _⟩
section
variable {s:Sd}(h:∀f,f<s.2.1.length->(s.2.1.getD f zA).2.1.length<=16/\∀l,l<(s.2.1.getD f zA).2.1.length->((s.2.1.getD f zA).2.1.getD l []).length<=64)
include h
theorem zGY(f:Nat):∀l,(ofL s f l).length<=64*l
  |0=>zbe _
  |l+1=>by
   have h1:=zGY f l;have h2:(ofX s f l ((xR s f).getD l []).length).length<=((xR s f).getD l []).length:=cJ _ _ _;have h3:=(mZ (f:=↑f) h).2 l
   show List.length (ofL s f l++ofX s f l ((xR s f).getD l []).length)<=_
   rw[lAz];omega
theorem yAC:∀f,f<=s.2.1.length->(zRL s f).length<=1024*f
  |0,_=>zbe _
  |f+1,hf=>by
   have h1:=yAC f zot;have h2:=zGY h f (xR s f).length;have h3:=(mZ (f:=↑f) h).1
   show List.length (zRL s f++ofL s f (xR s f).length)<=_
   rw[lAz];omega
end
def plZ(s:Sd):List E5:=if 0<(zU5 s s.2.1.length).length then zU5 s s.2.1.length else zRL s s.2.1.length
def zAK(L:List (List Pt)):Nat->Int
  |0=>0
  |m+1=>if 0<yQ (arZ (gl L m) 0 1) then zAK L m+1 else zAK L m
theorem zBS(L:List (List Pt)):∀m,0<=zAK L m/\zAK L m<=m
  |0=>by unfold zAK;omega
  |m+1=>by
   have h:=zBS L m;unfold zAK
   split<;>omega
theorem ou_t{L:List (List Pt)}{m:Nat}(h:0<yQ (arZ (gl L m) 0 1)):zAK L m+1=zAK L (m+1):=(zau h).symm
theorem ou_f{L:List (List Pt)}{m:Nat}(h:¬0<yQ (arZ (gl L m) 0 1)):zAK L m=zAK L (m+1):=(zae h).symm
def ouZ(L:List (List Pt)):Int:=zAK L L.length
def bnP(s:Sd)(f:Nat):Prop:=¬uC (kY s f) 0 1=0
def yDI(s:Sd):Nat->List E5:=bA (bnP s) λf=>dg (uC (kY s f) 0 1) f (-1) (-1)
def mnP(s:Sd)(f:Nat):Prop:=¬ouZ (kY s f)=1
def yKT(s:Sd):Nat->List E5:=bA (mnP s) λf=>dg 33 f (-1) (-1)
def neZ(s:Sd):List E5:=if 0<(yDI s s.2.1.length).length then yDI s s.2.1.length else yKT s s.2.1.length
theorem zOX(L:List (List Pt))(i j:Nat):0<=uC L i j/\uC L i j<=33:=by
 unfold uC
 repeat' split
 all_goals decide
theorem zCL(s:Sd)(f:Nat):(kY s f).length=(xR s ↑f).length/\∀l,((kY s f).getD l []).length=((xR s ↑f).getD l []).length:=by
 have h1:(kY s f).length=(xR s ↑f).length:=yW _ _;refine⟨h1,λl=>?_⟩
 rcases zte l (xR s ↑f).length with h|h
 · unfold kY flL
   rw[uE _ _ h];exact yW _ _
 · rw[zoa,zoa,zre zot,zre h]
def okS(s:Sd):Prop:=((s.1.length<=1000/\s.2.1.length<=1000)/\s.2.2.length<=2000)/\(∀f,f<s.2.1.length->(s.2.1.getD f zA).2.1.length<=16/\∀l,l<(s.2.1.getD f zA).2.1.length->((s.2.1.getD f zA).2.1.getD l []).length<=64)/\∀f,f<s.2.1.length->∀x,x∈kY s f->cA x
theorem okS.big{s:Sd}(h:okS s):∀f,f<s.2.1.length->(s.2.1.getD f zA).2.1.length<=10000/\∀l,l<(s.2.1.getD f zA).2.1.length->((s.2.1.getD f zA).2.1.getD l []).length<=10000:=λf hf=>⟨zci (h.2.1 f hf).1 zox,λl hl=>zci ((h.2.1 f hf).2 l hl) zox⟩
theorem okS.mem{s:Sd}(h:okS s):∀f,f<s.2.1.length->(s.2.1.getD f zA).2.1.length<=100000/\∀x,x∈(s.2.1.getD f zA).2.1->x.length<=100000:=λf hf=>⟨zci (h.2.1 f hf).1 zox,λx hx=>by
 obtain⟨m,hm,e⟩:=ygu hx;have:=(h.2.1 f hf).2 m hm;rw[zoa,zoc hm] at this;rw[<-e];exact zci this zox⟩
def yC9(s:Sd):List E5:=if 0<(szZ s).length then szZ s else if 0<(zNC s s.1.length).length then zNC s s.1.length else if 0<(plZ s).length then plZ s else if 0<(neZ s).length then neZ s else clZ (xP s)
def jQ(s:Sd):Prop:=(yC9 s).length=0
def lsP(p q:Pt):Prop:=p.x<q.x\/(p.x=q.x/\(p.y<q.y\/(p.y=q.y/\p.z<q.z)))
def cW:List Int->List Int->Int
  |[],[]=>0
  |[],_::_=>-1
  |_::_,[]=>1
  |x::a,y::b=>if x=y then cW a b else if x<y then -1 else 1
theorem zUP{i:Nat}:∀{a b:List Int},(∀u,u<i->(a.getD u 0)=(b.getD u 0))->i<a.length->i<b.length->¬(a.getD i 0)=(b.getD i 0)->cW a b=if(a.getD i 0)<(b.getD i 0) then -1 else 1:=by
 induction i with
 |zero=>
  intro a b _ ha hb hne
  match a,b,ha,hb with
  |x::a,y::b,_,_=>exact zae hne
 |succ i ih=>
  intro a b h ha hb hne
  match a,b,ha,hb with
  |x::a,y::b,ha,hb=>
   have h0:x=y:=h 0 zot
   show(if x=y then cW a b else _)=_
   rw[zau h0];exact ih (λu hu=>h (u+1) zot) (by simpa using ha) (by simpa using hb) hne
theorem zIF{i:Nat}:∀{a b:List Int},(∀u,u<i->(a.getD u 0)=(b.getD u 0))->i=min a.length b.length->cW a b=if a.length<b.length then -1 else if b.length<a.length then 1 else 0:=by
 induction i with
 |zero=>
  intro a b _ he
  match a,b with
  |[],[]=>rfl
  |[],_::_=>rfl
  |_::_,[]=>rfl
  |_::_,_::_=>simp at he
 |succ i ih=>
  intro a b h he
  match a,b with
  |[],_=>simp at he
  |_::_,[]=>simp at he
  |x::a,y::b=>
   have h0:x=y:=h 0 zot
   show(if x=y then cW a b else _)=_
   rw[zau h0,ih (λu hu=>h (u+1) zot) (by simp at he;omega)];simp only[lC,Nat.add_lt_add_iff_right]
theorem zA1:∀a b:List Int,-1<=cW a b/\cW a b<=1
  |[],[]=>⟨by show(-1:Int)<=0;decide,by show(0:Int)<=1;decide⟩
  |[],_::_=>⟨by show(-1:Int)<= -1;decide,by show(-1:Int)<=1;decide⟩
  |_::_,[]=>⟨by show(-1:Int)<=1;decide,by show(1:Int)<=1;decide⟩
  |x::a,y::b=>by
   show -1<=(if x=y then cW a b else if x<y then -1 else 1)/\(if x=y then cW a b else if x<y then -1 else 1)<=1
   split
   · exact zA1 a b
   · split<;>decide
def bC(x:List Int):Nat->Nat
  |0=>0
  |m+1=>if(x.getD m 0)<(x.getD (bC x m) 0) then m else bC x m
theorem yHH(x:List Int):∀m,bC x m<m\/bC x m=0
  |0=>.inr rfl
  |m+1=>by
   have h:=yHH x m;unfold bC
   split<;>omega
theorem mn_t{x:List Int}{m:Nat}(h:(x.getD m 0)<(x.getD (bC x m) 0)):m=bC x (m+1):=(zau h).symm
theorem mn_f{x:List Int}{m:Nat}(h:¬(x.getD m 0)<(x.getD (bC x m) 0)):bC x m=bC x (m+1):=(zae h).symm
def zVW(x:List Int):List Int:=x.drop (bC x x.length)++x.take (bC x x.length)
def zW1:List (List Int)->List (List Int)->Prop
  |[],[]=>False
  |[],_::_=>True
  |_::_,[]=>False
  |x::a,y::b=>if cW x y=0 then zW1 a b else cW x y<0
theorem yFT{i:Nat}:∀{a b:List (List Int)},(∀u,u<i->cW ((a.getD u [])) ((b.getD u []))=0)->i<a.length->i<b.length->¬cW ((a.getD i [])) ((b.getD i []))=0->(zW1 a b↔cW ((a.getD i [])) ((b.getD i []))<0):=by
 induction i with
 |zero=>
  intro a b _ ha hb hne
  match a,b,ha,hb with
  |x::a,y::b,_,_=>exact Iff.of_eq (zae hne)
 |succ i ih=>
  intro a b h ha hb hne
  match a,b,ha,hb with
  |x::a,y::b,ha,hb=>
   have h0:cW x y=0:=h 0 zot
   show(if cW x y=0 then zW1 a b else _)↔_
   rw[zau h0];exact ih (λu hu=>h (u+1) zot) (by simpa using ha) (by simpa using hb) hne
theorem yA8{i:Nat}:∀{a b:List (List Int)},(∀u,u<i->cW ((a.getD u [])) ((b.getD u []))=0)->i=min a.length b.length->(zW1 a b↔a.length<b.length):=by
 induction i with
 |zero=>
  intro a b _ he
  match a,b with
  |[],[]=>exact⟨False.elim,λh=>absurd h (ytu _)⟩
  |[],_::_=>exact⟨λ_=>yme _,λ_=>trivial⟩
  |_::_,[]=>exact⟨False.elim,λh=>absurd h (z0i _)⟩
  |_::_,_::_=>simp at he
 |succ i ih=>
  intro a b h he
  match a,b with
  |[],_=>simp at he
  |_::_,[]=>simp at he
  |x::a,y::b=>
   have h0:cW x y=0:=h 0 zot
   show(if cW x y=0 then zW1 a b else _)↔_
   rw[zau h0,ih (λu hu=>h (u+1) zot) (by simp at he;omega)];simp only[lC,Nat.add_lt_add_iff_right]
def lsF(a b:Fc):Prop:=if a.2.2=b.2.2 then zW1 a.2.1 b.2.1 else lsN a.2.2 b.2.2
theorem ls_x{p q:Pt}(h:¬xZ p.x q.x=0):xZ p.x q.x<0↔lsP p q:=by
 unfold lsP;rw[oA];rw[aV] at h;exact⟨.inl,λe=>e.elim id λe=>absurd e.1 h⟩
theorem ls_y{p q:Pt}(h:xZ p.x q.x=0)(h2:¬xZ p.y q.y=0):xZ p.y q.y<0↔lsP p q:=by
 unfold lsP;rw[oA];rw[aV] at h h2;have:=@Rat.lt_irrefl p.x;exact⟨λe=>.inr ⟨h,.inl e⟩,λe=>e.elim (λe=>absurd (h▸e) this) λe=>e.2.elim id λe=>absurd e.1 h2⟩
theorem ls_z{p q:Pt}(h:xZ p.x q.x=0)(h2:xZ p.y q.y=0)(h3:¬xZ p.z q.z=0):xZ p.z q.z<0↔lsP p q:=by
 unfold lsP;rw[oA];rw[aV] at h h2;have D:=@Rat.lt_irrefl p.x;have C:=@Rat.lt_irrefl p.y;exact⟨λe=>.inr ⟨h,.inr ⟨h2,e⟩⟩,λe=>e.elim (λe=>absurd (h▸e) D) λe=>e.2.elim (λe=>absurd (h2▸e) C) λe=>e.2⟩
theorem yNT{p q:Pt}(h:xZ p.x q.x=0)(h2:xZ p.y q.y=0)(h3:xZ p.z q.z=0):¬lsP p q:=by
 rw[aV] at h h2 h3;have H:=@Rat.lt_irrefl p.x;have D:=@Rat.lt_irrefl p.y;have C:=@Rat.lt_irrefl p.z;exactλe=>e.elim (λe=>absurd (h▸e) H) λe=>e.2.elim (λe=>absurd (h2▸e) D) λe=>absurd (h3▸e.2) C
theorem yNV{p q:Pt}{i:Nat}(hi:i<3)(h:∀u,u<i->xZ (p.at u) (q.at u)=0)(hn:¬xZ (p.at i) (q.at i)=0):xZ (p.at i) (q.at i)<0↔lsP p q:=by
 match i,hi with
 |0,_=>exact ls_x hn
 |1,_=>exact ls_y (h 0 zox) hn
 |2,_=>exact ls_z (h 0 zox) (h 1 zox) hn
theorem yKY{p q:Pt}(h:∀u,u<3->xZ (p.at u) (q.at u)=0):¬lsP p q:=yNT (h 0 zox) (h 1 zox) (h 2 zox)
def ivA(x:Rat):Rat:=if iB x=0 then 0 else((1:Int):Rat)/iB x
def scW(r:Rat)(pl:Pl):Pl:=(T3.mk (r*pl.1.x) (r*pl.1.y) (r*pl.1.z),r*pl.2)
def scZ(pl:Pl):Pl:=if ¬yQ pl.1.x=0 then scW (ivA pl.1.x) pl else if ¬yQ pl.1.y=0 then scW (ivA pl.1.y) pl else if ¬yQ pl.1.z=0 then scW (ivA pl.1.z) pl else zV4
theorem yM7{pl:Pl}{i:Nat}(hi:i<3)(h:∀u,u<i->yQ (pl.1.at u)=0)(hn:¬yQ (pl.1.at i)=0):scW (ivA (pl.1.at i)) pl=scZ pl:=by
 unfold scZ
 match i,hi with
 |0,_=>exact(zau hn).symm
 |1,_=>exact((zae (λe=>e (h 0 zox))).trans (zau hn)).symm
 |2,_=>exact((zae (λe=>e (h 0 zox))).trans ((zae (λe=>e (h 1 zox))).trans (zau hn))).symm
theorem yJN{pl:Pl}(h:∀u,u<3->yQ (pl.1.at u)=0):zV4=scZ pl:=by
 unfold scZ;exact((zae (λe=>e (h 0 zox))).trans ((zae (λe=>e (h 1 zox))).trans (zae (λe=>e (h 2 zox))))).symm
def lD(x:List Int):Nat->List Int:=wS λi=>x.getD (x.length-1-i) 0
def zKU(E:List E5)(m i:Nat):Prop:=∃q,q<m/\(E.getD q ((0:Int),(0:Int),(0:Int),(0:Int),(0:Int))).1=(i:Int)
theorem zX1{E:List E5}{m n:Nat}{U:List Prop}(hl:U.length=n)(h:∀u,u<n->(U.getD u False↔zKU E m u))(h0:0<=(E.getD m ((0:Int),(0:Int),(0:Int),(0:Int),(0:Int))).1)(h1:(E.getD m ((0:Int),(0:Int),(0:Int),(0:Int),(0:Int))).1<n):∀u,u<n->((U.set (E.getD m ((0:Int),(0:Int),(0:Int),(0:Int),(0:Int))).1.toNat True).getD u False↔zKU E (m+1) u):=by
 intro u D;rw[zoa,y2i];have hx:zKU E (m+1) u↔zKU E m u\/(E.getD m ((0:Int),(0:Int),(0:Int),(0:Int),(0:Int))).1=(u:Int):=by
  constructor
  · rintro⟨q,C,e⟩
    rcases zhu.1 C with h|h
    · exact .inl ⟨q,h,e⟩
    · subst h;exact .inr e
  · rintro(⟨q,C,e⟩|e)
    · exact⟨q,zot,e⟩
    · exact⟨m,zot,e⟩
 rw[hx]
 split
 · rename_i e
   rw[zau zot];exact⟨λ_=>.inr zot,λ_=>trivial⟩
 · rename_i e
   have:=h u D;rw[zoa] at this;rw[this];exact⟨.inl,λh=>h.resolve_right zot⟩
def nmA(s:Sd):Prop:=∀f,f<s.2.1.length->nmP s f
theorem zXE{s:Sd}(h:nmA s){q:Nat}(hq:q<(edZ (xP s)).length):0<=((edZ (xP s)).getD q ((0:Int),(0:Int),(0:Int),(0:Int),(0:Int))).1/\((edZ (xP s)).getD q ((0:Int),(0:Int),(0:Int),(0:Int),(0:Int))).1<s.1.length:=by
 have C:=kJ (d:=((0:Int),(0:Int),(0:Int),(0:Int),(0:Int))) hq;generalize (edZ (xP s)).getD q ((0:Int),(0:Int),(0:Int),(0:Int),(0:Int))=e at C ⊢;obtain⟨f,hf,C⟩:=zH3 C;obtain⟨l,D,C⟩:=zH3 C;obtain⟨i,hi,rfl⟩:=zTV C;rw[kQ] at hf;have H:(xP s).getD f []=(s.2.1.getD f zA).2.1:=uE _ _ hf;rw[H] at D hi ⊢;exact h f hf l D i hi
theorem yGK{s:Sd}(h:okS s):(edZ (xP s)).length<=1100000:=by
 have h1:=zCO (F:=xP s) (λf hf=>by rw[kQ] at hf;rw[rC hf];exact h.2.1 f hf) _ (zbe _);rw[kQ] at h1;have h2:=h.1.1.2
 show(edF (xP s) (xP s).length).length<=_
 rw[kQ];omega
def zV9(s:Sd)(out:List Int)(i k:Nat):Prop:=lsP (gp s.1 i) (gp s.1 (out.getD k 0).toNat)
def aL(s:Sd):Nat->List Int
  |0=>[]
  |i+1=>if zKU (edZ (xP s)) (edZ (xP s)).length i then dM (aL s i) (aO (zV9 s (aL s i) i) (aL s i).length) (i:Int) else aL s i
theorem zRJ(s:Sd):∀i,(aL s i).length<=i
  |0=>zbe _
  |i+1=>by
   have:=zRJ s i;unfold aL
   split
   · rw[zHV _ _ (zFS _ _)];omega
   · omega
theorem zLN{s:Sd}{x:Int}:∀{i},x∈aL s i->0<=x/\x<i
  |0,h=>absurd h zge
  |i+1,h=>by
   unfold aL at h
   split at h
   · unfold dM at h
     rcases zmu.1 h with h|h
     · have:=zLN (z2e h);omega
     · rcases zfu.1 h with rfl|h
       · omega
       · have:=zLN (z7i h);omega
   · have:=zLN h;omega
theorem oT{s:Sd}{i k:Nat}(h:k<(aL s i).length):0<=(aL s i).getD k 0/\(aL s i).getD k 0<i:=zLN (kJ h)
def nwL(s:Sd)(ix:List Int)(f i:Nat):Nat->List Int:=wS λq=>ix.getD (((s.2.1.getD f zA).2.1.getD i []).getD q 0).toNat 0
def nfL(s:Sd)(ix:List Int)(f i:Nat):List Int:=zVW (nwL s ix f i ((s.2.1.getD f zA).2.1.getD i []).length)
def zE3(s:Sd)(f i:Nat):Prop:=0<yQ (arZ (gl (kY s f) i) 0 1)
def ouL(s:Sd)(ix:List Int)(f:Nat):Nat->List (List Int):=bA (zE3 s f) (nfL s ix f)
def yB1(l:List Int)(D:List (List Int))(k:Nat):Prop:=cW l (D.getD k [])<0
def zAX(s:Sd)(ix:List Int)(f:Nat):Nat->List (List Int)
  |0=>[]
  |i+1=>if zE3 s f i then zAX s ix f i else dM (zAX s ix f i) (aO (yB1 (nfL s ix f i) (zAX s ix f i)) (zAX s ix f i).length) (nfL s ix f i)
theorem zSK(s:Sd)(ix:List Int)(f:Nat):∀i,(zAX s ix f i).length<=i
  |0=>zbe _
  |i+1=>by
   have:=zSK s ix f i;unfold zAX
   split
   · omega
   · rw[zHV _ _ (zFS _ _)];omega
def nfF(s:Sd)(ix:List Int)(f:Nat):Fc:=(scZ (s.2.1.getD f zA).1,ouL s ix f (s.2.1.getD f zA).2.1.length++zAX s ix f (s.2.1.getD f zA).2.1.length,(s.2.1.getD f zA).2.2)
theorem zSQ{s:Sd}{f:Nat}(hf:f<s.2.1.length)(h:nmP s f):xR s ↑f=zIB s f (s.2.1.getD f zA).2.1.length:=zau ⟨zot,h⟩
theorem yLK{s:Sd}{f:Nat}(hf:f<s.2.1.length)(h:nmP s f):(kY s f).length=(s.2.1.getD f zA).2.1.length:=by
 rw[(zCL s f).1,zSQ hf h];exact yW _ _
def fU(s:Sd):List Int:=aL s s.1.length
def zI3(s:Sd):Nat->List Int
  |0=>List.replicate s.1.length (0:Int)
  |i+1=>(zI3 s i).set ((fU s).getD i 0).toNat (i:Int)
theorem zDU(s:Sd):∀i,(zI3 s i).length=s.1.length
  |0=>yde
  |i+1=>by unfold zI3;rw[lS];exact zDU s i
def ixZ(s:Sd):List Int:=zI3 s (fU s).length
def yAO(s:Sd):Nat->List Pt:=wS λi=>gp s.1 ((fU s).getD i 0).toNat
def zSB(x:Fc)(D:List Fc)(k:Nat):Prop:=lsF x (D.getD k zA)
def zAO(s:Sd):Nat->List Fc
  |0=>[]
  |f+1=>dM (zAO s f) (aO (zSB (nfF s (ixZ s) f) (zAO s f)) (zAO s f).length) (nfF s (ixZ s) f)
theorem zRY(s:Sd):∀f,(zAO s f).length=f
  |0=>rfl
  |f+1=>by
   unfold zAO;rw[zHV _ _ (zFS _ _),zRY s f]
def nrP(s:Sd):List Pt:=if jQ s then yAO s (fU s).length else[]
def nrF(s:Sd):List Fc:=if jQ s then zAO s s.2.1.length else[]
def nrE(s:Sd):List En:=if jQ s then s.2.2 else[]
theorem yJF{s:Sd}(h:jQ s):nmA s:=by
 have h1:(szZ s).length=0:=by
  unfold jQ yC9 at h
  split at h
  · omega
  · omega
 have h2:szZ s=[]:=zof h1;unfold szZ at h2
 split at h2
 · exact absurd h2 zo3
 · intro f hf
   exact zdu λe=>(oN _).1 h2 f hf (.inr e)
theorem zHA{s:Sd}(h:okS s){ix:List Int}{f:Nat}(hf:f<s.2.1.length):(nfF s ix f).2.1.length<=100:=by
 have h1:=cJ (zE3 s f) (nfL s ix f) (s.2.1.getD f zA).2.1.length;have h2:=zSK s ix f (s.2.1.getD f zA).2.1.length;have h3:=(h.2.1 f hf).1
 show List.length (ouL s ix f _++zAX s ix f _)<=_
 rw[lAz];have C:(ouL s ix f (s.2.1.getD f zA).2.1.length).length<=(s.2.1.getD f zA).2.1.length:=h1;omega
theorem yBU{α:Type}{p:α->Prop}{l:List α}{k:Nat}{x:α}(h:∀y,y∈l->p y)(hx:p x):∀y,y∈dM l k x->p y:=by
 intro y hy;unfold dM at hy
 rcases zmu.1 hy with hy|hy
 · exact h y (z2e hy)
 · rcases zfu.1 hy with rfl|hy
   · exact hx
   · exact h y (z7i hy)
theorem yAK{s:Sd}(h:okS s):∀f,f<=s.2.1.length->∀x,x∈zAO s f->x.2.1.length<=100
  |0,_,x,hx=>absurd hx zge
  |f+1,hf,x,hx=>yBU (p:=λx:Fc=>x.2.1.length<=100) (yAK h f zot) (zHA h zot) x hx
end Bk
namespace Go.Proofs.YtpkaegemlpaenaaGreat
open Bk Go Tryz
attribute [local irreducible] GL GC GQ W OpV
section
variable{w0:World}{h0:Mem}(hs:MLe h0 (mem w0))
include hs
theorem zIV{vL:Value}{L:(List (List Int))}(rL:tII.Is h0 vL L)(H0:L.length<=100000)(H1:∀x,x∈L->x.length<=100000):
 y8i 99 #[vL] w0 h0 (λh r=>tII.Is h r L):=by
 refine cb1 20 vL func99 hs ?_;refine nY ?_;refine xJ 22 1 ?_;have aa:=RL.nil (ρ:=rpS rpI) (h:=h0);refine gcL (ι:=Nat×List (List Int)×Value×List Value×Mem) (λ(i,D,C,H,mi)=>(MLe h0 mi/\(RL (rpS rpI) mi H D/\i<=L.length/\D=L.take i),[(0,vL),(3,C),(4,vI ↑i)],[.gs 22 1 C D.length H],mi,L.length-i)) (0,[],(.slice none 0 0),[],h0) ?_ ?_
 · exact⟨mle,aa,zot,I⟩
 rintro⟨i,D,C,H,mi⟩ ⟨an,J,ba,hD⟩
 refine yY ?_;have bc:=zPJ H1 i;have az:D.length<=i:=by rw[hD,zei];omega
 refine gc9 (λam=>?_) λam=>?_
 ·
  refine go8 ?_;refine lX (xI [] i underlying51 fL rL) λav aj=>(lX (xA fL aj) λau ai=>(zDY 3 1 ?_));have Z:=RL.nil (ρ:=rpI) (h:=mi);refine xQ (A:=[]) (zR (ρ:=rpI) (bytes:=8) underlying22 jV I I I I nP I I Z ai bO bO) I I I ?_
  rintro ar ay ⟨ap,rfl,ad⟩
  refine zQ (A:=[]) (ρ:=rpI) ad ?_;intro h1 ak U;refine zG (zL (ρ:=(rpS rpI)) (m:=1) (xs:=[(([]:List Int)++(L.getD i []))]) (ps':=[(0,_)]) underlying51 jF I I I wC e2z (zD I (y5e (y5u _) [] 0 dC) U zN) zoj nP) I I I ?_
  rintro aq ax ⟨ao,rfl,ac⟩
  refine zQ (A:=[]) (ρ:=(rpS rpI)) ac ?_;intro h2 bb O;refine xQ (A:=[]) (zR (ρ:=(rpS rpI)) (bytes:=24) underlying51 jF I I I I nP I I J.up O bO bO) I I I ?_
  rintro ah aw ⟨ae,rfl,ab⟩
  refine go9 ?_;refine gqL ((i+1),(D++[(([]:List Int)++(L.getD i []))]),ah,ae,h2) ?_ ?_
  · exact⟨mle,ab,zot,by rw[hD,zhe];exact(zJJ [] oM).symm⟩
  omega
 have ei:i=L.length:=by omega
 refine qC ?_;refine wW (A:=[]) (ρ:=(rpS rpI)) J.up ?_;intro h1 ak M;refine zC I I ?_;exact(Rp.Is.cast M (by rw[hD,ei,z6i]))
theorem zJ4{k m n j:Nat}{vs:Value}{s:Sq}(rs:(tSd k m n j).Is h0 vs s)(H0:s.2.1.length<=100000)(H1:∀f,f<s.2.1.length->(s.2.1.getD f zA).2.1.length<=100000/\∀x,x∈(s.2.1.getD f zA).2.1->x.length<=100000):
 y8i 136 #[vs] w0 h0 (λh r=>(rpS tII).Is h r (xP s)):=by
 refine cb1 23 vs func136 hs ?_;refine go2 ?_;refine nB rs λb1 ao ab=>(cD ?_);refine xJ 51 1 ?_;have U:=RL.nil (ρ:=rpS (rpS rpI)) (h:=h0);refine gcL (ι:=Nat×List (List (List Int))×Value×List Value×Mem) (λ(f,D,C,H,mf)=>(MLe h0 mf/\(RL tII mf H D/\f<=s.2.1.length/\D=wS (λf=>(s.2.1.getD f zA).2.1) f),[(1,vP b1 0),(3,C),(4,vI ↑f)],[.gs 51 1 C D.length H,.var b1 39 ao],mf,s.2.1.length-f)) (0,[],(.slice none 0 0),[],h0) ?_ ?_
 · exact⟨mle,U,zot,I⟩
 rintro⟨f,D,C,H,mf⟩ ⟨ap,J,bd,hD⟩
 refine yY ?_;have bb:D.length=f:=by rw[hD];exact yW _ _
 refine go5 ?_;refine lX (xB fN (y6u (y6i pH)) ab) λv7 r7=>(gc4 (λan=>?_) λan=>?_)
 ·
  refine go7 ?_;refine lX (xB fN (y6u (y6i pH)) ab) λay ak=>(go1 ?_);refine lX (xI zA f underlying36 bE ak) λax aj=>(lX (xF underlying53 sizeOf51 (y6u (y6i pH)) aj) λaw ai=>(lX (xA cC ai) λav ah=>(cL (ev1 I) call99 (λw hs=>zIV hs ah (by first|omega|exact(H1 f oM).1|exact(H1 f oM).2) (by first|omega|exact(H1 f oM).1|exact(H1 f oM).2)) λau h1 am ae=>(zG (zL (ρ:=tII) (m:=1) (xs:=[(((s.2.1.getD f zA).2).1)]) (ps':=[(0,_)]) underlying165 yBW I I I wC e2z (zD I (y5e (y5u _) [] 0 dC) ae zN) zoj nP) I I I ?_))))
  rintro ar ba ⟨aq,rfl,aa⟩
  refine zQ (A:=[]) (ρ:=tII) aa ?_;intro h2 bc O;refine xQ (A:=[]) (zR (ρ:=tII) (bytes:=24) underlying165 yBW I I I I nP I I J.up O bO bO) I I I ?_
  rintro ad az ⟨ac,rfl,Z⟩
  refine go9 ?_;refine gqL ((f+1),(D++[(((s.2.1.getD f zA).2).1)]),ad,ac,h2) ?_ ?_
  · exact⟨mle,Z,zot,by rw[hD];rfl⟩
  omega
 have ef:f=s.2.1.length:=by omega
 refine qC ?_;refine wW (A:=[]) (ρ:=tII) J.up ?_;intro h1 am M;refine zC I I ?_;exact(Rp.Is.cast M (by rw[hD,ef];rfl))
theorem zJ3{k m n j:Nat}{vs:Value}{s:Sq}(rs:(tSd k m n j).Is h0 vs s){f:Int}(hf1:-9223372036854775808<=f)(hf2:f<9223372036854775808)(H0:0<=f)(H1:f<↑s.2.1.length)(H2:(s.2.1.getD f.toNat zA).2.1.length<=100000)(H3:∀l,l<(s.2.1.getD f.toNat zA).2.1.length->((s.2.1.getD f.toNat zA).2.1.getD l []).length<=100000):
 y8i 158 #[vs,vI f] w0 h0 (λ_ r=>r=vB (nmP s f.toNat)):=by
 refine cb2 50 vs (vI f) func158 hs ?_;refine go2 ?_;refine nB rs λb2 ac J=>(go6 ?_);refine lX (xB fN (y6u (y6i pH)) J) λv9 r9=>(go1 ?_);refine lX (xI zA f.toNat underlying36 bE r9) λbm ar=>(lX (xF underlying53 sizeOf51 (y6u (y6i pH)) ar) λbl aq=>(lX (xA cC aq) λH D=>(uR ?_)));refine gcL (ι:=Nat×Mem) (λ(l,O)=>(MLe h0 O/\(l<=(s.2.1.getD f.toNat zA).2.1.length/\∀u,u<l->nmL s.1.length ((s.2.1.getD f.toNat zA).2.1.getD u [])),[(2,vP b2 0),(5,H),(6,vI ↑l)],[.var b2 39 ac],O,(s.2.1.getD f.toNat zA).2.1.length-l)) (0,h0) ?_ ?_
 · exact⟨mle,zot,λu h=>by omega⟩
 rintro⟨l,O⟩ ⟨ax,bp,U⟩
 refine yY ?_;refine gc9 (λab=>?_) λab=>?_
 ·
  refine uR ?_;refine gcL (ι:=Nat×Mem) (λ(i,M)=>(MLe O M/\(i<=((s.2.1.getD f.toNat zA).2.1.getD l []).length/\∀u,u<i->0<=((s.2.1.getD f.toNat zA).2.1.getD l []).getD u 0/\((s.2.1.getD f.toNat zA).2.1.getD l []).getD u 0<↑s.1.length),[(2,vP b2 0),(5,H),(6,vI ↑l),(7,vI ↑i)],[.var b2 39 ac],M,((s.2.1.getD f.toNat zA).2.1.getD l []).length-i)) (0,O) ?_ ?_
  · exact⟨mle,zot,λu h=>by omega⟩
  rintro⟨i,M⟩ ⟨aw,bq,hi2⟩
  refine yY ?_;have bo:=H3 l oM;refine go6 ?_;refine lX (xI [] l underlying51 fL D) λbk ap=>(lX (xA fL ap) λbj bn=>(gc4 (λaa=>?_) λaa=>?_))
  ·
   refine go5 ?_;refine zJ 21 _ [] (zai 0 21 []) zX nX (wL zou) nX (λr hr=>hr) (go2 ?_);refine wX I (xI [] l underlying51 fL D) λbi ao=>(wX I (xA fL ao) λbh an=>(go1 ?_));refine wX I (xI (0:Int) i underlying22 ty3 an) λbg am=>(wX I (xA ty3 am) λbf ak=>?_);obtain⟨rfl,az,av⟩:=kX ak;refine go2 ?_;refine jZ ((((((s.2.1.getD f.toNat zA).2).1).getD l []).getD i (0:Int))<(0:Int)) (λC=>?_) (λC=>?_)
   ·
    rw[xW C];refine go30 ?_;refine zC I I ?_;exact(yM (λe=>by have:=e l oM i oM;omega)).symm
   rw[yM C];refine yV I I I (λh' L' hh hR=>xG I) I (yV I I I (λh' L' hh hR=>xG I) I (oX I (xI [] l underlying51 fL D) λbe aj=>(oX I (xA fL aj) λbd ai=>(yV I I I (λh' L' hh hR=>xG I) I (oX I (xI (0:Int) i underlying22 ty3 ai) λbc ah=>(oX I (xA ty3 ah) λbb ae=>?_))))));obtain⟨rfl,ay,au⟩:=kX ae;refine go1 ?_;refine oX I (xB uQ (y6i pH) J) λba ad=>(yV I I I (λh' L' hh hR=>jN underlying35 I (ad.mono hh)) I (gc4 (λZ=>?_) λZ=>?_))
   ·
    refine cD ?_;refine zC I I ?_;exact(yM (λe=>by have:=e l oM i oM;omega)).symm
   refine go8 ?_;refine gqL ((i+1),M) ?_ ?_
   · exact⟨mle,zot,vZ (Q:=λu=>0<=((s.2.1.getD f.toNat zA).2.1.getD l []).getD u 0/\((s.2.1.getD f.toNat zA).2.1.getD l []).getD u 0<↑s.1.length) hi2 oM⟩
   omega
  refine qE ?_;refine gqL ((l+1),M) ?_ ?_
  · exact⟨mle,zot,vZ (Q:=λu=>nmL s.1.length ((s.2.1.getD f.toNat zA).2.1.getD u [])) U (λu hu=>hi2 u oM)⟩
  omega
 refine qE ?_;refine zC I I ?_;exact(xW (λu hu=>U u oM)).symm
theorem zEQ{k m n j:Nat}{vs:Value}{s:Sq}(rs:(tSd k m n j).Is h0 vs s){f:Int}(hf1:-9223372036854775808<=f)(hf2:f<9223372036854775808)(H0:s.1.length<=100000)(H1:∀f,f<s.2.1.length->(s.2.1.getD f zA).2.1.length<=10000/\∀l,l<(s.2.1.getD f zA).2.1.length->((s.2.1.getD f zA).2.1.getD l []).length<=10000):
 y8i 118 #[vs,vI f] w0 h0 (λh r=>(tLL (k+1)).Is h r (xR s f)):=by
 refine cb2 65 vs (vI f) func118 hs ?_;refine go2 ?_;refine nB rs λb2 an ab=>(go8 ?_);refine gU 7 18 (vB ((f<(0:Int))\/((↑(s.2.1).length:Int)<=f))) ?_ ?_
 ·
  refine zY (f<(0:Int)) (λhg=>?_) (λhg=>?_)
  ·
   refine gT hg I (go7 ?_);refine gqU ?_;exact y4e (uH hg)
  refine gF hg I (go5 ?_);refine lX (xB fN (y6u (y6i pH)) ab) λct cv=>(go6 ?_);refine gqU ?_;exact y4e (uJ hg)
 refine qH (ι:=Mem) 6 (λm_=>MLe h0 m_) (λ_=>[(24,vB (((f<(0:Int))\/((↑(s.2.1).length:Int)<=f))\/(¬(nmP s f.toNat)))),(1,vI f),(2,vP b2 0)]) (λ_=>[.var b2 39 an]) (λm_=>m_) ?_ ?_
 ·
  refine zY ((f<(0:Int))\/((↑(s.2.1).length:Int)<=f)) (λhg=>?_) (λhg=>?_)
  ·
   refine gT hg I (go6 ?_);refine zU h0 (MLe.refl _) ⟨?_,I,I,y5i⟩ I I;exact y4e (uH hg)
  refine gF hg I (go1 ?_);refine lX (xB jP pH ab) λcq bt=>(go3 ?_);refine cL (ev2 I I) call158 (λw hs=>zJ3 hs bt oM oM oM (by first|omega|exact zci (H1 f.toNat oM).1 dC|exactλl hl=>zci ((H1 f.toNat oM).2 l hl) dC) (by first|omega|exact zci (H1 f.toNat oM).1 dC|exactλl hl=>zci ((H1 f.toNat oM).2 l hl) dC) (by first|omega|exact zci (H1 f.toNat oM).1 dC|exactλl hl=>zci ((H1 f.toNat oM).2 l hl) dC)) λbg h1 ac bs=>?_;obtain rfl:bg=vB (nmP s f.toNat):=bs;refine go4 ?_;refine zU h1 ac ⟨?_,I,I,y5i⟩ I I;exact y4e (uJ hg)
 intro M ay;refine rA ?_;refine gc2 (λaa=>?_) λaa=>?_
 ·
  refine go7 ?_;refine zC I I ?_;exact(Rp.Is.cast (eL _) (by exact(zae (λe=>aa.elim (λh=>by omega) (λh=>h e.2))).symm))
 have aw:(0<=f/\f<↑s.2.1.length)/\nmP s f.toNat:=by constructor;exact oM;exact zdi (λe=>aa (.inr e))
 have ax:∀l,l<(s.2.1.getD f.toNat zA).2.1.length->∀q,q<((s.2.1.getD f.toNat zA).2.1.getD l []).length->0<=((s.2.1.getD f.toNat zA).2.1.getD l []).getD q 0/\((s.2.1.getD f.toNat zA).2.1.getD l []).getD q 0<↑s.1.length:=λl hl q hq=>aw.2 l hl q hq;have az:=H1 f.toNat oM;refine uR ?_;refine lX (xB fN (y6u (y6i pH)) ab) λcp br=>(go1 ?_);refine lX (xI zA f.toNat underlying36 bE br) λco bq=>(lX (xF underlying53 sizeOf51 (y6u (y6i pH)) bq) λcn bp=>(lX (xA cC bp) λao av=>(uR ?_)));refine xJ 35 1 ?_;have ak:=RL.nil (ρ:=rpS (tPt (k+1))) (h:=M);refine gcL (ι:=Nat×List (List Tq)×Value×List Value×Mem) (λ(l,D,C,H,ml)=>(MLe M ml/\(RL (tLs (k+1)) ml H D/\l<=(s.2.1.getD f.toNat zA).2.1.length/\D=zIB s f.toNat l),[(2,vP b2 0),(5,C),(6,ao),(7,vI ↑l)],[.gs 35 1 C D.length H,.var b2 39 an],ml,(s.2.1.getD f.toNat zA).2.1.length-l)) (0,[],(.slice none 0 0),[],M) ?_ ?_
 · exact⟨mle,ak,zot,I⟩
 rintro⟨l,D,C,H,ml⟩ ⟨bx,Z,de,hD⟩
 refine yY ?_;have dd:D.length=l:=by rw[hD];exact yW _ _
 refine gc9 (λbb=>?_) λbb=>?_
 ·
  refine dQ ?_;refine xJ 31 9 ?_;have aj:=RL.nil (ρ:=rpT (rpQ (k+1))) (h:=ml);refine gcL (ι:=Nat×List Tq×Value×List Value×Mem) (λ(q,YY,J,O,mq)=>(MLe ml mq/\(RL (tPt (k+1)) mq O YY/\q<=((s.2.1.getD f.toNat zA).2.1.getD l []).length/\YY=zGN s.1 ((s.2.1.getD f.toNat zA).2.1.getD l []) q),[(2,vP b2 0),(5,C),(6,ao),(7,vI ↑l),(8,J),(9,vI ↑q)],[.gs 31 9 J YY.length O,.gs 35 1 C D.length H,.var b2 39 an],mq,((s.2.1.getD f.toNat zA).2.1.getD l []).length-q)) (0,[],(.slice none 0 0),[],ml) ?_ ?_
  · exact⟨mle,aj,zot,I⟩
  rintro⟨q,YY,J,O,mq⟩ ⟨bw,U,db,am⟩
  refine yY ?_;have dc:YY.length=q:=by rw[am];exact yW _ _
  have bu:=az.2 l oM;refine go6 ?_;refine lX (xI [] l underlying51 fL av) λcm bo=>(lX (xA fL bo) λcl cu=>(gc4 (λba=>?_) λba=>?_))
  ·
   refine go4 ?_;refine qJ (A:=[]) 15 [] (zai 0 12 [(12,.c),(13,.c),(14,.q)]) zX nX (wL zou) nX (go2 ?_);refine wX I (xB uQ (y6i pH) ab) λck bn=>(go2 ?_);refine wX I (xI [] l underlying51 fL av) λcj bm=>(wX I (xA fL bm) λci bl=>(go1 ?_));refine wX I (xI (0:Int) q underlying22 ty3 bl) λch bk=>(wX I (xA ty3 bk) λcg bj=>?_);obtain⟨rfl,bz,bv⟩:=kX bj;refine cY (F:=λv_=>AtP (tPt k) mq v_ (s.1.getD ((((s.2.1.getD f.toNat zA).2.1.getD l []).getD q 0).toNat) zT)) I (tT zT ((((s.2.1.getD f.toNat zA).2.1.getD l []).getD q 0).toNat) underlying35 zK I I bn (by(have h:=ax l oM q oM;omega)) (by(have h:=ax l oM q oM;omega)) nP) j5 I ?_;intro cf bi;refine wX I (xA zK bi) λce bh=>?_;refine w_c I (jR (λX=>zL (ρ:=(tPt (k+1))) (m:=1) (xs:=[(s.1.getD ((((s.2.1.getD f.toNat zA).2.1.getD l []).getD q 0).toNat) zT)]) (ps':=[(0,_)]) underlying35 yK I I I (yR (yE oM)) e2z (zD I (y5e (y5u _) zT 0 dC) (bh.le (Le.t (Le.q (l:=k+1) oM))) zN) zok nP) I ?_)
   rintro cd da ⟨cb,rfl,au⟩
   refine w_c I (xY (A:=[]) (ρ:=(tPt (k+1))) au dK ?_);intro h1 ac ai;refine fK (A:=[]) (λX=>zR (ρ:=(tPt (k+1))) (bytes:=168) underlying35 yK I I I I nP I I U.up ai bO bO) I (xO zoy) ?_
   rintro bf cz ⟨bd,rfl,ar⟩
   refine go9 ?_;refine gqL ((q+1),(YY++[(s.1.getD ((((s.2.1.getD f.toNat zA).2.1.getD l []).getD q 0).toNat) zT)]),bf,bd,h1) ?_ ?_
   · exact⟨mle,ar,zot,by rw[am];rfl⟩
   omega
  have eq:q=((s.2.1.getD f.toNat zA).2.1.getD l []).length:=by omega
  have bu:=az.2 l oM;refine go8 ?_;refine zQ (A:=[]) (ρ:=(tPt (k+1))) U.up ?_;intro h1 ac ah;refine zG (zL (ρ:=(tLs (k+1))) (m:=1) (xs:=[YY]) (ps':=[(0,_)]) underlying76 aI I I I wC e2z (zD I (y5e (y5u _) [] 0 dC) ah zN) zoj nP) I I I ?_
  rintro cc cy ⟨ca,rfl,aq⟩
  refine zQ (A:=[]) (ρ:=(tLs (k+1))) aq ?_;intro h2 df ae;refine xQ (A:=[]) (zR (ρ:=(tLs (k+1))) (bytes:=24) underlying76 aI I I I I nP I I Z.up ae bO bO) I I I ?_
  rintro be cw ⟨bc,rfl,ap⟩
  refine go9 ?_;refine gqL ((l+1),(D++[YY]),be,bc,h2) ?_ ?_
  · exact⟨mle,ap,zot,by rw[hD,am,eq];rfl⟩
  omega
 have el:l=(s.2.1.getD f.toNat zA).2.1.length:=by omega
 refine qC ?_;refine wW (A:=[]) (ρ:=(tLs (k+1))) Z.up ?_;intro h1 ac ad;refine zC I I ?_;exact(Rp.Is.cast ad (by rw[hD,el];exact(zau aw).symm))
theorem zE4{m n k:Nat}{vpl:Value}{pl:Pq}(rpl:(tPl m n).Is h0 vpl pl){vl:Value}{l:(List Tq)}(rl:(tLs k).Is h0 vl l)(H0:k<=100000000)(H1:m<=100000000)(H2:n<=100000000)(H3:l.length<=100000):
 y8i 187 #[vpl,vl] w0 h0 (λh r=>(tLs (k+1)).Is h r (flA pl l l.length)):=by
 refine cb2 23 vpl vl func187 hs ?_;refine go2 ?_;refine nB rpl λb2 an ae=>(cD ?_);refine xJ 31 9 ?_;have U:=RL.nil (ρ:=rpT (rpQ (k+1))) (h:=h0);refine gcL (ι:=Nat×List Tq×Value×List Value×Mem) (λ(i,D,C,H,mi)=>(MLe h0 mi/\(RL (tPt (k+1)) mi H D/\i<=l.length/\D=flA pl l i),[(1,vl),(2,vP b2 0),(5,C),(6,vI ↑i)],[.gs 31 9 C D.length H,.var b2 50 an],mi,l.length-i)) (0,[],(.slice none 0 0),[],h0) ?_ ?_
 · exact⟨mle,U,zot,I⟩
 rintro⟨i,D,C,H,mi⟩ ⟨ao,J,az,hD⟩
 refine yY ?_;have bb:D.length=i:=by rw[hD];exact yW _ _
 refine gc9 (λab=>?_) λab=>?_
 ·
  refine go4 ?_;refine qJ (A:=[]) 10 [] (zai 0 6 [(6,.c),(7,.c),(8,.c),(9,.q)]) zX nX zou nX (go1 ?_);refine wX I (xB lW pH ae) λaw ak=>(go2 ?_);refine wX I (xI zT i underlying35 zK rl) λav aj=>(wX I (xA zK aj) λau ai=>?_);refine w_c I (sC (ev2 I I) call112 (λw hs=>zLP hs ak ai oM oM) λar h1 am ah=>?_);refine w_c I (jR (λX=>zL (ρ:=(tPt (k+1))) (m:=1) (xs:=[jS pl (l.getD i zT)]) (ps':=[(0,_)]) underlying35 yK I I I (yR (yE oM)) e2z (zD I (y5e (y5u _) zT 0 dC) ah zN) zok nP) I ?_)
  rintro aq ay ⟨ap,rfl,aa⟩
  refine w_c I (xY (A:=[]) (ρ:=(tPt (k+1))) aa dK ?_);intro h2 ba O;refine fK (A:=[]) (λX=>zR (ρ:=(tPt (k+1))) (bytes:=168) underlying35 yK I I I I nP I I J.up O bO bO) I (xO zoy) ?_
  rintro ad ax ⟨ac,rfl,Z⟩
  refine go9 ?_;refine gqL ((i+1),(D++[jS pl (l.getD i zT)]),ad,ac,h2) ?_ ?_
  · exact⟨mle,Z,zot,by rw[hD];rfl⟩
  omega
 have ei:i=l.length:=by omega
 refine qC ?_;refine wW (A:=[]) (ρ:=(tPt (k+1))) J.up ?_;intro h1 am M;refine zC I I ?_;exact(Rp.Is.cast M (by rw[hD,ei]))
theorem zBW{m n k:Nat}{vpl:Value}{pl:Pq}(rpl:(tPl m n).Is h0 vpl pl){vL:Value}{L:(List (List Tq))}(rL:(tLL k).Is h0 vL L)(H0:k<=100000000)(H1:m<=100000000)(H2:n<=100000000)(H3:L.length<=100000)(H4:∀l,l<L.length->(L.getD l []).length<=10000):
 y8i 151 #[vpl,vL] w0 h0 (λh r=>(tLL (k+1)).Is h r (flL pl L L.length)):=by
 refine cb2 23 vpl vL func151 hs ?_;refine go2 ?_;refine nB rpl λb2 an ae=>(cD ?_);refine xJ 35 1 ?_;have U:=RL.nil (ρ:=rpS (tPt (k+1))) (h:=h0);refine gcL (ι:=Nat×List (List Tq)×Value×List Value×Mem) (λ(i,D,C,H,mi)=>(MLe h0 mi/\(RL (tLs (k+1)) mi H D/\i<=L.length/\D=flL pl L i),[(1,vL),(2,vP b2 0),(5,C),(6,vI ↑i)],[.gs 35 1 C D.length H,.var b2 50 an],mi,L.length-i)) (0,[],(.slice none 0 0),[],h0) ?_ ?_
 · exact⟨mle,U,zot,I⟩
 rintro⟨i,D,C,H,mi⟩ ⟨ao,J,az,hD⟩
 refine yY ?_;have bb:D.length=i:=by rw[hD];exact yW _ _
 refine gc9 (λab=>?_) λab=>?_
 ·
  refine go4 ?_;refine qJ (A:=[]) 10 [] (zai 0 6 [(6,.c),(7,.c),(8,.c),(9,.q)]) zX nX zou nX (go1 ?_);refine wX I (xB lW pH ae) λaw ak=>(go2 ?_);refine wX I (xI [] i underlying76 uQ rL) λav aj=>(wX I (xA uQ aj) λau ai=>?_);refine w_c I (sC (ev2 I I) call187 (λw hs=>zE4 hs ak ai oM oM oM (by first|omega|exact zci (H4 i oM) dC)) λar h1 am ah=>?_);refine w_c I (jR (λX=>zL (ρ:=(tLs (k+1))) (m:=1) (xs:=[flA pl (L.getD i []) (L.getD i []).length]) (ps':=[(0,_)]) underlying76 aI I I I wC e2z (zD I (y5e (y5u _) [] 0 dC) ah zN) zoj nP) I ?_)
  rintro aq ay ⟨ap,rfl,aa⟩
  refine w_c I (xY (A:=[]) (ρ:=(tLs (k+1))) aa dK ?_);intro h2 ba O;refine fK (A:=[]) (λX=>zR (ρ:=(tLs (k+1))) (bytes:=24) underlying76 aI I I I I nP I I J.up O bO bO) I (xO zoy) ?_
  rintro ad ax ⟨ac,rfl,Z⟩
  refine go9 ?_;refine gqL ((i+1),(D++[flA pl (L.getD i []) (L.getD i []).length]),ad,ac,h2) ?_ ?_
  · exact⟨mle,Z,zot,by rw[hD];rfl⟩
  omega
 have ei:i=L.length:=by omega
 refine qC ?_;refine wW (A:=[]) (ρ:=(tLs (k+1))) J.up ?_;intro h1 am M;refine zC I I ?_;exact(Rp.Is.cast M (by rw[hD,ei]))
theorem zON{k m n j:Nat}{vs:Value}{s:Sq}(rs:(tSd k m n j).Is h0 vs s){f:Nat}(H0:k<=1000)(H1:m<=100000)(H2:n<=100000)(H3:s.1.length<=100000)(H4:∀f,f<s.2.1.length->(s.2.1.getD f zA).2.1.length<=10000/\∀l,l<(s.2.1.getD f zA).2.1.length->((s.2.1.getD f zA).2.1.getD l []).length<=10000)(H5:f<s.2.1.length)(H6:s.2.1.length<=100000):
 y8i 111 #[vs,vI ↑f] w0 h0 (λh r=>(tLL (k+2)).Is h r (kY s f)):=by
 have C:=yGN (s:=s) (f:=↑f) H4;refine cb2 15 vs (vI ↑f) func111 hs ?_;refine go2 ?_;refine nB rs λb2 ae H=>(go4 ?_);refine zJ 11 _ [] (zai 0 8 [(8,.c),(9,.c),(10,.q)]) zX nX zou nX (λr hr=>hr) (go1 ?_);refine wX I (xB fN (y6u (y6i pH)) H) λv6 r6=>(go1 ?_);refine wX I (xI zA f underlying36 bE r6) λv8 r8=>(wX I (xF underlying53 sizeOf50 (y6i pH) r8) λv9 r9=>(wX I (xA lW r9) λab O=>(wX I (xB jP pH H) λaa M=>(go1 ?_))));refine w_c I (sC (ev2 I I) call118 (λw hs=>zEQ hs M oM oM (by first|omega|exact H4) (by first|omega|exact H4)) λZ h1 ad J=>?_);refine w_c I (sC (ev2 I I) call151 (λw hs=>zBW hs O.up J oM oM oM (by first|omega|exact C.1|exactλl hl=>C.2 l) (by first|omega|exact C.1|exactλl hl=>C.2 l)) λU h2 ac D=>?_);replace D:=Rp.Is.le D (Le.s (Le.s (Le.t (Le.q (l:=k+2) oM))));refine go4 ?_;refine zC I I ?_;exact D
theorem zAN{kind:Int}(hkind1:-9223372036854775808<=kind)(hkind2:kind<9223372036854775808){face:Int}(hface1:-9223372036854775808<=face)(hface2:face<9223372036854775808){loop:Int}(hloop1:-9223372036854775808<=loop)(hloop2:loop<9223372036854775808){edge:Int}(hedge1:-9223372036854775808<=edge)(hedge2:edge<9223372036854775808):
 y8i 179 #[vI kind,vI face,vI loop,vI edge] w0 h0 (λh r=>tE5.Is h r (dg kind face loop edge)):=by
 refine jT (n:=14) (e:=[(0,vI kind),(1,vI face),(2,vI loop),(3,vI edge)]) (vs:=[vI kind,vI face,vI loop,vI edge]) func179 rfl rfl (bL rfl) hs e4z (go2 ?_);refine nA (ρ:=tE5) (X:=e50) kD (yA wQ (yA wQ (yA wQ (yA wQ wQ)))) λb8 aa J=>(go8 ?_);refine lX (xV (ρ:=tE5) (xN (ps':=[(0,_),(1,_),(2,_),(3,_),(4,_)]) underlying200 kD I I (zDF underlying200) ⟨I,I,I,I,I,I,I,I,I,I,y5i⟩ I (yA wQ (yA wQ (yA wQ (yA wQ wQ)))) (zD I (y6i (y5u _)) (wM oM oM) (zD I (y6u (y6i (y5u _))) (wM dC dC) (zD I (y6u (y6u (y6i (y5u _)))) (wM oM oM) (zD I (y6u (y6u (y6u (y6i (y5u _))))) (wM oM oM) (zD I (y6u (y6u (y6u (y6u (y5u _))))) (wM oM oM) zN))))))) λZ M=>(zP (A:=[]) (uB sizeOf200 pH J M) λO H=>(go3 ?_));refine wG (jG (t:=8) yMT mh0 I H) ?_;intro U C D;refine yN (λE S=>zS I C E S) ?_;exact D
theorem yAJ{k l:Nat}{vp:Value}{p:Tq}(rp:(tPt k).Is h0 vp p){vq:Value}{q:Tq}(rq:(tPt l).Is h0 vq q)(H0:k<=100000000)(H1:l<=100000000):
 y8i 137 #[vp,vq] w0 h0 (λ_ r=>r=vB (lsP p q)):=by
 refine cb2 22 vp vq func137 hs ?_;refine go2 ?_;refine nB rp λH ae O=>(nB rq λD ad M=>(uR ?_));refine gcL (ι:=Nat×Mem) (λ(i,ma)=>(MLe h0 ma/\(i<=3/\∀u,u<i->xZ (p.at u) (q.at u)=0),[(2,vP H 0),(3,vP D 0),(5,vI ↑i)],[.var D 31 ad,.var H 31 ae],ma,3-i)) (0,h0) ?_ ?_
 · exact⟨mle,zot,λu h=>by omega⟩
 rintro⟨i,ma⟩ ⟨ah,ak,hi2⟩
 refine yY ?_;refine gc7 (λac=>?_) λac=>?_
 ·
  refine go5 ?_;refine zJ 8 _ [] (zai 0 6 [(6,.c),(7,.q)]) zX nX zou nX (λr hr=>hr) (go1 ?_);refine wZ I (λ_ _=>(zW (sz:=3) i underlying31 sizeOf29 I I I oM).cv (show _=vP H ((i*3+0)) from zbi (vP H) oM)) I (wX I (xB yC (Pc.ta pH i oM) O) λaj aa=>(go1 ?_));refine wZ I (λ_ _=>(zW (sz:=3) i underlying31 sizeOf29 I I I oM).cv (show _=vP D ((i*3+0)) from zbi (vP D) oM)) I (wX I (xB yC (Pc.ta pH i oM) M) λai Z=>?_);refine w_c I (sC (ev2 I I) call17 (λw hs=>tK hs aa Z oM) λJ h1 am U=>?_);obtain rfl:J=vI (xZ (p.at i) (q.at i)):=U;have ab:=jC (p.at i) (q.at i);refine gc9 (λC=>?_) λC=>?_
  ·
   refine rS ?_;refine zC I I ?_;exact kS (yNV oM hi2 C)
  refine go8 ?_;refine gqL ((i+1),h1) ?_ ?_
  · exact⟨mle,zot,vZ (Q:=λu=>xZ (p.at u) (q.at u)=0) hi2 (zdi C)⟩
  omega
 have ei:i=3:=by omega
 refine qE ?_;refine zC I I ?_;exact(yM (yKY λu hu=>hi2 u oM)).symm
theorem zER{va:Value}{a:(List Int)}(ra:(rpS rpI).Is h0 va a){vb:Value}{b:(List Int)}(rb:(rpS rpI).Is h0 vb b):
 y8i 139 #[va,vb] w0 h0 (λ_ r=>r=vI (cW a b)):=by
 have be:=yNA ra;have bd:=yNA rb;refine cb2 48 va vb func139 hs ?_;refine qC ?_;refine gcL (ι:=Nat×Mem) (λ(i,U)=>(MLe h0 U/\((i<=a.length/\i<=b.length)/\∀u,u<i->a.getD u 0=b.getD u 0),[(0,va),(1,vb),(5,vI ↑i)],[],U,a.length-i)) (0,h0) ?_ ?_
 · exact⟨mle,zot,λu h=>by omega⟩
 rintro⟨i,U⟩ ⟨ao,bf,hi2⟩
 refine yY ?_;refine go7 ?_;refine gU 6 15 (vB (((↑i:Int)<(↑(a).length:Int))/\((↑i:Int)<(↑(b).length:Int)))) ?_ ?_
 ·
  refine zY ((↑i:Int)<(↑(a).length:Int)) (λH=>?_) (λH=>?_)
  ·
   refine gT H I (uR ?_);refine gqU ?_;exact y4e (xD H)
  refine gF H I (go6 ?_);refine gqU ?_;exact y4e (xE H)
 refine gc2 (λO=>?_) λO=>?_
 ·
  refine go5 ?_;refine zJ 9 _ [] (zai 0 9 []) zX nX zou nX (λr hr=>hr) (go2 ?_);refine wX I (xI (0:Int) i underlying22 ty3 ra) λbc ai=>(wX I (xA ty3 ai) λbb ah=>?_);obtain⟨rfl,au,an⟩:=kX ah;refine go2 ?_;refine wX I (xI (0:Int) i underlying22 ty3 rb) λba ae=>(wX I (xA ty3 ae) λaz ad=>?_);obtain⟨rfl,ar,am⟩:=kX ad;refine gc3 (λC=>?_) λC=>?_
  ·
   refine go2 ?_;refine zJ 9 _ [] (zai 0 9 []) zX nX zou nX (λr hr=>hr) (go2 ?_);refine wX I (xI (0:Int) i underlying22 ty3 ra) λay ac=>(wX I (xA ty3 ac) λax ab=>?_);obtain⟨rfl,aq,ak⟩:=kX ab;refine go2 ?_;refine wX I (xI (0:Int) i underlying22 ty3 rb) λaw aa=>(wX I (xA ty3 aa) λav Z=>?_);obtain⟨rfl,ap,aj⟩:=kX Z;refine gc3 (λD=>?_) λD=>?_
   ·
    refine qC ?_;refine zC I I ?_;refine zbi vI ?_;rw[zUP hi2 oM oM C,zau D]
   refine rS ?_;refine zC I I ?_;refine zbi vI ?_;rw[zUP hi2 oM oM C,zae D]
  refine go8 ?_;refine gqL ((i+1),U) ?_ ?_
  · exact⟨mle,zot,vZ (Q:=λu=>a.getD u 0=b.getD u 0) hi2 (zdi C)⟩
  omega
 have ei:i=min a.length b.length:=by omega
 refine nY ?_;refine cnd (λM=>?_) λM=>?_
 ·
  refine go8 ?_;refine zC I I ?_;refine zbi vI ?_;rw[zIF hi2 ei,zau oM]
 refine zAY (λJ=>?_) λJ=>?_
 ·
  refine go8 ?_;refine zC I I ?_;refine zbi vI ?_;rw[zIF hi2 ei,zae oM,zau oM]
 refine go9 ?_;refine zC I I ?_;refine zbi vI ?_;rw[zIF hi2 ei,zae oM,zae oM]
theorem zRQ{vx:Value}{x:(List Int)}(rx:(rpS rpI).Is h0 vx x)(H0:x.length<=100000):
 y8i 138 #[vx] w0 h0 (λh r=>(rpS rpI).Is h r (zVW x)):=by
 refine cb1 29 vx func138 hs ?_;refine nY ?_;refine gcL (ι:=Nat×Mem) (λ(i,D)=>(MLe h0 D/\(i<=x.length),[(0,vx),(3,vI ↑(bC x i)),(4,vI ↑i)],[],D,x.length-i)) (0,h0) ?_ ?_
 · exact⟨mle,oM⟩
 rintro⟨i,D⟩ ⟨am,U⟩
 refine yY ?_;have be:=U;have bd:=yHH x i;refine gc9 (λai=>?_) λai=>?_
 ·
  refine go5 ?_;refine zJ 9 _ [] (zai 0 9 []) zX nX zou nX (λr hr=>hr) (go2 ?_);refine wX I (xI (0:Int) i underlying22 ty3 rx) λba ah=>(wX I (xA ty3 ah) λaz ae=>?_);obtain⟨rfl,ao,ak⟩:=kX ae;refine go2 ?_;refine wX I (xI (0:Int) (bC x i) underlying22 ty3 rx) λay ad=>(wX I (xA ty3 ad) λax ac=>?_);obtain⟨rfl,an,aj⟩:=kX ac;refine gc3 (λC=>?_) λC=>?_
  ·
   refine qE ?_;refine gqL ((i+1),D) ?_ ?_ (he:=⟨I,zbi (λz:Nat=>some (vI ↑z)) (mn_t C),I,y5i⟩)
   · exact⟨mle,oM⟩
   omega
  refine go8 ?_;refine gqL ((i+1),D) ?_ ?_ (he:=⟨I,zbi (λz:Nat=>some (vI ↑z)) (mn_f C),I,y5i⟩)
  · exact⟨mle,oM⟩
  omega
 have ei:i=x.length:=by omega
 refine go6 ?_;refine zJ 9 _ [] [(0,.q),(1,.q),(2,.q),(4,.q),(5,.q),(6,.q),(3,.c),(7,.c),(8,.q)] zX nX zou nX (λr hr=>hr) (go2 ?_);refine cY (F:=λZ=>(rpS rpI).Is D Z (x.drop (bC x i))) I (zQ8 (ρ:=rpI) (bC x i) underlying22 sizeOf3 I I rx.up oM oM) j5 I ?_;intro aw ab;refine go2 ?_;refine cY (F:=λZ=>(rpS rpI).Is D Z (x.take (bC x i))) I (zQ9 (ρ:=rpI) (bC x i) underlying22 sizeOf3 I I rx.up oM oM) j5 I ?_;intro au aa;refine w_c I (iU 3 1 ?_);have J:=RL.nil (ρ:=rpI) (h:=D);refine fK (A:=[]) (λX=>zR (ρ:=rpI) (bytes:=8) underlying22 jV I I I I nP I I J ab zo7 zo7) I (xO zoy) ?_
 rintro av bc ⟨aq,rfl,O⟩
 refine w_c I (fK (A:=[]) (λX=>zR (ρ:=rpI) (bytes:=8) underlying22 jV I I I I nP I I O aa zo7 zo7) I (xO zoy) ?_)
 rintro ar bb ⟨ap,rfl,M⟩
 refine go4 ?_;refine wW (A:=[]) (ρ:=rpI) M ?_;intro h1 bf H;refine zC I I ?_;exact(Rp.Is.cast H (by rw[ei,zhe];rfl))
theorem zLT{m n k l:Nat}{va:Value}{a:(Pq×((List (List Int))×(List Nat)))}(ra:(tFc m n).Is h0 va a){vb:Value}{b:(Pq×((List (List Int))×(List Nat)))}(rb:(tFc k l).Is h0 vb b)(H0:a.2.1.length<=100000)(H1:b.2.1.length<=100000):
 y8i 91 #[va,vb] w0 h0 (λ_ r=>r=vB (lsF a b)):=by
 refine cb2 53 va vb func91 hs ?_;refine go2 ?_;refine nB ra λb2 av D=>(nB rb λb3 au C=>(go7 ?_));refine lX (xB ty9 (y6u (y6u pH)) D) λv8 r8=>?_;obtain⟨rfl,ar⟩:=kU r8;refine go1 ?_;refine lX (xB ty9 (y6u (y6u pH)) C) λbj ap=>?_;obtain⟨rfl,ab⟩:=kU ap;refine gv (zZ0 (pa:=a.2.2) (pb:=b.2.2) ar ab I I) I (gc2 (λJ=>?_) λJ=>?_)
 ·
  refine go3 ?_;refine lX (xB ty9 (y6u (y6u pH)) D) λbi ao=>?_;obtain⟨rfl,aa⟩:=kU ao;refine go1 ?_;refine lX (xB ty9 (y6u (y6u pH)) C) λbh an=>?_;obtain⟨rfl,Z⟩:=kU an;refine gv (zZ3 (pa:=a.2.2) (pb:=b.2.2) aa Z I I) I (go5 ?_);refine zC I I ?_;exact kS (Iff.of_eq (zae J).symm)
 have M:a.2.2=b.2.2:=zdi J;refine go9 ?_;refine gcL (ι:=Nat×Mem) (λ(i,ma)=>(MLe h0 ma/\((i<=a.2.1.length/\i<=b.2.1.length)/\∀u,u<i->cW (a.2.1.getD u []) (b.2.1.getD u [])=0),[(2,vP b2 0),(3,vP b3 0),(5,vI ↑i)],[.var b3 53 au,.var b2 53 av],ma,a.2.1.length-i)) (0,h0) ?_ ?_
 · exact⟨mle,zot,λu h=>by omega⟩
 rintro⟨i,ma⟩ ⟨aw,bo,hi2⟩
 refine yY ?_;refine go5 ?_;refine lX (xB cC (y6u (y6i pH)) D) λbg bn=>(go2 ?_);refine gU 7 28 (vB (((↑i:Int)<(↑(a.2.1).length:Int))/\((↑i:Int)<(↑(b.2.1).length:Int)))) ?_ ?_
 ·
  refine zY ((↑i:Int)<(↑(a.2.1).length:Int)) (λO=>?_) (λO=>?_)
  ·
   refine gT O I (go5 ?_);refine lX (xB cC (y6u (y6i pH)) C) λbf bm=>(go6 ?_);refine gqU ?_;exact y4e (xD O)
  refine gF O I (go7 ?_);refine gqU ?_;exact y4e (xE O)
 refine gc2 (λU=>?_) λU=>?_
 ·
  refine go5 ?_;refine zJ 12 _ [] (zai 0 10 [(10,.c),(11,.q)]) zX nX (wL zou) nX (λr hr=>hr) (go1 ?_);refine wX I (xB cC (y6u (y6i pH)) D) λbe am=>(go1 ?_);refine wX I (xI [] i underlying51 fL am) λbd ak=>(wX I (xA fL ak) λbc aj=>(go1 ?_));refine wX I (xB cC (y6u (y6i pH)) C) λbb ai=>(go1 ?_);refine wX I (xI [] i underlying51 fL ai) λba ah=>(wX I (xA fL ah) λaz ae=>?_);refine w_c I (sC (ev2 I I) call139 (λw hs=>zER hs aj ae) λac h1 bp ad=>?_);obtain rfl:ac=vI (cW (a.2.1.getD i []) (b.2.1.getD i [])):=ad;have aq:=zA1 (a.2.1.getD i []) (b.2.1.getD i []);refine gc9 (λH=>?_) λH=>?_
  ·
   refine rS ?_;refine zC I I ?_;exact kS ((yFT hi2 oM oM H).symm.trans (Iff.of_eq (zau M).symm))
  refine go8 ?_;refine gqL ((i+1),h1) ?_ ?_
  · exact⟨mle,zot,vZ (Q:=λu=>cW (a.2.1.getD u []) (b.2.1.getD u [])=0) hi2 (zdi H)⟩
  omega
 have ei:i=min a.2.1.length b.2.1.length:=by omega
 refine go8 ?_;refine lX (xB cC (y6u (y6i pH)) D) λay bl=>(go2 ?_);refine lX (xB cC (y6u (y6i pH)) C) λax bk=>(go6 ?_);refine zC I I ?_;exact kS (Iff.trans oM ((yA8 hi2 ei).symm.trans (Iff.of_eq (zau M).symm)))
theorem zJ0{m n:Nat}{vs:Value}{s:Pq}(rs:(tPl m n).Is h0 vs s)(H0:m<=10000000)(H1:n<=10000000):
 y8i 66 #[vs] w0 h0 (λh r=>(tPl (4*m+10) (m+n+10)).Is h r (scZ s)):=by
 refine cb1 36 vs func66 hs ?_;refine go2 ?_;refine nB rs λb1 bf H=>(nA (ρ:=(tPl 1 1)) (X:=(zT,(0:Rat))) rK (yA (yR (yE dC)) (yE dC)) λb2 be aj=>(go9 ?_));refine gcL (ι:=Nat×Mem) (λ(i,ma)=>(MLe h0 ma/\(i<=3/\∀u,u<i->yQ (s.1.at u)=0),[(1,vP b1 0),(2,vP b2 0),(3,vI ↑i)],[.var b2 50 be,.var b1 50 bf],ma,3-i)) (0,h0) ?_ ?_
 · exact⟨mle,zot,λu h=>by omega⟩
 rintro⟨i,ma⟩ ⟨bh,bz,hi2⟩
 refine yY ?_;refine gc7 (λbc=>?_) λbc=>?_
 ·
  refine go8 ?_;refine gv ((zW (sz:=3) i underlying31 sizeOf29 I I I oM).cv (show _=vP b1 ((i*3+0)) from zbi (vP b1) oM)) I (lX (xB yC (y6i (Pc.ta pH i oM)) H) λbx ba=>(cL (ev1 I) call48 (λw hs=>uS hs ba oM) λak h1 cf az=>?_));obtain rfl:ak=vI (yQ (s.1.at i)):=az;have bb:=xC (s.1.at i);refine gc3 (λD=>?_) λD=>?_
  ·
   refine go1 ?_;refine zJ 13 _ [(10,(4,29,[.bool false,.slice none 0 0,.slice none 0 0]))] (zai 1 4 [(0,.c),(5,.c),(6,.c),(7,.q),(8,.q),(9,.q),(10,.a),(11,.c),(12,.q)]) zX (jD.cons I I (uM xU I I) jD.nil) (wL zou) (uN I I kF) (λr hr=>hr) (go2 ?_);refine wZ I (λ_ _=>(zW (sz:=3) i underlying31 sizeOf29 I I I oM).cv (show _=vP b1 ((i*3+0)) from zbi (vP b1) oM)) I (wX I (xB yC (y6i (Pc.ta pH i oM)) H) λbv ax=>?_);refine w_c I (sC (vs:=[vI (1)]) ⟨I,y5i⟩ call27 (λw hs=>qP hs dC dC) λbw h2 ce ay=>?_);refine w_c I (sC (ev1 I) call103 (λw hs=>zRN hs ax.up oM) λbu h3 cd aw=>?_);refine w_c I (sC (ev2 I I) call81 (λw hs=>zRM hs ay.up aw oM) λbt h4 cc av=>?_);obtain⟨O,rfl,C⟩:=av
   change (rpQ (2+m)).Is h4 O (if(iB (s.1.at i))=0 then 0 else(((1:Int):Int):Rat)/(iB (s.1.at i))) at C
   replace C:=Rp.Is.le C (Le.q (l:=m+2) oM);refine go3 ?_;refine w_a I I (λb4=>?_);have am:(rpQ 1).R h4 [.bool false,.slice none 0 0,.slice none 0 0] (0:Rat):=(yE dC);refine w_c I ?_;have ah:=(Le.q (l:=m+2) oM).R am;refine bF (A:=[]) (uB sizeOf29 pH ah C) (xO zoy) λbj M=>(go4 ?_);refine zJ 9 _ [] [(0,.q),(1,.q),(2,.q),(4,.q),(5,.q),(6,.q),(3,.c),(7,.c),(8,.q),(9,.t)] zX nX zou nX (λr hr=>hr) (wX I (xB yC pH M) λbs au=>(go1 ?_));refine wX I (xB zK (y6i pH) H) λbr ar=>(wX I (xB yC pH M) λbp aq=>(go1 ?_));refine wX I (xB yC (y6u pH) H) λbo ap=>?_;refine w_c I (sC (ev2 I I) call20 (λw hs=>zG4 hs au ar oM) λbq h5 cb ac=>?_);replace ac:=Rp.Is.le ac (Le.t (Le.q (l:=4*m+7) oM));refine w_c I (sC (ev2 I I) call53 (λw hs=>jA hs aq.up ap.up oM) λbn h6 ca ab=>?_);replace ab:=Rp.Is.le ab (Le.q (l:=m+n+2) oM);refine wX I (xV (ρ:=(tPl (4*m+7) (m+n+2))) (xN (ps':=[(0,_),(1,_)]) underlying50 rK I I (sL underlying50) e4z I (yA (yR (yE oM)) (yE oM)) (zD I (y6i (y5u _)) ac.up (zD I (y6u (y5u _)) ab zN)))) λbm ao=>?_;have ae:=(Le.p (Le.t (Le.q (l:=4*m+7) oM)) (Le.q (l:=m+n+2) oM)).R aj;refine yG (A:=[_]) I (uB sizeOf50 pH ae ao) λbi ai=>(go8 ?_);refine wG (jG (t:=2) lW mh1 I ai) ?_;intro bk ad Z;refine yN (λE S=>zS I ad E S) ?_;exact(Rp.Is.cast (Rp.Is.le Z (Le.p (Le.t (Le.q (l:=4*m+10) oM)) (Le.q (l:=m+n+10) oM))) (by exact yM7 oM hi2 D))
  refine go8 ?_;refine gqL ((i+1),h1) ?_ ?_
  · exact⟨mle,zot,vZ (Q:=λu=>yQ (s.1.at u)=0) hi2 (zdi D)⟩
  omega
 have ei:i=3:=by omega
 refine go7 ?_;refine lX (xV (ρ:=(tPl 1 1)) (xN (ps':=[]) underlying50 rK I I (sL underlying50) trivial I (yA (yR (yE dC)) (yE dC)) zN)) λbl an=>(zP (A:=[]) (uB sizeOf50 pH aj an) λbd aa=>(go3 ?_));refine wG (jG (t:=2) lW mh0 I aa) ?_;intro bg J U;refine yN (λE S=>zS I J E S) ?_;exact(Rp.Is.cast (Rp.Is.le U (Le.p (Le.t (Le.q (l:=4*m+10) oM)) (Le.q (l:=m+n+10) oM))) (by exact yJN λu hu=>hi2 u oM))
theorem zEP{vx:Value}{x:(List Int)}(rx:(rpS rpI).Is h0 vx x)(H0:x.length<=100000):
 y8i 67 #[vx] w0 h0 (λh r=>(rpS rpI).Is h r (lD x x.length)):=by
 refine cb1 20 vx func67 hs ?_;refine go20 ?_;refine xJ 3 1 ?_;have U:=RL.nil (ρ:=rpI) (h:=h0);refine gcL (ι:=Nat×List Int×Value×List Value×Mem) (λ(i,D,C,H,ma)=>(MLe h0 ma/\(RL rpI ma H D/\i<=x.length/\D=lD x i),[(0,vx),(3,C),(4,vI (↑x.length-1-↑i))],[.gs 3 1 C D.length H],ma,x.length-i)) (0,[],(.slice none 0 0),[],h0) ?_ ?_ (he:=⟨I,I,zbi (λz=>some (vI z)) oM,y5i⟩)
 · exact⟨mle,U,zot,I⟩
 rintro⟨i,D,C,H,ma⟩ ⟨ak,J,av,hD⟩
 refine yY ?_;have aw:D.length=i:=by rw[hD];exact yW _ _
 refine gc7 (λai=>?_) λai=>?_
 ·
  refine go8 ?_;refine lX (xI (0:Int) (x.length-1-i) underlying22 ty3 rx) λaq ae=>(lX (xA ty3 ae) λap ad=>?_);obtain⟨rfl,am,aj⟩:=kX ad;refine zG (zL (ρ:=rpI) (m:=1) (xs:=[(x.getD (x.length-1-i) (0:Int))]) (ps':=[(0,_)]) underlying22 jV I I I wQ e2z (zD I (y5e (y5u _) (0:Int) 0 dC) (wM oM oM) zN) zoj nP) I I I ?_
  rintro ao au ⟨an,rfl,aa⟩
  refine zQ (A:=[]) (ρ:=rpI) aa ?_;intro h1 ah O;refine xQ (A:=[]) (zR (ρ:=rpI) (bytes:=8) underlying22 jV I I I I nP I I J.up O bO bO) I I I ?_
  rintro ac ar ⟨ab,rfl,Z⟩
  refine go9 ?_;refine gqL ((i+1),(D++[(x.getD (x.length-1-i) (0:Int))]),ac,ab,h1) ?_ ?_ (he:=⟨I,I,zbi (λz=>some (vI z)) oM,y5i⟩)
  · exact⟨mle,Z,zot,by rw[hD];rfl⟩
  omega
 have ei:i=x.length:=by omega
 refine qC ?_;refine wW (A:=[]) (ρ:=rpI) J.up ?_;intro h1 ah M;refine zC I I ?_;exact(Rp.Is.cast M (by rw[hD,ei]))
theorem zWK{k m n j:Nat}{vs:Value}{s:Sq}(rs:(tSd k m n j).Is h0 vs s)(H0:k<=1000)(H1:okS s)(H2:nmA s):
 y8i 89 #[vs] w0 h0 (λh r=>(rpS rpI).Is h r (aL s s.1.length)):=by
 have dx:=H1.1.1.1;have dw:=H1.1.1.2;have be:=kQ s;refine cb1 80 vs func89 hs ?_;refine go2 ?_;refine nB rs λb1 ba aj=>(go6 ?_);refine lX (xB uQ (y6i pH) aj) λdq dt=>(go1 ?_);refine zG (zJ8 (ρ:=rpB) (X:=False) (by':=1) s.1.length underlying162 yBY I I I I zU4 I I zo5 zo5 bO bO) I I I ?_
 rintro bs du ⟨bn,rfl,bd⟩
 refine go5 ?_;refine lX (xB jP pH aj) λdp ci=>(cL (ev1 I) call136 (λw hs=>zJ4 hs ci (by first|omega|exact H1.mem) (by first|omega|exact H1.mem)) λdn h1 eb ch=>(cL (ev1 I) call135 (λw hs=>zG2 hs ch (by first|omega|exactλf hf=>(by rw[be] at hf;rw[rC hf];exact H1.2.1 f hf)) (by first|omega|exactλf hf=>(by rw[be] at hf;rw[rC hf];exact H1.2.1 f hf))) λbr h2 ea cg=>(go6 ?_)));have ec:=yGK H1;have hE:∀q,q<(edZ (xP s)).length->0<=((edZ (xP s)).getD q e50).1/\((edZ (xP s)).getD q e50).1<↑s.1.length:=λq hq=>zXE H2 hq;refine go4 ?_;refine gcL (ι:=Nat×List Prop×Value×List Value×Mem) (λ(i,U,C,O,ma)=>(MLe h2 ma/\(RL rpB ma O U/\(i<=(edZ (xP s)).length/\U.length=s.1.length)/\∀u,u<s.1.length->(U.getD u False↔zKU (edZ (xP s)) i u)),[(1,vP b1 0),(3,C),(4,br),(5,vI ↑i)],[.gs 4 1 C U.length O,.var b1 39 ba],ma,(edZ (xP s)).length-i)) (0,(List.replicate s.1.length False),bs,bn,h2) ?_ ?_
 · exact⟨mle,bd.up,⟨zot,yde⟩,λu h=>by rw[zVX h];exact⟨False.elim,λ⟨q,h,_⟩=>by omega⟩⟩
 rintro⟨i,U,C,O,ma⟩ ⟨cw,ak,⟨dy,bj⟩,bi⟩
 refine yY ?_;refine gc9 (λbh=>?_) λbh=>?_
 ·
  refine go8 ?_;refine lX (xI e50 i underlying163 t8 cg) λdm cf=>(lX (xF underlying168 sizeOf3 (y6i pH) cf) λdl ce=>(lX (xA ty3 ce) λdk cd=>?_));obtain⟨rfl,cz,cq⟩:=kX cd;refine gv ((yZ (((edZ (xP s)).getD i e50).1.toNat) mh0 underlying162 sizeOf4 I I (by(have:=hE i oM;omega)) (by(have:=hE i oM;omega)) nP).cv (show _=zI 1 C ((((edZ (xP s)).getD i e50).1.toNat*1+0)) from zbi (zI 1 C) zo5)) I (fW (A:=[]) (F:=λc_=>RL rpB ma c_ (U.set (((edZ (xP s)).getD i e50).1.toNat) True)) (rI sizeOf4 (y5e (y5u _) False (((edZ (xP s)).getD i e50).1.toNat) (by(have:=hE i oM;omega))) I nP I I ak (yNX) I) ?_);intro bk bc;refine go8 ?_;refine gqL ((i+1),(U.set (((edZ (xP s)).getD i e50).1.toNat) True),C,bk,ma) ?_ ?_
  · exact⟨mle,bc,⟨zot,by rw[lS];exact bj⟩,zX1 bj bi (hE i oM).1 (hE i oM).2⟩
  omega
 have av:∀u,u<s.1.length->(U.getD u False↔zKU (edZ (xP s)) (edZ (xP s)).length u):=λu hu=>by rw[show(edZ (xP s)).length=i by omega];exact bi u hu
 refine nY ?_;refine xJ 3 1 ?_;have bb:=RL.nil (ρ:=rpI) (h:=ma);refine gcL (ι:=Nat×List Int×Value×List Value×Mem) (λ(i,D,H,M,mb)=>(MLe ma mb/\(RL rpI mb M D/\i<=s.1.length/\D=aL s i),[(1,vP b1 0),(3,C),(6,H),(7,vI ↑i)],[.gs 3 1 H D.length M,.gs 4 1 C U.length O,.var b1 39 ba],mb,s.1.length-i)) (0,[],(.slice none 0 0),[],ma) ?_ ?_
 · exact⟨mle,bb,zot,I⟩
 rintro⟨i,D,H,M,mb⟩ ⟨cu,J,hi2,hD⟩
 refine yY ?_;have ed:D.length<=i:=by rw[hD];exact zRJ s i
 refine go5 ?_;refine lX (xB uQ (y6i pH) aj) λdj dr=>(gc4 (λbg=>?_) λbg=>?_)
 ·
  refine go9 ?_;refine gv ((yZ i mh1 underlying162 sizeOf4 I I I bO nP).cv (show _=zI 1 C ((i*1+0)) from zbi (zI 1 C) zo5)) I (zI5 (F:=λv_=>rpB.Is mb v_ (U.getD i False)) (wO ty4 (y5e (y5u _) False i bO) I nP I ak.up I) (tM mh1) I ?_);intro di cc;obtain rfl:=yJ7 cc;refine gc3 (λae=>?_) λae=>?_
  ·
   refine go9 ?_;refine gqL ((i+1),D,H,M,mb) ?_ ?_
   · exact⟨mle,J,zot,by rw[hD];exact(zae (λe=>ae ((av i oM).2 e))).symm⟩
   omega
  refine go5 ?_;refine gv (jO mh0 underlying22 I) I (go5 ?_);refine gcL (ι:=Nat×Mem) (λ(kp,mk)=>(MLe mb mk/\(kp<=D.length/\aO (zV9 s D i) D.length=aO (zV9 s D i) kp),[(1,vP b1 0),(3,C),(6,H),(7,vI ↑i),(8,vI ↑kp)],[.gs 3 1 H D.length M,.gs 4 1 C U.length O,.var b1 39 ba],mk,kp)) (D.length,mb) ?_ ?_ (he:=e5z)
  · exact⟨mle,zot,I⟩
  rintro⟨kp,mk⟩ ⟨ct,dv,ax⟩
  refine yY ?_;refine go2 ?_;refine zJ 19 _ [] (zai 0 17 [(17,.c),(18,.q)]) zX nX (wL zou) nX (λr hr=>hr) (go3 ?_);refine jZ ((0:Int)<(↑kp:Int)) (λac=>?_) (λac=>?_)
  ·
   rw[xW ac];refine go1 ?_;refine oX I (xB uQ (y6i pH) aj) λdh cb=>(yV I I I (λh' L' hh hR=>xG I) I (oX I (xI zT i underlying35 zK cb) λdf ca=>(oX I (xA zK ca) λde bz=>(go1 ?_))));refine oX I (xB uQ (y6i pH) aj) λdd bx=>(yV I I I (λh' L' hh hR=>xG I) I (yV I I I (λh' L' hh hR=>xG I) I (go1 ?_)));refine yV I I I (λh' L' hh hR=>(yZ (kp-1) (hR _ mh0) underlying22 sizeOf3 I I oM oM nP).cv (show _=zI 1 H (((kp-1)*1+0)) from zbi (zI 1 H) zo5)) I (lZ (F:=λv_=>rpI.Is mk v_ (D.getD (kp-1) (0:Int))) I I I (wO ty3 (y5e (y5u _) (0:Int) (kp-1) oM) I nP I J.up I) (tM mh0) I ?_);intro dc bw;obtain⟨rfl,cy,cp⟩:=kX bw;refine lZ (F:=λv_=>AtP (tPt k) mk v_ (s.1.getD ((D.getD (kp-1) 0).toNat) zT)) I I I (tT zT ((D.getD (kp-1) 0).toNat) underlying35 zK I I bx (by(have:=oT (s:=s) (i:=i) (k:=kp-1) (by rw[<-hD];omega);rw[<-hD] at this;omega)) (by(have:=oT (s:=s) (i:=i) (k:=kp-1) (by rw[<-hD];omega);rw[<-hD] at this;omega)) nP) j5 I ?_;intro db bv;refine oX I (xA zK bv) λda bu=>?_;refine w_c I (iT I I (sC (ev2 I I) call137 (λw hs=>yAJ hs bz bu oM oM) λbq h3 bf bt=>?_));obtain rfl:bq=vB (lsP (s.1.getD i zT) (s.1.getD ((D.getD (kp-1) 0).toNat) zT)):=bt;refine gc3 (λad=>?_) λad=>?_
   ·
    refine go9 ?_;refine gqL ((kp-1),h3) ?_ ?_ (he:=⟨I,I,I,I,zbi (λz=>some (vI z)) oM,y5i⟩)
    · exact⟨mle,zot,by rw[ax];exact zSS oM ad⟩
    omega
   refine go8 ?_;refine zG (zL (ρ:=rpI) (m:=1) (xs:=[(0:Int)]) (ps':=[(0,_)]) underlying22 jV I I I wQ e2z (zD I (y5e (y5u _) (0:Int) 0 dC) (wM dC dC) zN) zoj nP) I I I ?_
   rintro bp cl ⟨bm,rfl,ai⟩
   refine zQ (A:=[]) (ρ:=rpI) ai ?_;intro h4 dz ao;refine xQ (A:=[]) (zR (ρ:=rpI) (bytes:=8) underlying22 jV I I I I nP I I J.up ao bO bO) I I I ?_
   rintro Z ck ⟨bl,rfl,ah⟩
   refine go4 ?_;refine lI (A:=[]) (by rw[lAz];exact ywu _) (λob co aa ab=>?_);refine qJ (A:=[]) 8 [] (zai 0 7 [(7,.c)]) zX nX zou nX (go3 ?_);refine wZ I (λ_ _=>jI (kp+1) underlying22 sizeOf3 I I ⟨_,_,aa,ab⟩ oM zo1) I (go2 ?_);refine wZ I (λ_ _=>jI kp underlying22 sizeOf3 I I ⟨_,_,aa,ab⟩ oM zo1) I ?_;refine w_c I (fK (A:=[]) (λX=>mK (ρ:=rpI) kp aa ab underlying22 sizeOf3 I I zo1 ah) I (xO zoy) ?_)
   rintro bo cj ⟨cn,rfl,au⟩
   refine go6 ?_;refine gv ((yZ kp mh0 underlying22 sizeOf3 I I oM (by rw[fP zo1];simp only[lAz,lC,lN];omega) nP).cv (show _=zI 1 Z ((kp*1+0)) from zbi (zI 1 Z) zo5)) I (fW (A:=[]) (F:=λc_=>RL rpI h4 c_ ((sK (D++[(0:Int)]) kp).set kp (↑i:Int))) (rI sizeOf3 (y5e (y5u _) (0:Int) kp (by rw[fP zo1];simp only[lAz,lC,lN];omega)) I nP I I au (wM oM oM) I) ?_);intro az ar;refine go8 ?_;refine gqL ((i+1),((sK (D++[(0:Int)]) kp).set kp (↑i:Int)),Z,az,h4) ?_ ?_
   · exact⟨mle,ar,zot,by rw[mG oM];have aw:aO (zV9 s D i) D.length=kp:=by{rw[ax];exact zII (λe=>by first|omega|exact ad e.2)};rw[<-aw,hD];exact(zau ((av i oM).1 (zdi ae))).symm⟩
   omega
  rw[yM ac];refine sH ?_;refine w_c I (mJ I I I I (qC ?_));refine zG (zL (ρ:=rpI) (m:=1) (xs:=[(0:Int)]) (ps':=[(0,_)]) underlying22 jV I I I wQ e2z (zD I (y5e (y5u _) (0:Int) 0 dC) (wM dC dC) zN) zoj nP) I I I ?_
  rintro bp cl ⟨bm,rfl,ai⟩
  refine zQ (A:=[]) (ρ:=rpI) ai ?_;intro h3 bf an;refine xQ (A:=[]) (zR (ρ:=rpI) (bytes:=8) underlying22 jV I I I I nP I I J.up an bO bO) I I I ?_
  rintro Z ck ⟨bl,rfl,ah⟩
  refine go4 ?_;refine lI (A:=[]) (by rw[lAz];exact ywu _) (λob co aa ab=>?_);refine qJ (A:=[]) 8 [] (zai 0 7 [(7,.c)]) zX nX zou nX (go3 ?_);refine wZ I (λ_ _=>jI (kp+1) underlying22 sizeOf3 I I ⟨_,_,aa,ab⟩ oM zo1) I (go2 ?_);refine wZ I (λ_ _=>jI kp underlying22 sizeOf3 I I ⟨_,_,aa,ab⟩ oM zo1) I ?_;refine w_c I (fK (A:=[]) (λX=>mK (ρ:=rpI) kp aa ab underlying22 sizeOf3 I I zo1 ah) I (xO zoy) ?_)
  rintro bo cj ⟨cm,rfl,aq⟩
  refine go6 ?_;refine gv ((yZ kp mh0 underlying22 sizeOf3 I I oM (by rw[fP zo1];simp only[lAz,lC,lN];omega) nP).cv (show _=zI 1 Z ((kp*1+0)) from zbi (zI 1 Z) zo5)) I (fW (A:=[]) (F:=λc_=>RL rpI h3 c_ ((sK (D++[(0:Int)]) kp).set kp (↑i:Int))) (rI sizeOf3 (y5e (y5u _) (0:Int) kp (by rw[fP zo1];simp only[lAz,lC,lN];omega)) I nP I I aq (wM oM oM) I) ?_);intro ay ap;refine go8 ?_;refine gqL ((i+1),((sK (D++[(0:Int)]) kp).set kp (↑i:Int)),Z,ay,h3) ?_ ?_
  · exact⟨mle,ap,zot,by rw[mG oM];have aw:aO (zV9 s D i) D.length=kp:=by{rw[ax];exact zII (λe=>by first|omega|exact ad e.2)};rw[<-aw,hD];exact(zau ((av i oM).1 (zdi ae))).symm⟩
  omega
 have ei:i=s.1.length:=by omega
 refine qC ?_;refine wW (A:=[]) (ρ:=rpI) J.up ?_;intro h3 bf am;refine zC I I ?_;exact(Rp.Is.cast am (by rw[hD,ei]))
end
end Go.Proofs.YtpkaegemlpaenaaGreat
