/- Texts that the proof needs, part 5. -/
import Derived.Test.YtboaboflnckgoaaGreatKF4
set_option linter.unusedVariables false
set_option linter.unusedSimpArgs false
noncomputable section
set_option maxRecDepth 10000
set_option maxHeartbeats 1000000
namespace Bk
open Go
abbrev y5e:List Value:=[.bool false,.slice none 0 0,.slice none 0 0,.bool false,.slice none 0 0,.slice none 0 0,.bool false,.slice none 0 0,.slice none 0 0]
end Bk
namespace Go.Proofs.YtboaboflnckgoaaGreat
open Bk Go Tryz
attribute [local irreducible] GL GC GQ W OpV
section
variable{w0:World}{h0:Mem}(hs:MLe h0 (mem w0))
include hs
theorem cY{k:Nat}{vp:Value}{p:Tq}(rp:(tPt k).Is h0 vp p):
 Calls prog 201 #[vp] w0 (Ret w0 h0 (λh r=>(tPt (k+1)).Is h r (zZ p))):=by
 refine cb1 8 vp func201 hs ?_;refine go2 ?_;refine nB rp λb1 ab H=>(nA (ρ:=(tPt (k+1))) (X:=zT) yO (yS (yE oM)) λb2 aa J=>(go5 ?_));refine lX (xB yJ (y4e pH) H) λv4 r4=>(go1 ?_);refine lX (xB yJ (y5i pH) H) λv6 Z=>(lX (xV (ρ:=(tPt (k+1))) (wI (ps':=[(0,_),(1,_)]) underlying53 yO I I sizeOf26 e4z I (yS (yE oM)) (zC I (y4e (y3u _)) (r4.le (Le.q (l:=k+1) oM)) (zC I (y5i (y3u _)) (Z.le (Le.q (l:=k+1) oM)) zQ)))) λv7 U=>(zU (A:=[]) (uB sizeOf53 pH J U) λM G=>(go3 ?_)));refine xH (qK (t:=2) zR mh0 I G) ?_;intro O C D;refine yI (λE S=>zS I C E S) ?_;exact D
theorem jQ{k:Nat}{va:Value}{a:Tq}(ra:(tPt k).Is h0 va a){vb:Value}{b:Tq}(rb:(tPt k).Is h0 vb b)(hcd0:k<=2000000000):
 Calls prog 193 #[va,vb] w0 (Ret w0 h0 (λ_ r=>r=vB ((pr a 0 1)=(pr b 0 1)))):=by
 refine cb2 17 va vb func193 hs ?_;refine go2 ?_;refine nB ra λb2 ac D=>(nB rb λb3 ab C=>(go6 ?_));refine lX (xB yJ (y4e pH) D) λv6 r6=>(go1 ?_);refine lX (xB yJ (y4e pH) C) λv8 r8=>(cL (ev2 I I) call15 (λw hs=>qH hs r6 r8 oM) λv9 h1 ah r9=>?_);obtain rfl:v9=vB (a.x=b.x):=r9;refine qM (ι:=Mem) 7 (λm_=>MLe h1 m_) (λ_=>[(16,vB ((a.x=b.x)/\(a.y=b.y)))]) (λ_=>[.var b3 53 ab,.var b2 53 ac]) (λm_=>m_) ?_ ?_
 ·
  refine yK (a.x=b.x) (λH=>?_) (λH=>?_)
  ·
   refine gT H I (go3 ?_);refine lX (xB yJ (y5i pH) D) λae U=>(go3 ?_);refine lX (xB yJ (y5i pH) C) λad O=>(go1 ?_);refine cL (ev2 I I) call15 (λw hs=>qH hs U O oM) λJ h2 aa M=>?_;obtain rfl:J=vB (a.y=b.y):=M;refine go2 ?_;refine zY h2 aa ⟨?_,y3i⟩ I I;exact y2e (wE H)
  refine gF H I (go7 ?_);refine zY h1 (MLe.refl _) ⟨?_,y3i⟩ I I;exact y2e (wG H)
 intro Z G;refine rN ?_;refine go4 ?_;refine zF I I ?_
 first|exact tZ (by rw[zV4];exact Iff.rfl)|exact(wB (by rw[zV4];exact Iff.rfl)).symm|exact(yZ (by rw[zV4];exact Iff.rfl)).symm
theorem pR{k:Nat}{va:Value}{a:Tq}(ra:(tPt k).Is h0 va a){vb:Value}{b:Tq}(rb:(tPt k).Is h0 vb b)(hcd0:k<=2000000000):
 Calls prog 202 #[va,vb] w0 (Ret w0 h0 (λ_ r=>r=vB (lx (pr a 0 1) (pr b 0 1)))):=by
 refine cb2 21 va vb func202 hs ?_;refine go2 ?_;refine nB ra λb2 aj G=>(nB rb λb3 ai D=>(go7 ?_));refine lX (xB yJ (y4e pH) G) λv7 r7=>(go1 ?_);refine lX (xB yJ (y4e pH) D) λv9 r9=>(cL (ev2 I I) call18 (λw hs=>tN hs r7 r9 oM) λJ h1 ah Z=>?_);obtain rfl:J=vI (vH a.x b.x):=Z;have ab:=gQ a.x b.x;refine gc9 (λC=>?_) λC=>?_
 ·
  refine go9 ?_;refine zF I I ?_;exact tZ (yGB C)
 refine go5 ?_;refine lX (xB yJ (y5i pH) G) λad U=>(go1 ?_);refine lX (xB yJ (y5i pH) D) λac O=>(cL (ev2 I I) call18 (λw hs=>tN hs U O oM) λH h2 ae M=>?_);obtain rfl:H=vI (vH a.y b.y):=M;have aa:=gQ a.y b.y;refine go5 ?_;refine zF I I ?_;exact tZ (yGA C)
theorem pS{k:Nat}{vl:Value}{l:(List Tq)}(rl:(tLs k).Is h0 vl l)(hcd0:k<=100000)(hcd1:l.length<=1000):
 Calls prog 170 #[vl] w0 (Ret w0 h0 (λh r=>(rpQ 1000000000).Is h r (uU l 0 1 l.length))):=by
 refine cb1 40 vl func170 hs ?_;refine go2 ?_;refine nA (ρ:=(rpQ 1)) (X:=(0:Rat)) yR (yE dC) λb2 bi ar=>(go4 ?_);refine lX (xV (ρ:=(rpQ 1)) (xE (ps':=[]) underlying26 yR I I (uE underlying26) trivial I (yE dC) zQ)) λv7 r7=>(nA (ρ:=(rpQ 1)) (X:=(0:Rat)) yR (yE dC) λb3 cg aq=>(zU (A:=[]) (uB sizeOf26 pH aq r7) λan ak=>(go9 ?_)));refine gcL (ι:=Nat×Nat×List Value×Mem) (λ(m,q,H,ma)=>(MLe h0 ma/\((rpQ q).R ma H (uU l 0 1 m)/\m<=l.length/\q<=(4*k+9)*m+1),[(0,vl),(2,vP b2 0),(3,vP b3 0),(4,vI ↑m)],[.var b3 26 H,.var b2 26 bi],ma,l.length-m)) (0,1,an,h0) ?_ ?_
 · exact⟨mle,ak,by omega,by omega⟩
 rintro⟨m,q,H,ma⟩ ⟨bk,C,cb,ca⟩
 refine yW ?_;have be:=zpu (4*k+9) (show m<=1000 by omega);refine gc9 (λam=>?_) λam=>?_
 ·
  refine go5 ?_;refine zK 16 _ [(12,(5,53,y5e)),(13,(6,53,y5e))] (zai 0 12 [(12,.a),(13,.a),(14,.c),(15,.c)]) yA (jT.cons I I (uX yO I I) (jT.cons I I (uX yO I I) jT.nil)) (wV zot) (qA I I (qA I I kO)) (λr hr=>hr) (go2 ?_);refine wX I (xI zT m underlying46 zR rl) λbz bd=>(wX I (xA zR bd) λbx bc=>(go4 ?_));refine w_q I (λh' L' hh hR=>jA underlying46 I (rl.up.mono hh)) I (xD I (λ_ _=>vC I I oM oM) I (wX I (xI zT ((m+1)%l.length) underlying46 zR rl (hi:=by exact zcu _ oM)) λbw bb=>(wX I (xA zR bb) λbv ba=>?_)));refine w_a I I (λb5=>?_);have ap:(tPt 1).R ma y5e zT:=(yS (yE dC));refine w_a I I (λb6=>?_);have ao:(tPt 1).R ma y5e zT:=(yS (yE dC));refine w_c I ?_;have aj:=(Le.t (Le.q (l:=k+1) oM)).R ap;refine cD (A:=[_]) (uB sizeOf53 pH aj (bc.le (Le.t (Le.q (l:=k+1) oM)))) (wA zox) λbh G=>?_;refine w_c I ?_;have U:=(Le.t (Le.q (l:=k+1) oM)).R ao;refine cD (A:=[]) (uB sizeOf53 pH U (ba.le (Le.t (Le.q (l:=k+1) oM)))) (wA zox) λbg D=>(go2 ?_);refine zK 13 _ [] (zai 0 5 (zai 6 4 [(5,.c),(10,.c),(11,.c),(12,.c),(13,.t)])) yA nX (wV zot) nX (λr hr=>hr) (wX I (xB yJ pH C) λbu az=>(go1 ?_));refine wX I (xB yJ (y4e pH) G) λbt ay=>(go1 ?_);refine wX I (xB yJ (y5i pH) D) λbs ax=>(go1 ?_);refine wX I (xB yJ (y4e pH) D) λbq aw=>(go1 ?_);refine wX I (xB yJ (y5i pH) G) λbp av=>?_;refine w_c I (sC (ev2 I I) call9 (λw hs=>qS hs ay ax oM) λbr h1 cf ah=>?_);replace ah:=Rp.Is.le ah (Le.q (l:=2*k+2) oM);refine w_c I (sC (ev2 I I) call9 (λw hs=>qS hs aw.up av.up oM) λbo h2 ce ae=>?_);replace ae:=Rp.Is.le ae (Le.q (l:=2*k+2) oM);refine w_c I (sC (ev2 I I) call16 (λw hs=>tM hs ah.up ae oM) λbn h3 cd ad=>?_);replace ad:=Rp.Is.le ad (Le.q (l:=4*k+5) oM);refine w_c I (sC (ev2 I I) call37 (λw hs=>pG hs az.up ad oM) λbm h4 cc ac=>?_);replace ac:=Rp.Is.le ac (Le.q (l:=4*k+q+6) oM);have O:=(Le.q (l:=4*k+q+6) oM).R C;refine yG (A:=[_,_]) I (uB sizeOf26 pH O ac) λai ab=>(go8 ?_);refine uR (A:=[]) (uR (A:=[]) ?_);refine gqL ((m+1),(q+(4*k+9)),ai,h4) ?_ ?_
  · exact⟨mle,(Rp.castR (Le.R (Le.q (l:=q+(4*k+9)) oM) ab) I),by omega,by rw[Nat.mul_succ];omega⟩
  omega
 have em:m=l.length:=by omega
 have be:=zpu (4*k+9) (show m<=1000 by omega);refine go7 ?_;refine lX (xB yJ pH C) λbl au=>?_;have M:=(Le.q (l:=q+1) oM).R ar;refine zU (A:=[_]) (uB sizeOf26 pH M (au.le (Le.q (l:=q+1) oM))) λbf aa=>(go3 ?_);refine xH (qK (t:=2) yJ mh1 I aa) ?_;intro bj J Z;refine yI (λE S=>zS I J E S) ?_;exact(Rp.Is.cast (Rp.Is.le Z (Le.q (l:=1000000000) oM)) (by rw[em]))
theorem tY{k:Nat}{va:Value}{a:Tq}(ra:(tPt k).Is h0 va a){vb:Value}{b:Tq}(rb:(tPt k).Is h0 vb b){vc:Value}{c:Tq}(rc:(tPt k).Is h0 vc c)(hcd0:k<=10000):
 Calls prog 203 #[va,vb,vc] w0 (Ret w0 h0 (λ_ r=>r=vI (orZ (pr a 0 1) (pr b 0 1) (pr c 0 1)))):=by
 refine cb3 13 va vb vc func203 hs ?_;refine go2 ?_;refine nB ra λb3 am M=>(nB rb λb4 ak J=>(nB rc λb5 aj H=>(go5 ?_)));refine lX (xB zR pH M) λv7 r7=>(lX (xB zR pH J) λv8 r8=>(lX (xB zR pH H) λv9 r9=>(zH (zN (ρ:=(tPt (k+1))) (m:=3) (xs:=[a,b,c]) (ps':=[(0,_),(1,_),(2,_)]) underlying46 yO I I I (yS (yE oM)) e6z (zC I (y3e (y3u _) zT 0 dC) (r7.le (Le.t (Le.q (l:=k+1) oM))) (zC I (y3e (y3u _) zT 1 dC) (r8.le (Le.t (Le.q (l:=k+1) oM))) (zC I (y3e (y3u _) zT 2 dC) (r9.le (Le.t (Le.q (l:=k+1) oM))) zQ))) zol nP) I I I ?_)))
 rintro ac ad ⟨aa,rfl,D⟩
 refine zX (A:=[]) (ρ:=(tPt (k+1))) D ?_;intro h1 ai C;refine cL (ev1 I) call170 (λw hs=>pS hs C oM (by first|omega|exact(by decide:3<=1000))) λab h2 ah U=>(cL (ev1 I) call17 (λw hs=>vX hs U dC) λG h3 ae O=>?_);obtain rfl:G=vI (yU (uU [a,b,c] 0 1 [a,b,c].length)):=O;have Z:=xW (uU [a,b,c] 0 1 [a,b,c].length);refine go4 ?_;refine zF I I ?_;exact zbi vI (zZ3 a b c)
theorem oP{k:Nat}{va:Value}{a:Tq}(ra:(tPt k).Is h0 va a){vb:Value}{b:Tq}(rb:(tPt k).Is h0 vb b){vp:Value}{p:Tq}(rp:(tPt k).Is h0 vp p)(hcd0:k<=10000):
 Calls prog 206 #[va,vb,vp] w0 (Ret w0 h0 (λ_ r=>r=vB (onS (pr a 0 1) (pr b 0 1) (pr p 0 1)))):=by
 refine cb3 29 va vb vp func206 hs ?_;refine go2 ?_;refine nB ra λb3 bi Z=>(nB rb λb4 bh U=>(nB rp λb5 ak ad=>(go3 ?_)));refine jC (ι:=List Value×List Value×Mem) (λ(D,C,m1)=>MLe h0 m1/\((tPt k).R m1 D (loT a b 0 1)/\(tPt k).R m1 C (hiT a b 0 1)/\True)) (λ(D,C,m1)=>[(3,vP b3 0),(4,vP b4 0),(5,vP b5 0)]) (λ(D,C,m1)=>[.var b5 53 ak,.var b4 53 C,.var b3 53 D]) (λ(D,C,m1)=>m1) ?_ ?_
 ·
  refine go2 ?_;refine lX (xB zR pH U) λv7 r7=>(lX (xB zR pH Z) λv8 r8=>(cL (ev2 I I) call202 (λw hs=>pR hs r7 r8 oM) λv9 h1 ah r9=>?_));obtain rfl:v9=vB (lx (pr b 0 1) (pr a 0 1)):=r9;refine gc2 (λO=>?_) λO=>?_
  ·
   refine go1 ?_;refine lX (xB zR pH U) λbs bf=>(lX (xB zR pH Z) λbr be=>(zU (A:=[_,_]) (uB sizeOf53 pH Z bf) λaj ac=>(zU (A:=[_]) (uB sizeOf53 pH U be) λai ab=>(go1 ?_))));refine zY (aj,ai,h1) ?_ e3z I I;refine⟨ah,?_⟩;refine⟨(Rp.castR ac (zau O).symm),(Rp.castR ab (zau O).symm),?_⟩
   trivial
  refine go1 ?_;refine zY (bi,bh,h1) ?_ e3z I I;refine⟨ah,?_⟩;refine⟨(Rp.castR Z.up (zae O).symm),(Rp.castR U.up (zae O).symm),?_⟩
  trivial
 rintro⟨D,C,m1⟩ ⟨bj,aa⟩
 refine yW ?_;obtain⟨H,G,aa⟩:=aa;refine go2 ?_;refine lX (xB zR pH H) λbq bd=>(lX (xB zR pH G) λbp bc=>(lX (xB zR pH ad) λbo bb=>(cL (ev3 I I I) call203 (λw hs=>tY hs bd bc bb oM) λar h1 ah ba=>?_)));obtain rfl:ar=vI (orZ (pr (loT a b 0 1) 0 1) (pr (hiT a b 0 1) 0 1) (pr p 0 1)):=ba;have bg:=rS (pr (loT a b 0 1) 0 1) (pr (hiT a b 0 1) 0 1) (pr p 0 1);refine go1 ?_;refine qM (ι:=Mem) 6 (λm_=>MLe h1 m_) (λ_=>[(22,vB (((orZ (pr (loT a b 0 1) 0 1) (pr (hiT a b 0 1) 0 1) (pr p 0 1))=(0:Int))/\(¬(lx (pr p 0 1) (pr (loT a b 0 1) 0 1))))),(4,vP b4 0),(5,vP b5 0)]) (λ_=>[.var b5 53 ak,.var b4 53 C,.var b3 53 D]) (λm_=>m_) ?_ ?_
 ·
  refine yK ((orZ (pr (loT a b 0 1) 0 1) (pr (hiT a b 0 1) 0 1) (pr p 0 1))=(0:Int)) (λM=>?_) (λM=>?_)
  ·
   refine gT M I (go1 ?_);refine lX (xB zR pH ad) λbn az=>(go1 ?_);refine lX (xB zR pH H) λbm ay=>(go1 ?_);refine cL (ev2 I I) call202 (λw hs=>pR hs az ay oM) λaq h2 ae ax=>?_;obtain rfl:aq=vB (lx (pr p 0 1) (pr (loT a b 0 1) 0 1)):=ax;refine go4 ?_;refine zY h2 ae ⟨?_,I,I,y3i⟩ I I;exact y2e (wE M)
  refine gF M I (go6 ?_);refine zY h1 (MLe.refl _) ⟨?_,I,I,y3i⟩ I I;exact y2e (wG M)
 intro J an;refine rN ?_;refine qM (ι:=Mem) 6 (λm_=>MLe J m_) (λ_=>[(28,vB ((((orZ (pr (loT a b 0 1) 0 1) (pr (hiT a b 0 1) 0 1) (pr p 0 1))=(0:Int))/\(¬(lx (pr p 0 1) (pr (loT a b 0 1) 0 1))))/\(¬(lx (pr (hiT a b 0 1) 0 1) (pr p 0 1)))))]) (λ_=>[.var b5 53 ak,.var b4 53 C,.var b3 53 D]) (λm_=>m_) ?_ ?_
 ·
  refine yK (((orZ (pr (loT a b 0 1) 0 1) (pr (hiT a b 0 1) 0 1) (pr p 0 1))=(0:Int))/\(¬(lx (pr p 0 1) (pr (loT a b 0 1) 0 1)))) (λM=>?_) (λM=>?_)
  ·
   refine gT M I (go1 ?_);refine lX (xB zR pH G) λbl aw=>(go1 ?_);refine lX (xB zR pH ad) λbk av=>(go1 ?_);refine cL (ev2 I I) call202 (λw hs=>pR hs aw av oM) λap h2 ae au=>?_;obtain rfl:ap=vB (lx (pr (hiT a b 0 1) 0 1) (pr p 0 1)):=au;refine go4 ?_;refine zY h2 ae ⟨?_,y3i⟩ I I;exact y2e (wE M)
  refine gF M I (go6 ?_);refine zY J (MLe.refl _) ⟨?_,y3i⟩ I I;exact y2e (wG M)
 intro ao am;refine rN ?_;refine go4 ?_;refine zF I I ?_
 first|exact tZ (by rw[<-yFM];grind)|exact(wB (by rw[<-yFM];grind)).symm|exact(yZ (by rw[<-yFM];grind)).symm
theorem zTD{k:Nat}{va:Value}{a:Tq}(ra:(tPt k).Is h0 va a){vb:Value}{b:Tq}(rb:(tPt k).Is h0 vb b){vc:Value}{c:Tq}(rc:(tPt k).Is h0 vc c){vd:Value}{d:Tq}(rd:(tPt k).Is h0 vd d)(hcd0:k<=9000):
 Calls prog 204 #[va,vb,vc,vd] w0 (Ret w0 h0 (λ_ r=>r=vI (zD2 (pr a 0 1) (pr b 0 1) (pr c 0 1) (pr d 0 1)))):=by
 refine fF (n:=72) (e:=[(0,va),(1,vb),(2,vc),(3,vd)]) (vs:=[va,vb,vc,vd]) func204 rfl rfl (bL rfl) hs e4z (go2 ?_);refine nB ra λb4 ad ax=>(nB rb λb5 ac aw=>(nB rc λb6 ab ap=>(nB rd λb7 aa ao=>(go4 ?_))));refine zK 6 _ [(2,(9,53,y5e)),(3,(10,53,y5e))] [(0,.q),(1,.q),(2,.a),(3,.a),(4,.c),(5,.c)] yA (jT.cons I I (uX yO I I) (jT.cons I I (uX yO I I) jT.nil)) zot (qA I I (qA I I kO)) (λr hr=>hr) (wX I (xB zR pH ax) λfl eb=>(wX I (xB zR pH aw) λfk ea=>?_));refine w_a I I (λb9=>?_);have cd:(tPt (k+1)).R h0 y5e zT:=(yS (yE oM));refine w_a I I (λM=>?_);have bj:(tPt (k+1)).R h0 y5e zT:=(yS (yE oM));refine w_c I (cD (A:=[_]) (uB sizeOf53 pH cd (eb.le (Le.t (Le.q (l:=k+1) oM)))) (wA zox) λbf ah=>?_);refine w_c I (cD (A:=[]) (uB sizeOf53 pH bj (ea.le (Le.t (Le.q (l:=k+1) oM)))) (wA zox) λav ae=>(go2 ?_));refine jC (ι:=List Value×Mem) (λ(C,m1)=>MLe h0 m1/\((tPt (k+1)).R m1 C (mxT a c 0 1)/\True)) (λ(C,m1)=>[(4,vP b4 0),(5,vP b5 0),(6,vP b6 0),(7,vP b7 0),(9,vP b9 0),(10,vP M 0)]) (λ(C,m1)=>[.var M 53 av,.var b9 53 C,.var b7 53 aa,.var b6 53 ab,.var b5 53 ac,.var b4 53 ad]) (λ(C,m1)=>m1) ?_ ?_
 ·
  refine go2 ?_;refine lX (xB zR pH ah) λfj dz=>(lX (xB zR pH ap) λfi dy=>(cL (ev2 I I) call202 (λw hs=>pR hs dz (dy.le (Le.t (Le.q (l:=k+1) oM))) oM) λcc h1 am dx=>?_));obtain rfl:cc=vB (lx (pr a 0 1) (pr c 0 1)):=dx;refine gc2 (λau=>?_) λau=>?_
  ·
   refine go1 ?_;refine lX (xB zR pH ap) λfh dw=>(zU (A:=[_]) (uB sizeOf53 pH ah (dw.le (Le.t (Le.q (l:=k+1) oM)))) λbe az=>(go1 ?_));refine zY (be,h1) ?_ e6z I I;refine⟨am,?_⟩;refine⟨(Rp.castR az (zau au).symm),?_⟩
   trivial
  refine go1 ?_;refine zY (bf,h1) ?_ e6z I I;refine⟨am,?_⟩;refine⟨(Rp.castR ah.up (zae au).symm),?_⟩
  trivial
 rintro⟨C,m1⟩ ⟨ed,Z⟩
 refine yW ?_;obtain⟨G,Z⟩:=Z;refine jC (ι:=List Value×Mem) (λ(D,m2)=>MLe m1 m2/\((tPt (k+1)).R m2 D (mnT b d 0 1)/\True)) (λ(D,m2)=>[(4,vP b4 0),(5,vP b5 0),(6,vP b6 0),(7,vP b7 0),(9,vP b9 0),(10,vP M 0)]) (λ(D,m2)=>[.var M 53 D,.var b9 53 C,.var b7 53 aa,.var b6 53 ab,.var b5 53 ac,.var b4 53 ad]) (λ(D,m2)=>m2) ?_ ?_
 ·
  refine go2 ?_;refine lX (xB zR pH ao) λfg dv=>(lX (xB zR pH ae) λff du=>(cL (ev2 I I) call202 (λw hs=>pR hs (dv.le (Le.t (Le.q (l:=k+1) oM))) du oM) λcb h1 am dt=>?_));obtain rfl:cb=vB (lx (pr d 0 1) (pr b 0 1)):=dt;refine gc2 (λar=>?_) λar=>?_
  ·
   refine go1 ?_;refine lX (xB zR pH ao) λfe dr=>(zU (A:=[]) (uB sizeOf53 pH ae (dr.le (Le.t (Le.q (l:=k+1) oM)))) λbd ay=>(go1 ?_));refine zY (bd,h1) ?_ e6z I I;refine⟨am,?_⟩;refine⟨(Rp.castR ay (zau ar).symm),?_⟩
   trivial
  refine go1 ?_;refine zY (av,h1) ?_ e6z I I;refine⟨am,?_⟩;refine⟨(Rp.castR ae.up (zae ar).symm),?_⟩
  trivial
 rintro⟨D,m2⟩ ⟨ec,Z⟩
 refine yW ?_;obtain⟨an,Z⟩:=Z;refine go4 ?_;refine lX (xB zR pH an) λfd dq=>(lX (xB zR pH G) λfc dp=>(cL (ev2 I I) call202 (λw hs=>pR hs dq dp oM) λca h1 am dn=>?_));obtain rfl:ca=vB (lx (pr (mnT b d 0 1) 0 1) (pr (mxT a c 0 1) 0 1)):=dn;refine gc3 (λbo=>?_) λbo=>?_
 ·
  refine go8 ?_;refine zF I I ?_;refine zbi vI ?_;rw[<-zGH I I];unfold zGI;grind
 refine go2 ?_;refine lX (xB zR pH G) λfb dm=>(lX (xB zR pH an) λfa dl=>(cL (ev2 I I) call193 (λw hs=>jQ hs dm dl oM) λbz h2 fo dk=>?_));obtain rfl:bz=vB ((pr (mxT a c 0 1) 0 1)=(pr (mnT b d 0 1) 0 1)):=dk;refine gc4 (λbn=>?_) λbn=>?_
 ·
  refine go8 ?_;refine zF I I ?_;refine zbi vI ?_;rw[<-zGH I I];unfold zGI;grind
 refine go2 ?_;refine lX (xB zR pH G) λez dj=>(lX (xB zR pH ax) λey di=>(cL (ev2 I I) call193 (λw hs=>jQ hs dj (di.le (Le.t (Le.q (l:=k+1) oM))) oM) λbx h3 fm dh=>?_));obtain rfl:bx=vB ((pr (mxT a c 0 1) 0 1)=(pr a 0 1)):=dh;refine qM (ι:=Mem) 5 (λJ=>MLe h3 J) (λ_=>[(38,vB (((pr (mxT a c 0 1) 0 1)=(pr a 0 1))\/((pr (mxT a c 0 1) 0 1)=(pr b 0 1)))),(4,vP b4 0),(5,vP b5 0),(6,vP b6 0),(7,vP b7 0),(9,vP b9 0)]) (λ_=>[.var M 53 D,.var b9 53 C,.var b7 53 aa,.var b6 53 ab,.var b5 53 ac,.var b4 53 ad]) (λJ=>J) ?_ ?_
 ·
  refine yK ((pr (mxT a c 0 1) 0 1)=(pr a 0 1)) (λH=>?_) (λH=>?_)
  ·
   refine gT H I (go5 ?_);refine zY h3 (MLe.refl _) ⟨?_,I,I,I,I,I,y3i⟩ I I;exact y2e (uL H)
  refine gF H I (go1 ?_);refine lX (xB zR pH G) λew df=>(go1 ?_);refine lX (xB zR pH aw) λev de=>(go1 ?_);refine cL (ev2 I I) call193 (λw hs=>jQ hs df (de.le (Le.t (Le.q (l:=k+1) oM))) oM) λbw h4 U dd=>?_;obtain rfl:bw=vB ((pr (mxT a c 0 1) 0 1)=(pr b 0 1)):=dd;refine go2 ?_;refine zY h4 U ⟨?_,I,I,I,I,I,y3i⟩ I I;exact y2e (uM H)
 intro ak bi;refine rN ?_;refine qM (ι:=Mem) 10 (λJ=>MLe ak J) (λ_=>[(48,vB ((((pr (mxT a c 0 1) 0 1)=(pr a 0 1))\/((pr (mxT a c 0 1) 0 1)=(pr b 0 1)))/\(((pr (mxT a c 0 1) 0 1)=(pr c 0 1))\/((pr (mxT a c 0 1) 0 1)=(pr d 0 1))))),(4,vP b4 0),(5,vP b5 0),(6,vP b6 0),(7,vP b7 0),(9,vP b9 0)]) (λ_=>[.var M 53 D,.var b9 53 C,.var b7 53 aa,.var b6 53 ab,.var b5 53 ac,.var b4 53 ad]) (λJ=>J) ?_ ?_
 ·
  refine yK (((pr (mxT a c 0 1) 0 1)=(pr a 0 1))\/((pr (mxT a c 0 1) 0 1)=(pr b 0 1))) (λH=>?_) (λH=>?_)
  ·
   refine gT H I (go1 ?_);refine lX (xB zR pH G) λeu dc=>(go1 ?_);refine lX (xB zR pH ap) λes db=>(go1 ?_);refine cL (ev2 I I) call193 (λw hs=>jQ hs dc (db.le (Le.t (Le.q (l:=k+1) oM))) oM) λbv h4 U da=>?_;obtain rfl:bv=vB ((pr (mxT a c 0 1) 0 1)=(pr c 0 1)):=da;refine qM (ι:=Mem) 5 (λJ=>MLe h4 J) (λ_=>[(47,vB (((pr (mxT a c 0 1) 0 1)=(pr c 0 1))\/((pr (mxT a c 0 1) 0 1)=(pr d 0 1)))),(4,vP b4 0),(5,vP b5 0),(6,vP b6 0),(7,vP b7 0),(9,vP b9 0),(39,.bool true)]) (λ_=>[.var M 53 D,.var b9 53 C,.var b7 53 aa,.var b6 53 ab,.var b5 53 ac,.var b4 53 ad]) (λJ=>J) ?_ ?_
   ·
    refine yK ((pr (mxT a c 0 1) 0 1)=(pr c 0 1)) (λH=>?_) (λH=>?_)
    ·
     refine go1 ?_;refine gT H I (go6 ?_);refine zY h4 (MLe.refl _) ⟨?_,I,I,I,I,I,I,y3i⟩ I I;exact y2e (uL H)
    refine go1 ?_;refine gF H I (go1 ?_);refine lX (xB zR pH G) λer cz=>(go1 ?_);refine lX (xB zR pH ao) λeq cy=>(go1 ?_);refine cL (ev2 I I) call193 (λw hs=>jQ hs cz (cy.le (Le.t (Le.q (l:=k+1) oM))) oM) λbu h5 bc cw=>?_;obtain rfl:bu=vB ((pr (mxT a c 0 1) 0 1)=(pr d 0 1)):=cw;refine go3 ?_;refine zY h5 bc ⟨?_,I,I,I,I,I,I,y3i⟩ I I;exact y2e (uM H)
   intro aq ai;refine rN ?_;refine go2 ?_;refine zY aq (U.trans ai) ⟨?_,I,I,I,I,I,y3i⟩ I I;exact y2e (wE H)
  refine gF H I (qE ?_);refine zY ak (MLe.refl _) ⟨?_,I,I,I,I,I,y3i⟩ I I;exact y2e (wG H)
 intro aj bh;refine rN ?_;refine qM (ι:=Mem) 6 (λJ=>MLe aj J) (λ_=>[(54,vB (((((pr (mxT a c 0 1) 0 1)=(pr a 0 1))\/((pr (mxT a c 0 1) 0 1)=(pr b 0 1)))/\(((pr (mxT a c 0 1) 0 1)=(pr c 0 1))\/((pr (mxT a c 0 1) 0 1)=(pr d 0 1))))/\(onS (pr a 0 1) (pr b 0 1) (pr (mxT a c 0 1) 0 1)))),(4,vP b4 0),(5,vP b5 0),(6,vP b6 0),(7,vP b7 0),(9,vP b9 0)]) (λ_=>[.var M 53 D,.var b9 53 C,.var b7 53 aa,.var b6 53 ab,.var b5 53 ac,.var b4 53 ad]) (λJ=>J) ?_ ?_
 ·
  refine yK ((((pr (mxT a c 0 1) 0 1)=(pr a 0 1))\/((pr (mxT a c 0 1) 0 1)=(pr b 0 1)))/\(((pr (mxT a c 0 1) 0 1)=(pr c 0 1))\/((pr (mxT a c 0 1) 0 1)=(pr d 0 1)))) (λH=>?_) (λH=>?_)
  ·
   refine gT H I (go1 ?_);refine lX (xB zR pH ax) λep cv=>(go1 ?_);refine lX (xB zR pH aw) λeo cu=>(go1 ?_);refine lX (xB zR pH G) λen ct=>(go1 ?_);refine cL (ev3 I I I) call206 (λw hs=>oP hs (cv.le (Le.t (Le.q (l:=k+1) oM))) (cu.le (Le.t (Le.q (l:=k+1) oM))) ct oM) λbt h4 U cq=>?_;obtain rfl:bt=vB (onS (pr a 0 1) (pr b 0 1) (pr (mxT a c 0 1) 0 1)):=cq;refine go2 ?_;refine zY h4 U ⟨?_,I,I,I,I,I,y3i⟩ I I;exact y2e (wE H)
  refine gF H I (go6 ?_);refine zY aj (MLe.refl _) ⟨?_,I,I,I,I,I,y3i⟩ I I;exact y2e (wG H)
 intro O bb;refine rN ?_;refine qM (ι:=Mem) 6 (λJ=>MLe O J) (λ_=>[(60,vB ((((((pr (mxT a c 0 1) 0 1)=(pr a 0 1))\/((pr (mxT a c 0 1) 0 1)=(pr b 0 1)))/\(((pr (mxT a c 0 1) 0 1)=(pr c 0 1))\/((pr (mxT a c 0 1) 0 1)=(pr d 0 1))))/\(onS (pr a 0 1) (pr b 0 1) (pr (mxT a c 0 1) 0 1)))/\(onS (pr c 0 1) (pr d 0 1) (pr (mxT a c 0 1) 0 1)))),(4,vP b4 0),(5,vP b5 0),(6,vP b6 0),(7,vP b7 0),(9,vP b9 0)]) (λ_=>[.var M 53 D,.var b9 53 C,.var b7 53 aa,.var b6 53 ab,.var b5 53 ac,.var b4 53 ad]) (λJ=>J) ?_ ?_
 ·
  refine yK (((((pr (mxT a c 0 1) 0 1)=(pr a 0 1))\/((pr (mxT a c 0 1) 0 1)=(pr b 0 1)))/\(((pr (mxT a c 0 1) 0 1)=(pr c 0 1))\/((pr (mxT a c 0 1) 0 1)=(pr d 0 1))))/\(onS (pr a 0 1) (pr b 0 1) (pr (mxT a c 0 1) 0 1))) (λH=>?_) (λH=>?_)
  ·
   refine gT H I (go1 ?_);refine lX (xB zR pH ap) λem cp=>(go1 ?_);refine lX (xB zR pH ao) λel co=>(go1 ?_);refine lX (xB zR pH G) λek cn=>(go1 ?_);refine cL (ev3 I I I) call206 (λw hs=>oP hs (cp.le (Le.t (Le.q (l:=k+1) oM))) (co.le (Le.t (Le.q (l:=k+1) oM))) cn oM) λbs h4 U cm=>?_;obtain rfl:bs=vB (onS (pr c 0 1) (pr d 0 1) (pr (mxT a c 0 1) 0 1)):=cm;refine go2 ?_;refine zY h4 U ⟨?_,I,I,I,I,I,y3i⟩ I I;exact y2e (wE H)
  refine gF H I (go6 ?_);refine zY O (MLe.refl _) ⟨?_,I,I,I,I,I,y3i⟩ I I;exact y2e (wG H)
 intro bk ba;refine rN ?_;refine gc3 (λbm=>?_) λbm=>?_
 ·
  refine go8 ?_;refine zF I I ?_;refine zbi vI ?_;rw[<-zGH I I];unfold zGI;grind
 refine go2 ?_;refine lX (xB zR pH ax) λej cl=>(lX (xB zR pH aw) λei ck=>(lX (xB zR pH G) λeh cj=>(cL (ev3 I I I) call206 (λw hs=>oP hs (cl.le (Le.t (Le.q (l:=k+1) oM))) (ck.le (Le.t (Le.q (l:=k+1) oM))) cj oM) λbr h4 U ci=>?_)));obtain rfl:br=vB (onS (pr a 0 1) (pr b 0 1) (pr (mxT a c 0 1) 0 1)):=ci;refine qM (ι:=Mem) 6 (λJ=>MLe h4 J) (λ_=>[(71,vB ((onS (pr a 0 1) (pr b 0 1) (pr (mxT a c 0 1) 0 1))/\(onS (pr c 0 1) (pr d 0 1) (pr (mxT a c 0 1) 0 1))))]) (λ_=>[.var M 53 D,.var b9 53 C,.var b7 53 aa,.var b6 53 ab,.var b5 53 ac,.var b4 53 ad]) (λJ=>J) ?_ ?_
 ·
  refine yK (onS (pr a 0 1) (pr b 0 1) (pr (mxT a c 0 1) 0 1)) (λH=>?_) (λH=>?_)
  ·
   refine gT H I (go1 ?_);refine lX (xB zR pH ap) λeg ch=>(go1 ?_);refine lX (xB zR pH ao) λef cg=>(go1 ?_);refine lX (xB zR pH G) λee cf=>(go1 ?_);refine cL (ev3 I I I) call206 (λw hs=>oP hs (ch.le (Le.t (Le.q (l:=k+1) oM))) (cg.le (Le.t (Le.q (l:=k+1) oM))) cf oM) λbq h5 bc ce=>?_;obtain rfl:bq=vB (onS (pr c 0 1) (pr d 0 1) (pr (mxT a c 0 1) 0 1)):=ce;refine go2 ?_;refine zY h5 bc ⟨?_,y3i⟩ I I;exact y2e (wE H)
  refine gF H I (go6 ?_);refine zY h4 (MLe.refl _) ⟨?_,y3i⟩ I I;exact y2e (wG H)
 intro bp bg;refine rN ?_;refine gc3 (λbl=>?_) λbl=>?_
 ·
  refine go8 ?_;refine zF I I ?_;refine zbi vI ?_;rw[<-zGH I I];unfold zGI;grind
 refine go9 ?_;refine zF I I ?_;refine zbi vI ?_;rw[<-zGH I I];unfold zGI;grind
theorem zL7{k:Nat}{va:Value}{a:Tq}(ra:(tPt k).Is h0 va a){vb:Value}{b:Tq}(rb:(tPt k).Is h0 vb b){vc:Value}{c:Tq}(rc:(tPt k).Is h0 vc c){vd:Value}{d:Tq}(rd:(tPt k).Is h0 vd d)(hcd0:k<=10000):
 Calls prog 205 #[va,vb,vc,vd] w0 (Ret w0 h0 (λ_ r=>r=vI (dZ (pr a 0 1) (pr b 0 1) (pr c 0 1) (pr d 0 1)))):=by
 refine fF (n:=29) (e:=[(0,va),(1,vb),(2,vc),(3,vd)]) (vs:=[va,vb,vc,vd]) func205 rfl rfl (bL rfl) hs e4z (go2 ?_);refine nB ra λb4 ad U=>(nB rb λb5 ac ah=>(nB rc λb6 ab O=>(nB rd λb7 aa ae=>(go6 ?_))));refine lX (xB zR pH U) λv9 r9=>(lX (xB zR pH ah) λbo bd=>(cL (ev2 I I) call193 (λw hs=>jQ hs r9 bd oM) λao h1 bp bc=>?_));obtain rfl:ao=vB ((pr a 0 1)=(pr b 0 1)):=bc;refine qM (ι:=Mem) 6 (λH=>MLe h1 H) (λ_=>[(17,vB (((pr a 0 1)=(pr b 0 1))/\(onS (pr c 0 1) (pr d 0 1) (pr a 0 1)))),(4,vP b4 0),(5,vP b5 0),(6,vP b6 0),(7,vP b7 0)]) (λ_=>[.var b7 53 aa,.var b6 53 ab,.var b5 53 ac,.var b4 53 ad]) (λH=>H) ?_ ?_
 ·
  refine yK ((pr a 0 1)=(pr b 0 1)) (λC=>?_) (λC=>?_)
  ·
   refine gT C I (go1 ?_);refine lX (xB zR pH O) λbn bb=>(go1 ?_);refine lX (xB zR pH ae) λbm ba=>(go1 ?_);refine lX (xB zR pH U) λbl az=>(go1 ?_);refine cL (ev3 I I I) call206 (λw hs=>oP hs bb ba az oM) λan h2 Z ay=>?_;obtain rfl:an=vB (onS (pr c 0 1) (pr d 0 1) (pr a 0 1)):=ay;refine go2 ?_;refine zY h2 Z ⟨?_,I,I,I,I,y3i⟩ I I;exact y2e (wE C)
  refine gF C I (go6 ?_);refine zY h1 (MLe.refl _) ⟨?_,I,I,I,I,y3i⟩ I I;exact y2e (wG C)
 intro G aj;refine rN ?_;refine qM (ι:=Mem) 11 (λH=>MLe G H) (λ_=>[(28,vB ((((pr a 0 1)=(pr b 0 1))/\(onS (pr c 0 1) (pr d 0 1) (pr a 0 1)))\/(((pr c 0 1)=(pr d 0 1))/\(onS (pr a 0 1) (pr b 0 1) (pr c 0 1)))))]) (λ_=>[.var b7 53 aa,.var b6 53 ab,.var b5 53 ac,.var b4 53 ad]) (λH=>H) ?_ ?_
 ·
  refine yK (((pr a 0 1)=(pr b 0 1))/\(onS (pr c 0 1) (pr d 0 1) (pr a 0 1))) (λC=>?_) (λC=>?_)
  ·
   refine gT C I (jI ?_);refine zY G (MLe.refl _) ⟨?_,y3i⟩ I I;exact y2e (uL C)
  refine gF C I (go1 ?_);refine lX (xB zR pH O) λbk ax=>(go1 ?_);refine lX (xB zR pH ae) λbj aw=>(go1 ?_);refine cL (ev2 I I) call193 (λw hs=>jQ hs ax aw oM) λam h2 Z av=>?_;obtain rfl:am=vB ((pr c 0 1)=(pr d 0 1)):=av;refine qM (ι:=Mem) 6 (λH=>MLe h2 H) (λ_=>[(27,vB (((pr c 0 1)=(pr d 0 1))/\(onS (pr a 0 1) (pr b 0 1) (pr c 0 1)))),(18,.bool false)]) (λ_=>[.var b7 53 aa,.var b6 53 ab,.var b5 53 ac,.var b4 53 ad]) (λH=>H) ?_ ?_
  ·
   refine yK ((pr c 0 1)=(pr d 0 1)) (λC=>?_) (λC=>?_)
   ·
    refine go1 ?_;refine gT C I (go1 ?_);refine lX (xB zR pH U) λbi au=>(go1 ?_);refine lX (xB zR pH ah) λbh ar=>(go1 ?_);refine lX (xB zR pH O) λbg aq=>(go1 ?_);refine cL (ev3 I I I) call206 (λw hs=>oP hs au ar aq oM) λak h3 bf ap=>?_;obtain rfl:ak=vB (onS (pr a 0 1) (pr b 0 1) (pr c 0 1)):=ap;refine go3 ?_;refine zY h3 bf ⟨?_,I,y3i⟩ I I;exact y2e (wE C)
   refine go1 ?_;refine gF C I (go7 ?_);refine zY h2 (MLe.refl _) ⟨?_,I,y3i⟩ I I;exact y2e (wG C)
  intro M D;refine rN ?_;refine go2 ?_;refine zY M (Z.trans D) ⟨?_,y3i⟩ I I;exact y2e (uM C)
 intro be ai;refine rN ?_;refine gc2 (λJ=>?_) λJ=>?_
 ·
  refine go7 ?_;refine zF I I ?_;exact zbi vI (zau J).symm
 refine go8 ?_;refine zF I I ?_;exact zbi vI (zae J).symm
theorem zFY{k:Nat}{va:Value}{a:Tq}(ra:(tPt k).Is h0 va a){vb:Value}{b:Tq}(rb:(tPt k).Is h0 vb b){vc:Value}{c:Tq}(rc:(tPt k).Is h0 vc c){vd:Value}{d:Tq}(rd:(tPt k).Is h0 vd d)(hcd0:k<=5000):
 Calls prog 194 #[va,vb,vc,vd] w0 (Ret w0 h0 (λ_ r=>r=vI (oF (pr a 0 1) (pr b 0 1) (pr c 0 1) (pr d 0 1)))):=by
 refine fF (n:=117) (e:=[(0,va),(1,vb),(2,vc),(3,vd)]) (vs:=[va,vb,vc,vd]) func194 rfl rfl (bL rfl) hs e4z (go2 ?_);refine nB ra λb4 kb cc=>(nB rb λb5 ka cb=>(nB rc λb6 jz ca=>(nB rd λb7 jy bz=>(go4 ?_))));refine zK 8 _ [] [(0,.q),(2,.q),(4,.q),(6,.q),(1,.c),(3,.c),(5,.c),(7,.c),(8,.t),(9,.t),(10,.t),(11,.t)] yA nX (wV zot) nX (λr hr=>hr) (wX I (xB zR pH cc) λjq gj=>(wX I (xB zR pH cb) λjo gh=>(wX I (xB zR pH ca) λjm gf=>(wX I (xB zR pH bz) λjk gc=>?_))));refine w_c I (sC (ev1 I) call201 (λw hs=>cY hs gj) λjp h1 jw gi=>?_);refine w_c I (sC (ev1 I) call201 (λw hs=>cY hs gh.up) λjn h2 jv gg=>?_);refine w_c I (sC (ev1 I) call201 (λw hs=>cY hs gf.up) λjl h3 ju ge=>?_);refine w_c I (sC (ev1 I) call201 (λw hs=>cY hs gc.up) λjj h4 jt gb=>?_);have bd:=(Le.t (Le.q (l:=k+1) oM)).R cc;refine yG (A:=[_,_,_]) I (uB sizeOf53 pH bd gi) λbp ad=>?_;have bc:=(Le.t (Le.q (l:=k+1) oM)).R cb;refine yG (A:=[_,_]) I (uB sizeOf53 pH bc gg) λbo ac=>?_;have bb:=(Le.t (Le.q (l:=k+1) oM)).R ca;refine yG (A:=[_]) I (uB sizeOf53 pH bb ge) λaz ab=>?_;have ba:=(Le.t (Le.q (l:=k+1) oM)).R bz;refine yG (A:=[]) I (uB sizeOf53 pH ba gb) λay aa=>(go2 ?_);refine jC (ι:=List Value×List Value×Mem) (λ(D,C,m1)=>MLe h4 m1/\((tPt (k+1)).R m1 D (loT (zZ a) (zZ b) 0 1)/\(tPt (k+1)).R m1 C (hiT (zZ a) (zZ b) 0 1)/\True)) (λ(D,C,m1)=>[(4,vP b4 0),(5,vP b5 0),(6,vP b6 0),(7,vP b7 0)]) (λ(D,C,m1)=>[.var b7 53 ay,.var b6 53 az,.var b5 53 C,.var b4 53 D]) (λ(D,C,m1)=>m1) ?_ ?_
 ·
  refine go2 ?_;refine lX (xB zR pH ac) λji ga=>(lX (xB zR pH ad) λjh fz=>(cL (ev2 I I) call202 (λw hs=>pR hs ga fz oM) λdp h5 ap fy=>?_));obtain rfl:dp=vB (lx (pr (zZ b) 0 1) (pr (zZ a) 0 1)):=fy;refine gc2 (λaj=>?_) λaj=>?_
  ·
   refine go1 ?_;refine lX (xB zR pH ac) λjg fx=>(lX (xB zR pH ad) λjf fw=>(zU (A:=[_,_,_]) (uB sizeOf53 pH ad fx) λbn bh=>(zU (A:=[_,_]) (uB sizeOf53 pH ac fw) λbm bg=>(go1 ?_))));refine zY (bn,bm,h5) ?_ e4z I I;refine⟨ap,?_⟩;refine⟨(Rp.castR bh (zau aj).symm),(Rp.castR bg (zau aj).symm),?_⟩
   trivial
  refine go1 ?_;refine zY (bp,bo,h5) ?_ e4z I I;refine⟨ap,?_⟩;refine⟨(Rp.castR ad.up (zae aj).symm),(Rp.castR ac.up (zae aj).symm),?_⟩
  trivial
 rintro⟨D,C,m1⟩ ⟨ha,ah⟩
 refine yW ?_;obtain⟨U,O,ah⟩:=ah;refine jC (ι:=List Value×List Value×Mem) (λ(H,G,m2)=>MLe m1 m2/\((tPt (k+1)).R m2 H (loT (zZ c) (zZ d) 0 1)/\(tPt (k+1)).R m2 G (hiT (zZ c) (zZ d) 0 1)/\True)) (λ(H,G,m2)=>[(4,vP b4 0),(5,vP b5 0),(6,vP b6 0),(7,vP b7 0)]) (λ(H,G,m2)=>[.var b7 53 G,.var b6 53 H,.var b5 53 C,.var b4 53 D]) (λ(H,G,m2)=>m2) ?_ ?_
 ·
  refine go2 ?_;refine lX (xB zR pH aa) λje fv=>(lX (xB zR pH ab) λjd fu=>(cL (ev2 I I) call202 (λw hs=>pR hs fv fu oM) λdn h5 ap ft=>?_));obtain rfl:dn=vB (lx (pr (zZ d) 0 1) (pr (zZ c) 0 1)):=ft;refine gc2 (λai=>?_) λai=>?_
  ·
   refine go1 ?_;refine lX (xB zR pH aa) λjc fs=>(lX (xB zR pH ab) λjb fr=>(zU (A:=[_]) (uB sizeOf53 pH ab fs) λbl bf=>(zU (A:=[]) (uB sizeOf53 pH aa fr) λbk be=>(go1 ?_))));refine zY (bl,bk,h5) ?_ e4z I I;refine⟨ap,?_⟩;refine⟨(Rp.castR bf (zau ai).symm),(Rp.castR be (zau ai).symm),?_⟩
   trivial
  refine go1 ?_;refine zY (az,ay,h5) ?_ e4z I I;refine⟨ap,?_⟩;refine⟨(Rp.castR ab.up (zae ai).symm),(Rp.castR aa.up (zae ai).symm),?_⟩
  trivial
 rintro⟨H,G,m2⟩ ⟨gz,ah⟩
 refine yW ?_;obtain⟨M,J,ah⟩:=ah;refine go3 ?_;refine lX (xB zR pH U) λja fq=>(lX (xB zR pH O) λiz fp=>(lX (xB zR pH M) λiy fo=>(cL (ev3 I I I) call203 (λw hs=>tY hs fq fp fo oM) λdm h5 ap fm=>?_)));obtain rfl:dm=vI (orZ (pr (loT (zZ a) (zZ b) 0 1) 0 1) (pr (hiT (zZ a) (zZ b) 0 1) 0 1) (pr (loT (zZ c) (zZ d) 0 1) 0 1)):=fm;have gq:=rS (pr (loT (zZ a) (zZ b) 0 1) 0 1) (pr (hiT (zZ a) (zZ b) 0 1) 0 1) (pr (loT (zZ c) (zZ d) 0 1) 0 1);refine go1 ?_;refine qM (ι:=Mem) 7 (λm_=>MLe h5 m_) (λ_=>[(40,vB (((orZ (pr (loT (zZ a) (zZ b) 0 1) 0 1) (pr (hiT (zZ a) (zZ b) 0 1) 0 1) (pr (loT (zZ c) (zZ d) 0 1) 0 1))=(0:Int))/\((orZ (pr (loT (zZ a) (zZ b) 0 1) 0 1) (pr (hiT (zZ a) (zZ b) 0 1) 0 1) (pr (hiT (zZ c) (zZ d) 0 1) 0 1))=(0:Int)))),(4,vP b4 0),(5,vP b5 0),(6,vP b6 0),(7,vP b7 0)]) (λ_=>[.var b7 53 G,.var b6 53 H,.var b5 53 C,.var b4 53 D]) (λm_=>m_) ?_ ?_
 ·
  refine yK ((orZ (pr (loT (zZ a) (zZ b) 0 1) 0 1) (pr (hiT (zZ a) (zZ b) 0 1) 0 1) (pr (loT (zZ c) (zZ d) 0 1) 0 1))=(0:Int)) (λZ=>?_) (λZ=>?_)
  ·
   refine gT Z I (go1 ?_);refine lX (xB zR pH U) λix fl=>(go1 ?_);refine lX (xB zR pH O) λiw fk=>(go1 ?_);refine lX (xB zR pH J) λiv fj=>(go1 ?_);refine cL (ev3 I I I) call203 (λw hs=>tY hs fl fk fj oM) λdl h6 ak fi=>?_;obtain rfl:dl=vI (orZ (pr (loT (zZ a) (zZ b) 0 1) 0 1) (pr (hiT (zZ a) (zZ b) 0 1) 0 1) (pr (hiT (zZ c) (zZ d) 0 1) 0 1)):=fi;have go:=rS (pr (loT (zZ a) (zZ b) 0 1) 0 1) (pr (hiT (zZ a) (zZ b) 0 1) 0 1) (pr (hiT (zZ c) (zZ d) 0 1) 0 1);refine go4 ?_;refine zY h6 ak ⟨?_,I,I,I,I,y3i⟩ I I;exact y2e (wE Z)
  refine gF Z I (go7 ?_);refine zY h5 (MLe.refl _) ⟨?_,I,I,I,I,y3i⟩ I I;exact y2e (wG Z)
 intro aq cq;refine rN ?_;refine qM (ι:=Mem) 7 (λm_=>MLe aq m_) (λ_=>[(47,vB ((((orZ (pr (loT (zZ a) (zZ b) 0 1) 0 1) (pr (hiT (zZ a) (zZ b) 0 1) 0 1) (pr (loT (zZ c) (zZ d) 0 1) 0 1))=(0:Int))/\((orZ (pr (loT (zZ a) (zZ b) 0 1) 0 1) (pr (hiT (zZ a) (zZ b) 0 1) 0 1) (pr (hiT (zZ c) (zZ d) 0 1) 0 1))=(0:Int)))/\((orZ (pr (loT (zZ c) (zZ d) 0 1) 0 1) (pr (hiT (zZ c) (zZ d) 0 1) 0 1) (pr (loT (zZ a) (zZ b) 0 1) 0 1))=(0:Int)))),(4,vP b4 0),(5,vP b5 0),(6,vP b6 0),(7,vP b7 0)]) (λ_=>[.var b7 53 G,.var b6 53 H,.var b5 53 C,.var b4 53 D]) (λm_=>m_) ?_ ?_
 ·
  refine yK (((orZ (pr (loT (zZ a) (zZ b) 0 1) 0 1) (pr (hiT (zZ a) (zZ b) 0 1) 0 1) (pr (loT (zZ c) (zZ d) 0 1) 0 1))=(0:Int))/\((orZ (pr (loT (zZ a) (zZ b) 0 1) 0 1) (pr (hiT (zZ a) (zZ b) 0 1) 0 1) (pr (hiT (zZ c) (zZ d) 0 1) 0 1))=(0:Int))) (λZ=>?_) (λZ=>?_)
  ·
   refine gT Z I (go1 ?_);refine lX (xB zR pH M) λiu fh=>(go1 ?_);refine lX (xB zR pH J) λir fg=>(go1 ?_);refine lX (xB zR pH U) λiq ff=>(go1 ?_);refine cL (ev3 I I I) call203 (λw hs=>tY hs fh fg ff oM) λdk h6 ak fe=>?_;obtain rfl:dk=vI (orZ (pr (loT (zZ c) (zZ d) 0 1) 0 1) (pr (hiT (zZ c) (zZ d) 0 1) 0 1) (pr (loT (zZ a) (zZ b) 0 1) 0 1)):=fe;have gn:=rS (pr (loT (zZ c) (zZ d) 0 1) 0 1) (pr (hiT (zZ c) (zZ d) 0 1) 0 1) (pr (loT (zZ a) (zZ b) 0 1) 0 1);refine go4 ?_;refine zY h6 ak ⟨?_,I,I,I,I,y3i⟩ I I;exact y2e (wE Z)
  refine gF Z I (go7 ?_);refine zY aq (MLe.refl _) ⟨?_,I,I,I,I,y3i⟩ I I;exact y2e (wG Z)
 intro am br;refine rN ?_;refine qM (ι:=Mem) 7 (λm_=>MLe am m_) (λ_=>[(54,vB (((((orZ (pr (loT (zZ a) (zZ b) 0 1) 0 1) (pr (hiT (zZ a) (zZ b) 0 1) 0 1) (pr (loT (zZ c) (zZ d) 0 1) 0 1))=(0:Int))/\((orZ (pr (loT (zZ a) (zZ b) 0 1) 0 1) (pr (hiT (zZ a) (zZ b) 0 1) 0 1) (pr (hiT (zZ c) (zZ d) 0 1) 0 1))=(0:Int)))/\((orZ (pr (loT (zZ c) (zZ d) 0 1) 0 1) (pr (hiT (zZ c) (zZ d) 0 1) 0 1) (pr (loT (zZ a) (zZ b) 0 1) 0 1))=(0:Int)))/\((orZ (pr (loT (zZ c) (zZ d) 0 1) 0 1) (pr (hiT (zZ c) (zZ d) 0 1) 0 1) (pr (hiT (zZ a) (zZ b) 0 1) 0 1))=(0:Int)))),(4,vP b4 0),(5,vP b5 0),(6,vP b6 0),(7,vP b7 0)]) (λ_=>[.var b7 53 G,.var b6 53 H,.var b5 53 C,.var b4 53 D]) (λm_=>m_) ?_ ?_
 ·
  refine yK ((((orZ (pr (loT (zZ a) (zZ b) 0 1) 0 1) (pr (hiT (zZ a) (zZ b) 0 1) 0 1) (pr (loT (zZ c) (zZ d) 0 1) 0 1))=(0:Int))/\((orZ (pr (loT (zZ a) (zZ b) 0 1) 0 1) (pr (hiT (zZ a) (zZ b) 0 1) 0 1) (pr (hiT (zZ c) (zZ d) 0 1) 0 1))=(0:Int)))/\((orZ (pr (loT (zZ c) (zZ d) 0 1) 0 1) (pr (hiT (zZ c) (zZ d) 0 1) 0 1) (pr (loT (zZ a) (zZ b) 0 1) 0 1))=(0:Int))) (λZ=>?_) (λZ=>?_)
  ·
   refine gT Z I (go1 ?_);refine lX (xB zR pH M) λip fd=>(go1 ?_);refine lX (xB zR pH J) λio fc=>(go1 ?_);refine lX (xB zR pH O) λim fb=>(go1 ?_);refine cL (ev3 I I I) call203 (λw hs=>tY hs fd fc fb oM) λdj h6 ak fa=>?_;obtain rfl:dj=vI (orZ (pr (loT (zZ c) (zZ d) 0 1) 0 1) (pr (hiT (zZ c) (zZ d) 0 1) 0 1) (pr (hiT (zZ a) (zZ b) 0 1) 0 1)):=fa;have gm:=rS (pr (loT (zZ c) (zZ d) 0 1) 0 1) (pr (hiT (zZ c) (zZ d) 0 1) 0 1) (pr (hiT (zZ a) (zZ b) 0 1) 0 1);refine go4 ?_;refine zY h6 ak ⟨?_,I,I,I,I,y3i⟩ I I;exact y2e (wE Z)
  refine gF Z I (go7 ?_);refine zY am (MLe.refl _) ⟨?_,I,I,I,I,y3i⟩ I I;exact y2e (wG Z)
 intro cz bq;refine rN ?_;refine gc2 (λcw=>?_) λcw=>?_
 ·
  refine go2 ?_;refine lX (xB zR pH U) λil ez=>(lX (xB zR pH O) λik ey=>(lX (xB zR pH M) λij ew=>(lX (xB zR pH J) λii ev=>(cL (ev4 I I I I) call204 (λw hs=>zTD hs ez ey ew ev oM) λdi h6 ak eu=>?_))));obtain rfl:di=vI (zD2 (pr (loT (zZ a) (zZ b) 0 1) 0 1) (pr (hiT (zZ a) (zZ b) 0 1) 0 1) (pr (loT (zZ c) (zZ d) 0 1) 0 1) (pr (hiT (zZ c) (zZ d) 0 1) 0 1)):=eu;refine go5 ?_;refine zF I I ?_;refine zbi vI ?_;rw[<-zA4 I I I I];unfold s7;grind
 refine go5 ?_;refine lX (xB zR pH U) λih es=>(lX (xB zR pH O) λig er=>(cL (ev2 I I) call193 (λw hs=>jQ hs es er oM) λdh h6 ak eq=>?_));obtain rfl:dh=vB ((pr (loT (zZ a) (zZ b) 0 1) 0 1)=(pr (hiT (zZ a) (zZ b) 0 1) 0 1)):=eq;refine qM (ι:=Mem) 5 (λm_=>MLe h6 m_) (λ_=>[(67,vB (((pr (loT (zZ a) (zZ b) 0 1) 0 1)=(pr (hiT (zZ a) (zZ b) 0 1) 0 1))\/((pr (loT (zZ c) (zZ d) 0 1) 0 1)=(pr (hiT (zZ c) (zZ d) 0 1) 0 1)))),(4,vP b4 0),(5,vP b5 0),(6,vP b6 0),(7,vP b7 0)]) (λ_=>[.var b7 53 G,.var b6 53 H,.var b5 53 C,.var b4 53 D]) (λm_=>m_) ?_ ?_
 ·
  refine yK ((pr (loT (zZ a) (zZ b) 0 1) 0 1)=(pr (hiT (zZ a) (zZ b) 0 1) 0 1)) (λZ=>?_) (λZ=>?_)
  ·
   refine gT Z I (go5 ?_);refine zY h6 (MLe.refl _) ⟨?_,I,I,I,I,y3i⟩ I I;exact y2e (uL Z)
  refine gF Z I (go1 ?_);refine lX (xB zR pH M) λie ep=>(go1 ?_);refine lX (xB zR pH J) λid eo=>(go1 ?_);refine cL (ev2 I I) call193 (λw hs=>jQ hs ep eo oM) λdf h7 bj en=>?_;obtain rfl:df=vB ((pr (loT (zZ c) (zZ d) 0 1) 0 1)=(pr (hiT (zZ c) (zZ d) 0 1) 0 1)):=en;refine go2 ?_;refine zY h7 bj ⟨?_,I,I,I,I,y3i⟩ I I;exact y2e (uM Z)
 intro gk cp;refine rN ?_;refine gc2 (λcv=>?_) λcv=>?_
 ·
  refine go2 ?_;refine lX (xB zR pH U) λic em=>(lX (xB zR pH O) λib el=>(lX (xB zR pH M) λia ek=>(lX (xB zR pH J) λhw ej=>(cL (ev4 I I I I) call205 (λw hs=>zL7 hs em el ek ej oM) λde h7 bj ei=>?_))));obtain rfl:de=vI (dZ (pr (loT (zZ a) (zZ b) 0 1) 0 1) (pr (hiT (zZ a) (zZ b) 0 1) 0 1) (pr (loT (zZ c) (zZ d) 0 1) 0 1) (pr (hiT (zZ c) (zZ d) 0 1) 0 1)):=ei;refine go5 ?_;refine zF I I ?_;refine zbi vI ?_;rw[<-zA4 I I I I];unfold s7;grind
 refine go3 ?_;refine zK 20 _ [] [(0,.q),(1,.q),(2,.q),(4,.q),(5,.q),(6,.q),(9,.q),(10,.q),(11,.q),(13,.q),(14,.q),(15,.q),(3,.c),(7,.c),(8,.q),(12,.c),(16,.c),(17,.q),(18,.q),(19,.q)] yA nX (wV zot) nX (λr hr=>hr) (wX I (xB zR pH U) λhv eh=>(wX I (xB zR pH O) λhu eg=>(wX I (xB zR pH M) λht ef=>(wX I (xB zR pH U) λhq ed=>(wX I (xB zR pH O) λhp ec=>(wX I (xB zR pH J) λho eb=>(wX I (xB zR pH M) λhn dz=>(wX I (xB zR pH J) λhm dy=>(wX I (xB zR pH U) λhl dx=>(wX I (xB zR pH M) λhk dv=>(wX I (xB zR pH J) λhj du=>(wX I (xB zR pH O) λhf dt=>?_))))))))))));refine w_c I (sC (ev3 I I I) call203 (λw hs=>tY hs eh eg ef oM) λdd h7 bj ee=>?_);obtain rfl:dd=vI (orZ (pr (loT (zZ a) (zZ b) 0 1) 0 1) (pr (hiT (zZ a) (zZ b) 0 1) 0 1) (pr (loT (zZ c) (zZ d) 0 1) 0 1)):=ee;have aw:=rS (pr (loT (zZ a) (zZ b) 0 1) 0 1) (pr (hiT (zZ a) (zZ b) 0 1) 0 1) (pr (loT (zZ c) (zZ d) 0 1) 0 1);refine w_c I (sC (ev3 I I I) call203 (λw hs=>tY hs ed.up ec.up eb.up oM) λdc h8 js ea=>?_);obtain rfl:dc=vI (orZ (pr (loT (zZ a) (zZ b) 0 1) 0 1) (pr (hiT (zZ a) (zZ b) 0 1) 0 1) (pr (hiT (zZ c) (zZ d) 0 1) 0 1)):=ea;have av:=rS (pr (loT (zZ a) (zZ b) 0 1) 0 1) (pr (hiT (zZ a) (zZ b) 0 1) 0 1) (pr (hiT (zZ c) (zZ d) 0 1) 0 1);refine xD I (λ_ _=>aX I I (by have:=w6 aw av;omega) (by have:=w6 aw av;omega)) I ?_;refine w_c I (sC (ev3 I I I) call203 (λw hs=>tY hs dz.up dy.up dx.up oM) λdb h9 jr dw=>?_);obtain rfl:db=vI (orZ (pr (loT (zZ c) (zZ d) 0 1) 0 1) (pr (hiT (zZ c) (zZ d) 0 1) 0 1) (pr (loT (zZ a) (zZ b) 0 1) 0 1)):=dw;have au:=rS (pr (loT (zZ c) (zZ d) 0 1) 0 1) (pr (hiT (zZ c) (zZ d) 0 1) 0 1) (pr (loT (zZ a) (zZ b) 0 1) 0 1);refine w_c I (sC (ev3 I I I) call203 (λw hs=>tY hs dv.up du.up dt.up oM) λda jx hd dr=>?_);obtain rfl:da=vI (orZ (pr (loT (zZ c) (zZ d) 0 1) 0 1) (pr (hiT (zZ c) (zZ d) 0 1) 0 1) (pr (hiT (zZ a) (zZ b) 0 1) 0 1)):=dr;have ar:=rS (pr (loT (zZ c) (zZ d) 0 1) 0 1) (pr (hiT (zZ c) (zZ d) 0 1) 0 1) (pr (hiT (zZ a) (zZ b) 0 1) 0 1);refine xD I (λ_ _=>aX I I (by have:=w6 au ar;omega) (by have:=w6 au ar;omega)) I (qE ?_);refine gU 4 97 (vB (((0:Int)<((orZ (pr (loT (zZ a) (zZ b) 0 1) 0 1) (pr (hiT (zZ a) (zZ b) 0 1) 0 1) (pr (loT (zZ c) (zZ d) 0 1) 0 1))*(orZ (pr (loT (zZ a) (zZ b) 0 1) 0 1) (pr (hiT (zZ a) (zZ b) 0 1) 0 1) (pr (hiT (zZ c) (zZ d) 0 1) 0 1))))\/((0:Int)<((orZ (pr (loT (zZ c) (zZ d) 0 1) 0 1) (pr (hiT (zZ c) (zZ d) 0 1) 0 1) (pr (loT (zZ a) (zZ b) 0 1) 0 1))*(orZ (pr (loT (zZ c) (zZ d) 0 1) 0 1) (pr (hiT (zZ c) (zZ d) 0 1) 0 1) (pr (hiT (zZ a) (zZ b) 0 1) 0 1)))))) ?_ ?_
 ·
  refine yK ((0:Int)<((orZ (pr (loT (zZ a) (zZ b) 0 1) 0 1) (pr (hiT (zZ a) (zZ b) 0 1) 0 1) (pr (loT (zZ c) (zZ d) 0 1) 0 1))*(orZ (pr (loT (zZ a) (zZ b) 0 1) 0 1) (pr (hiT (zZ a) (zZ b) 0 1) 0 1) (pr (hiT (zZ c) (zZ d) 0 1) 0 1)))) (λZ=>?_) (λZ=>?_)
  ·
   refine gT Z I (go4 ?_);refine gqU ?_;exact y2e (uL Z)
  refine gF Z I (go6 ?_);refine gqU ?_;exact y2e (uM Z)
 refine gc3 (λcu=>?_) λcu=>?_
 ·
  refine go8 ?_;refine zF I I ?_;refine zbi vI ?_;rw[<-zA4 I I I I];unfold s7;grind
 refine go2 ?_;refine lX (xB zR pH U) λhe dq=>(lX (xB zR pH M) λgy cn=>(cL (ev2 I I) call193 (λw hs=>jQ hs dq cn oM) λbx cy hc cm=>?_));obtain rfl:bx=vB ((pr (loT (zZ a) (zZ b) 0 1) 0 1)=(pr (loT (zZ c) (zZ d) 0 1) 0 1)):=cm;refine qM (ι:=Mem) 5 (λm_=>MLe cy m_) (λ_=>[(106,vB (((pr (loT (zZ a) (zZ b) 0 1) 0 1)=(pr (loT (zZ c) (zZ d) 0 1) 0 1))\/((pr (loT (zZ a) (zZ b) 0 1) 0 1)=(pr (hiT (zZ c) (zZ d) 0 1) 0 1)))),(5,vP b5 0),(6,vP b6 0),(7,vP b7 0)]) (λ_=>[.var b7 53 G,.var b6 53 H,.var b5 53 C,.var b4 53 D]) (λm_=>m_) ?_ ?_
 ·
  refine yK ((pr (loT (zZ a) (zZ b) 0 1) 0 1)=(pr (loT (zZ c) (zZ d) 0 1) 0 1)) (λZ=>?_) (λZ=>?_)
  ·
   refine gT Z I (go5 ?_);refine zY cy (MLe.refl _) ⟨?_,I,I,I,y3i⟩ I I;exact y2e (uL Z)
  refine gF Z I (go1 ?_);refine lX (xB zR pH U) λgx cl=>(go1 ?_);refine lX (xB zR pH J) λgw ck=>(go1 ?_);refine cL (ev2 I I) call193 (λw hs=>jQ hs cl ck oM) λbw ax ae cj=>?_;obtain rfl:bw=vB ((pr (loT (zZ a) (zZ b) 0 1) 0 1)=(pr (hiT (zZ c) (zZ d) 0 1) 0 1)):=cj;refine go2 ?_;refine zY ax ae ⟨?_,I,I,I,y3i⟩ I I;exact y2e (uM Z)
 intro ao bt;refine rN ?_;refine qM (ι:=Mem) 5 (λm_=>MLe ao m_) (λ_=>[(111,vB ((((pr (loT (zZ a) (zZ b) 0 1) 0 1)=(pr (loT (zZ c) (zZ d) 0 1) 0 1))\/((pr (loT (zZ a) (zZ b) 0 1) 0 1)=(pr (hiT (zZ c) (zZ d) 0 1) 0 1)))\/((pr (hiT (zZ a) (zZ b) 0 1) 0 1)=(pr (loT (zZ c) (zZ d) 0 1) 0 1)))),(5,vP b5 0),(7,vP b7 0)]) (λ_=>[.var b7 53 G,.var b6 53 H,.var b5 53 C,.var b4 53 D]) (λm_=>m_) ?_ ?_
 ·
  refine yK (((pr (loT (zZ a) (zZ b) 0 1) 0 1)=(pr (loT (zZ c) (zZ d) 0 1) 0 1))\/((pr (loT (zZ a) (zZ b) 0 1) 0 1)=(pr (hiT (zZ c) (zZ d) 0 1) 0 1))) (λZ=>?_) (λZ=>?_)
  ·
   refine gT Z I (go5 ?_);refine zY ao (MLe.refl _) ⟨?_,I,I,y3i⟩ I I;exact y2e (uL Z)
  refine gF Z I (go1 ?_);refine lX (xB zR pH O) λgu ci=>(go1 ?_);refine lX (xB zR pH M) λgt ch=>(go1 ?_);refine cL (ev2 I I) call193 (λw hs=>jQ hs ci ch oM) λbv ax ae cg=>?_;obtain rfl:bv=vB ((pr (hiT (zZ a) (zZ b) 0 1) 0 1)=(pr (loT (zZ c) (zZ d) 0 1) 0 1)):=cg;refine go2 ?_;refine zY ax ae ⟨?_,I,I,y3i⟩ I I;exact y2e (uM Z)
 intro an bs;refine rN ?_;refine qM (ι:=Mem) 5 (λm_=>MLe an m_) (λ_=>[(116,vB (((((pr (loT (zZ a) (zZ b) 0 1) 0 1)=(pr (loT (zZ c) (zZ d) 0 1) 0 1))\/((pr (loT (zZ a) (zZ b) 0 1) 0 1)=(pr (hiT (zZ c) (zZ d) 0 1) 0 1)))\/((pr (hiT (zZ a) (zZ b) 0 1) 0 1)=(pr (loT (zZ c) (zZ d) 0 1) 0 1)))\/((pr (hiT (zZ a) (zZ b) 0 1) 0 1)=(pr (hiT (zZ c) (zZ d) 0 1) 0 1))))]) (λ_=>[.var b7 53 G,.var b6 53 H,.var b5 53 C,.var b4 53 D]) (λm_=>m_) ?_ ?_
 ·
  refine yK ((((pr (loT (zZ a) (zZ b) 0 1) 0 1)=(pr (loT (zZ c) (zZ d) 0 1) 0 1))\/((pr (loT (zZ a) (zZ b) 0 1) 0 1)=(pr (hiT (zZ c) (zZ d) 0 1) 0 1)))\/((pr (hiT (zZ a) (zZ b) 0 1) 0 1)=(pr (loT (zZ c) (zZ d) 0 1) 0 1))) (λZ=>?_) (λZ=>?_)
  ·
   refine gT Z I (go5 ?_);refine zY an (MLe.refl _) ⟨?_,y3i⟩ I I;exact y2e (uL Z)
  refine gF Z I (go1 ?_);refine lX (xB zR pH O) λgs cf=>(go1 ?_);refine lX (xB zR pH J) λgr ce=>(go1 ?_);refine cL (ev2 I I) call193 (λw hs=>jQ hs cf ce oM) λbu ax ae cd=>?_;obtain rfl:bu=vB ((pr (hiT (zZ a) (zZ b) 0 1) 0 1)=(pr (hiT (zZ c) (zZ d) 0 1) 0 1)):=cd;refine go2 ?_;refine zY ax ae ⟨?_,y3i⟩ I I;exact y2e (uM Z)
 intro co bi;refine rN ?_;refine gc3 (λct=>?_) λct=>?_
 ·
  refine go8 ?_;refine zF I I ?_;refine zbi vI ?_;rw[<-zA4 I I I I];unfold s7;grind
 refine go9 ?_;refine zF I I ?_;refine zbi vI ?_;rw[<-zA4 I I I I];unfold s7;grind
theorem zMB{k:Nat}{vl:Value}{l:(List Tq)}(rl:(tLs k).Is h0 vl l){vp:Value}{p:Tq}(rp:(tPt k).Is h0 vp p)(hcd0:k<=9900)(hcd1:l.length<=1000):
 Calls prog 195 #[vl,vp] w0 (Ret w0 h0 (λ_ r=>r=vI (zAR l (pr p 0 1) 0 1))):=by
 refine cb2 66 vl vp func195 hs ?_;refine go2 ?_;refine nB rp λb3 ae ac=>(u5 ?_);refine gcL (ι:=Nat×Mem) (λ(m,ma)=>(MLe h0 ma/\(m<=l.length/\∀q,q<m->¬onS (gP l 0 1 q) (gO l 0 1 q) (pr p 0 1)),[(0,vl),(3,vP b3 0),(5,vB (bS l (pr p 0 1) 0 1 m)),(6,vI ↑m)],[.var b3 53 ae],ma,l.length-m)) (0,h0) ?_ ?_ (he:=⟨I,I,y2e (yZ id).symm,I,y3i⟩)
 · exact⟨mle,by omega,λq hq=>by omega⟩
 rintro⟨m,ma⟩ ⟨cm,aw,ad⟩
 refine yW ?_;refine gc9 (λax=>?_) λax=>?_
 ·
  refine go5 ?_;refine zK 16 _ [(12,(7,53,y5e)),(13,(8,53,y5e))] (zai 0 12 [(12,.a),(13,.a),(14,.c),(15,.c)]) yA (jT.cons I I (uX yO I I) (jT.cons I I (uX yO I I) jT.nil)) (wV zot) (qA I I (qA I I kO)) (λr hr=>hr) (go2 ?_);refine wX I (xI zT m underlying46 zR rl) λdl cg=>(wX I (xA zR cg) λdk cf=>(go4 ?_));refine w_q I (λh' L' hh hR=>jA underlying46 I (rl.up.mono hh)) I (xD I (λ_ _=>vC I I oM oM) I (wX I (xI zT ((m+1)%l.length) underlying46 zR rl (hi:=by exact zcu _ oM)) λdj ce=>(wX I (xA zR ce) λdi cd=>?_)));refine w_a I I (λb7=>?_);have bh:(tPt (k+1)).R ma y5e zT:=(yS (yE oM));refine w_a I I (λb8=>?_);have bg:(tPt (k+1)).R ma y5e zT:=(yS (yE oM));refine w_c I (cD (A:=[_]) (uB sizeOf53 pH bh (cf.le (Le.t (Le.q (l:=k+1) oM)))) (wA zox) λba H=>?_);refine w_c I (cD (A:=[]) (uB sizeOf53 pH bg (cd.le (Le.t (Le.q (l:=k+1) oM)))) (wA zox) λaz G=>(go4 ?_));refine zK 7 _ [] [(0,.q),(2,.q),(4,.q),(1,.c),(3,.c),(5,.c),(6,.c)] yA nX zot nX (λr hr=>hr) (wX I (xB zR pH H) λdh cc=>(wX I (xB zR pH G) λde cb=>(wX I (xB zR pH ac) λdc ca=>?_)));refine w_c I (sC (ev1 I) call201 (λw hs=>cY hs cc) λdf h1 dq ao=>?_);replace ao:=Rp.Is.le ao (Le.t (Le.q (l:=k+2) oM));refine w_c I (sC (ev1 I) call201 (λw hs=>cY hs cb.up) λdd h2 dp an=>?_);replace an:=Rp.Is.le an (Le.t (Le.q (l:=k+2) oM));refine w_c I (sC (ev1 I) call201 (λw hs=>cY hs ca.up) λdb h3 dn bz=>?_);refine w_c I (sC (ev3 I I I) call206 (λw hs=>oP hs ao.up an.up (bz.le (Le.t (Le.q (l:=k+2) oM))) oM) λbf h4 dm bx=>?_);obtain rfl:bf=vB (onS (pr (T3.mk ((l.getD m zT).x) ((l.getD m zT).y) (0:Rat)) 0 1) (pr (T3.mk ((l.getD ((m+1)%l.length) zT).x) ((l.getD ((m+1)%l.length) zT).y) (0:Rat)) 0 1) (pr (zZ p) 0 1)):=bx;refine gc2 (λU=>?_) λU=>?_
  ·
   refine jF ?_;refine zF I I ?_;exact zbi vI (yGI oM U)
  refine go2 ?_;refine jC (ι:=List Value×List Value×Mem) (λ(D,C,mc)=>MLe h4 mc/\((tPt (k+1)).R mc D (zCL (l.getD m zT) (l.getD ((m+1)%l.length) zT))/\(tPt (k+1)).R mc C (zD6 (l.getD m zT) (l.getD ((m+1)%l.length) zT))/\True)) (λ(D,C,mc)=>[(0,vl),(3,vP b3 0),(5,vB (bS l (pr p 0 1) 0 1 m)),(6,vI ↑m),(7,vP b7 0),(8,vP b8 0)]) (λ(D,C,mc)=>[.var b8 53 C,.var b7 53 D,.var b3 53 ae]) (λ(D,C,mc)=>mc) ?_ ?_
  ·
   refine go3 ?_;refine lX (xB yJ (y5i pH) H) λda bw=>(go1 ?_);refine lX (xB yJ (y5i pH) G) λcz bv=>(cL (ev2 I I) call18 (λw hs=>tN hs bw bv oM) λbe h5 ar bu=>?_);obtain rfl:be=vI (vH ((l.getD m zT).y) ((l.getD ((m+1)%l.length) zT).y)):=bu;have ck:=gQ ((l.getD m zT).y) ((l.getD ((m+1)%l.length) zT).y);refine gc3 (λM=>?_) λM=>?_
   ·
    refine go1 ?_;refine lX (xB zR pH G) λcy bt=>(lX (xB zR pH H) λcw bs=>(zU (A:=[_]) (uB sizeOf53 pH H bt) λay am=>(zU (A:=[]) (uB sizeOf53 pH G bs) λau ak=>(go1 ?_))));refine zY (ay,au,h5) ?_ e6z I I;refine⟨ar,?_⟩;refine⟨(Rp.castR am (zau M).symm),(Rp.castR ak (zau M).symm),?_⟩
    trivial
   refine go1 ?_;refine zY (ba,az,h5) ?_ e6z I I;refine⟨ar,?_⟩;refine⟨(Rp.castR H.up (zae M).symm),(Rp.castR G.up (zae M).symm),?_⟩
   trivial
  rintro⟨D,C,mc⟩ ⟨cl,aj⟩
  refine yW ?_;obtain⟨ai,ah,aj⟩:=aj;refine go3 ?_;refine lX (xB yJ (y5i pH) ai) λcv br=>(go1 ?_);refine lX (xB yJ (y5i pH) ac) λcu bq=>(cL (ev2 I I) call18 (λw hs=>tN hs br bq oM) λbd h5 ar bp=>?_);obtain rfl:bd=vI (vH ((zCL (l.getD m zT) (l.getD ((m+1)%l.length) zT)).y) p.y):=bp;have cj:=gQ ((zCL (l.getD m zT) (l.getD ((m+1)%l.length) zT)).y) p.y;refine go1 ?_;refine qM (ι:=Mem) 8 (λm_=>MLe h5 m_) (λ_=>[(55,vB (((vH ((zCL (l.getD m zT) (l.getD ((m+1)%l.length) zT)).y) p.y)<=(0:Int))/\((vH p.y ((zD6 (l.getD m zT) (l.getD ((m+1)%l.length) zT)).y))<(0:Int)))),(0,vl),(3,vP b3 0),(5,vB (bS l (pr p 0 1) 0 1 m)),(6,vI ↑m),(7,vP b7 0),(8,vP b8 0)]) (λ_=>[.var b8 53 C,.var b7 53 D,.var b3 53 ae]) (λm_=>m_) ?_ ?_
  ·
   refine yK ((vH ((zCL (l.getD m zT) (l.getD ((m+1)%l.length) zT)).y) p.y)<=(0:Int)) (λZ=>?_) (λZ=>?_)
   ·
    refine gT Z I (go3 ?_);refine lX (xB yJ (y5i pH) ac) λct bo=>(go3 ?_);refine lX (xB yJ (y5i pH) ah) λcq bn=>(go1 ?_);refine cL (ev2 I I) call18 (λw hs=>tN hs bo bn oM) λbc h6 aq bm=>?_;obtain rfl:bc=vI (vH p.y ((zD6 (l.getD m zT) (l.getD ((m+1)%l.length) zT)).y)):=bm;have ci:=gQ p.y ((zD6 (l.getD m zT) (l.getD ((m+1)%l.length) zT)).y);refine go4 ?_;refine zY h6 aq ⟨?_,I,I,I,I,I,I,y3i⟩ I I;exact y2e (wE Z)
   refine gF Z I (go8 ?_);refine zY h5 (MLe.refl _) ⟨?_,I,I,I,I,I,I,y3i⟩ I I;exact y2e (wG Z)
  intro O av;refine rN ?_;refine qM (ι:=Mem) 7 (λm_=>MLe O m_) (λ_=>[(62,vB ((((vH ((zCL (l.getD m zT) (l.getD ((m+1)%l.length) zT)).y) p.y)<=(0:Int))/\((vH p.y ((zD6 (l.getD m zT) (l.getD ((m+1)%l.length) zT)).y))<(0:Int)))/\((0:Int)<(orZ (pr (zCL (l.getD m zT) (l.getD ((m+1)%l.length) zT)) 0 1) (pr (zD6 (l.getD m zT) (l.getD ((m+1)%l.length) zT)) 0 1) (pr p 0 1))))),(0,vl),(3,vP b3 0),(5,vB (bS l (pr p 0 1) 0 1 m)),(6,vI ↑m)]) (λ_=>[.var b8 53 C,.var b7 53 D,.var b3 53 ae]) (λm_=>m_) ?_ ?_
  ·
   refine yK (((vH ((zCL (l.getD m zT) (l.getD ((m+1)%l.length) zT)).y) p.y)<=(0:Int))/\((vH p.y ((zD6 (l.getD m zT) (l.getD ((m+1)%l.length) zT)).y))<(0:Int))) (λZ=>?_) (λZ=>?_)
   ·
    refine gT Z I (go1 ?_);refine lX (xB zR pH ai) λcp bl=>(go1 ?_);refine lX (xB zR pH ah) λco bk=>(go1 ?_);refine lX (xB zR pH ac) λcn bj=>(go1 ?_);refine cL (ev3 I I I) call203 (λw hs=>tY hs bl bk (bj.le (Le.t (Le.q (l:=k+1) oM))) oM) λbb h6 aq bi=>?_;obtain rfl:bb=vI (orZ (pr (zCL (l.getD m zT) (l.getD ((m+1)%l.length) zT)) 0 1) (pr (zD6 (l.getD m zT) (l.getD ((m+1)%l.length) zT)) 0 1) (pr p 0 1)):=bi;have ch:=rS (pr (zCL (l.getD m zT) (l.getD ((m+1)%l.length) zT)) 0 1) (pr (zD6 (l.getD m zT) (l.getD ((m+1)%l.length) zT)) 0 1) (pr p 0 1);refine go4 ?_;refine zY h6 aq ⟨?_,I,I,I,I,y3i⟩ I I;exact y2e (wE Z)
   refine gF Z I (go7 ?_);refine zY O (MLe.refl _) ⟨?_,I,I,I,I,y3i⟩ I I;exact y2e (wG Z)
  intro J ap;refine rN ?_;refine gc2 (λab=>?_) λab=>?_
  ·
   refine jF ?_;refine uR (A:=[]) (uR (A:=[]) ?_);refine gqL ((m+1),J) ?_ ?_ (he:=⟨I,I,zbi (λz=>some (vB z)) (yFN ((zGY _ _ _).1 ab)),I,y3i⟩)
   · exact⟨mle,by omega,zQ5 ad U⟩
   omega
  refine go8 ?_;refine uR (A:=[]) (uR (A:=[]) ?_);refine gqL ((m+1),J) ?_ ?_ (he:=⟨I,I,zbi (λz=>some (vB z)) (yA5 λe=>ab ((zGY _ _ _).2 e)),I,y3i⟩)
  · exact⟨mle,by omega,zQ5 ad U⟩
  omega
 refine zGT (λaa=>?_) λaa=>?_
 ·
  refine go7 ?_;refine zF I I ?_;exact zbi vI (yGJ oM aw ad aa)
 refine go8 ?_;refine zF I I ?_;exact zbi vI (yBT oM aw ad aa)
end
end Go.Proofs.YtboaboflnckgoaaGreat
namespace Bk
open Classical
def zSI(R:Nat->Nat->Prop)(q b:Nat):Prop:=∀p,p<b->R p q
def zLA(R:Nat->Nat->Prop)(a:Nat):Prop:=∀q,q<a->zSI R q q
theorem zUR{R:Nat->Nat->Prop}:zLA R 0:=λq h=>by omega
theorem zZV{R:Nat->Nat->Prop}{q:Nat}:zSI R q 0:=λp h=>by omega
theorem zZW{R:Nat->Nat->Prop}{q b:Nat}(h:zSI R q b)(h1:R b q):zSI R q (b+1):=λp h3=>by
 rcases znu.1 h3 with h4|h4
 · exact h p h4
 · subst h4;exact h1
theorem zUS{R:Nat->Nat->Prop}{a b:Nat}(h:zLA R a)(h1:zSI R a b)(hb:a<=b):zLA R (a+1):=λq h2=>by
 rcases znu.1 h2 with h5|h5
 · exact h q h5
 · subst h5;exactλp hp=>h1 p zos
def zY4(l:List Pt)(k i:Nat):Prop:=yJH l 0 1 k i/\okT l 0 1 k i
theorem yAE{l:List Pt}(h3:3<=l.length)(h:zLA (zY4 l) l.length):aG l 0 1:=
 ⟨h3,λp q h1 h2 h4=>(h q h4 p h2).1,λp q h1 h2 h4=>(h q h4 p h2).2⟩
theorem zWK{l:List Pt}{k i:Nat}:oF (gP l 0 1 i) (gO l 0 1 i) (gP l 0 1 k) (gO l 0 1 k)=zHR l.length k i↔okT l 0 1 k i:=by
 unfold okT;rw[<-zK9,zE5]
end Bk
namespace Go.Proofs.YtboaboflnckgoaaGreat
open Bk Go Tryz
attribute [local irreducible] GL GC GQ W OpV
section
variable{w0:World}{h0:Mem}(hs:MLe h0 (mem w0))
include hs
theorem zL8{k:Nat}{vl:Value}{l:(List Tq)}(rl:(tLs k).Is h0 vl l)(hcd0:k<=5000)(hcd1:l.length<=1000):
 Calls prog 168 #[vl] w0 (Ret w0 h0 (λ_ r=>r=vB (aG l 0 1))):=by
 refine cb1 69 vl func168 hs ?_;refine yJC ?_;refine cnd (λaa=>?_) λaa=>?_
 ·
  refine go7 ?_;refine zF I I ?_;exact(yZ (λe=>by have:=e.1;omega)).symm
 refine go9 ?_;refine gcL (ι:=Nat×Mem) (λ(i,J)=>(MLe h0 J/\(i<=l.length/\zLA (zY4 l) i),[(0,vl),(3,vI (↑(l).length:Int)),(4,vI ↑i)],[],J,l.length-i)) (0,h0) ?_ ?_
 · exact⟨mle,by omega,zUR⟩
 rintro⟨i,J⟩ ⟨ay,bn,hi2⟩
 refine yW ?_;refine gc8 (λZ=>?_) λZ=>?_
 ·
  refine qE ?_;refine gcL (ι:=Nat×Mem) (λ(q,mq)=>(MLe J mq/\(q<=i/\zSI (zY4 l) i q),[(0,vl),(3,vI (↑(l).length:Int)),(4,vI ↑i),(5,vI ↑q)],[],mq,i-q)) (0,J) ?_ ?_
  · exact⟨mle,by omega,zZV⟩
  rintro⟨q,mq⟩ ⟨ax,bm,M⟩
  refine yW ?_;refine gc8 (λU=>?_) λU=>?_
  ·
   refine go6 ?_;refine zK 9 _ [] (zai 0 8 [(8,.c)]) yA nX zot nX (λr hr=>hr) (go2 ?_);refine wX I (xI zT i underlying46 zR rl) λbl av=>(wX I (xA zR av) λbk au=>(go2 ?_));refine wX I (xI zT q underlying46 zR rl) λbj ar=>(wX I (xA zR ar) λbi aq=>?_);refine w_c I (sC (ev2 I I) call193 (λw hs=>jQ hs au aq oM) λac h1 bp ap=>?_);obtain rfl:ac=vB ((pr (l.getD i zT) 0 1)=(pr (l.getD q zT) 0 1)):=ap;refine gc2 (λG=>?_) λG=>?_
   ·
    refine zDD ?_;refine zF I I ?_;exact(yZ (λe=>e.2.1 q i oM oM oM G.symm)).symm
   refine go7 ?_;refine jC (ι:=Mem) (λ(H:(Mem))=>MLe h1 H/\(True)) (λ(H:(Mem))=>[(0,vl),(3,vI (↑(l).length:Int)),(4,vI ↑i),(5,vI ↑q),(6,vI (zHR l.length q i))]) (λ(H:(Mem))=>[]) (λ(H:(Mem))=>H) ?_ ?_
   ·
    refine go6 ?_;refine gU 10 43 (vB (((↑i:Int)=((↑q:Int)+(1:Int)))\/(((↑q:Int)=(0:Int))/\((↑i:Int)=((↑(l).length:Int)-(1:Int)))))) ?_ ?_
    ·
     refine yK ((↑i:Int)=((↑q:Int)+(1:Int))) (λC=>?_) (λC=>?_)
     ·
      refine gT C I (qE ?_);refine gqU ?_;exact y2e (uL C)
     refine gF C I (go4 ?_);refine gU 6 42 (vB (((↑q:Int)=(0:Int))/\((↑i:Int)=((↑(l).length:Int)-(1:Int))))) ?_ ?_
     ·
      refine yK ((↑q:Int)=(0:Int)) (λC=>?_) (λC=>?_)
      ·
       refine go1 ?_;refine gT C I (jI ?_);refine gqU ?_;exact y2e (wE C)
      refine go1 ?_;refine gF C I (go7 ?_);refine gqU ?_;exact y2e (wG C)
     refine go2 ?_;refine gqU ?_;exact y2e (uM C)
    refine gc2 (λO=>?_) λO=>?_
    ·
     refine go3 ?_;refine zY (h1) ?_ ⟨I,I,I,I,?_,y3i⟩ I I
     ·
      refine⟨MLe.refl _,?_⟩
      trivial
     · exact zbi (λz=>some (vI z)) (yDL oM)
    refine go1 ?_;refine zY (h1) ?_ ⟨I,I,I,I,?_,y3i⟩ I I
    ·
     refine⟨MLe.refl _,?_⟩
     trivial
    · exact zbi (λz=>some (vI z)) (yDM oM)
   rintro H ⟨aw,az⟩
   refine yW ?_;refine go1 ?_;refine zK 25 _ [] (zai 0 22 [(23,.q),(22,.c),(24,.q)]) yA nX (wV zot) nX (λr hr=>hr) (go2 ?_);refine wX I (xI zT i underlying46 zR rl) λbh ao=>(wX I (xA zR ao) λbg an=>(go4 ?_));refine xD I (λ_ _=>vC I I oM oM) I (wX I (xI zT ((i+1)%l.length) underlying46 zR rl (hi:=by exact zcu _ oM)) λbf am=>(wX I (xA zR am) λbe ak=>(go2 ?_)));refine wX I (xI zT q underlying46 zR rl) λbd aj=>(wX I (xA zR aj) λbc ai=>(go4 ?_));refine xD I (λ_ _=>vC I I oM oM) I (wX I (xI zT ((q+1)%l.length) underlying46 zR rl (hi:=by exact zcu _ oM)) λbb ah=>(wX I (xA zR ah) λba ae=>(go1 ?_)));refine w_c I (sC (ev4 I I I I) call194 (λw hs=>zFY hs an ak ai ae oM) λab h2 bo ad=>?_);obtain rfl:ab=vI (oF (pr (l.getD i zT) 0 1) (pr (l.getD ((i+1)%l.length) zT) 0 1) (pr (l.getD q zT) 0 1) (pr (l.getD ((q+1)%l.length) zT) 0 1)):=ad;refine gc3 (λD=>?_) λD=>?_
   ·
    refine u5 ?_;refine zF I I ?_;exact(yZ (λe=>D (zWK.2 (e.2.2 q i oM oM oM)))).symm
   refine go8 ?_;refine gqL ((q+1),h2) ?_ ?_
   · exact⟨mle,by omega,zZW M ⟨λe=>G e.symm,zWK.1 (zdi D)⟩⟩
   omega
  refine jI ?_;refine gqL ((i+1),mq) ?_ ?_
  · exact⟨mle,by omega,zUS hi2 M oM⟩
  omega
 have ei:i=l.length:=by omega
 have hT:=hi2;rw[ei] at hT;refine jI ?_;refine zF I I ?_;exact(wB (yAE oM hT)).symm
theorem zJ0{k:Nat}{va:Value}{a:(List Tq)}(ra:(tLs k).Is h0 va a){vb:Value}{b:(List Tq)}(rb:(tLs k).Is h0 vb b)(hcd0:k<=5000)(hcd1:a.length<=1000)(hcd2:b.length<=1000):
 Calls prog 169 #[va,vb] w0 (Ret w0 h0 (λ_ r=>r=vB (fD a b 0 1))):=by
 refine cb2 45 va vb func169 hs ?_;refine jF ?_;refine gcL (ι:=Nat×Mem) (λ(p,D)=>(MLe h0 D/\(p<=a.length/\∀u v,u<p->v<b.length->¬s4 a b 0 1 u v),[(0,va),(1,vb),(5,vI ↑p)],[],D,a.length-p)) (0,h0) ?_ ?_
 · exact⟨mle,by omega,λu v h=>by omega⟩
 rintro⟨p,D⟩ ⟨am,ay,H⟩
 refine yW ?_;refine gc9 (λM=>?_) λM=>?_
 ·
  refine qE ?_;refine gcL (ι:=Nat×Mem) (λ(q,O)=>(MLe D O/\(q<=b.length/\∀v,v<q->¬s4 a b 0 1 p v),[(0,va),(1,vb),(5,vI ↑p),(6,vI ↑q)],[],O,b.length-q)) (0,D) ?_ ?_
  · exact⟨mle,by omega,λv h=>by omega⟩
  rintro⟨q,O⟩ ⟨ak,ax,G⟩
  refine yW ?_;refine gc9 (λJ=>?_) λJ=>?_
  ·
   refine go5 ?_;refine zK 26 _ [] (zai 0 24 [(24,.c),(25,.q)]) yA nX (wV zot) nX (λr hr=>hr) (go2 ?_);refine wX I (xI zT p underlying46 zR ra) λaw aj=>(wX I (xA zR aj) λav ai=>(go4 ?_));refine w_q I (λh' L' hh hR=>jA underlying46 I (ra.up.mono hh)) I (xD I (λ_ _=>vC I I oM oM) I (wX I (xI zT ((p+1)%a.length) underlying46 zR ra (hi:=by exact zcu _ oM)) λau ah=>(wX I (xA zR ah) λar ae=>(go2 ?_))));refine wX I (xI zT q underlying46 zR rb) λaq ad=>(wX I (xA zR ad) λap ac=>(go4 ?_));refine w_q I (λh' L' hh hR=>jA underlying46 I (rb.up.mono hh)) I (xD I (λ_ _=>vC I I oM oM) I (wX I (xI zT ((q+1)%b.length) underlying46 zR rb (hi:=by exact zcu _ oM)) λao ab=>(wX I (xA zR ab) λan aa=>?_)));refine w_c I (sC (ev4 I I I I) call194 (λw hs=>zFY hs ai ae ac aa oM) λU h1 az Z=>?_);obtain rfl:U=vI (oF (pr (a.getD p zT) 0 1) (pr (a.getD ((p+1)%a.length) zT) 0 1) (pr (b.getD q zT) 0 1) (pr (b.getD ((q+1)%b.length) zT) 0 1)):=Z;refine gc3 (λC=>?_) λC=>?_
   ·
    refine u5 ?_;refine zF I I ?_;exact(wB ⟨p,q,by omega,by omega,(zYR.1 C)⟩).symm
   refine go8 ?_;refine gqL ((q+1),h1) ?_ ?_
   · exact⟨mle,by omega,zVP (n:=0) (Q:=s4 a b 0 1) G (λe=>C (zYR.2 e))⟩
   omega
  refine jI ?_;refine gqL ((p+1),O) ?_ ?_
  · exact⟨mle,by omega,zS4 H G oM⟩
  omega
 refine jI ?_;refine zF I I ?_;exact(yZ (λ⟨u,v,h1,h2,h3⟩=>H u v oM h2 h3)).symm
theorem zMA{k:Nat}{vp:Value}{p:Tq}(rp:(tPt k).Is h0 vp p){vq:Value}{q:Tq}(rq:(tPt k).Is h0 vq q)(hcd0:k<=100000):
 Calls prog 196 #[vp,vq] w0 (Ret w0 h0 (λh r=>(tPt (2*k+2)).Is h r (T3.mk (zC8 p.x q.x) (zC8 p.y q.y) (0:Rat)))):=by
 refine cb2 16 vp vq func196 hs ?_;refine go2 ?_;refine nB rp λb2 ap M=>(nB rq λb3 ao J=>(nA (ρ:=(tPt (2*k+2))) (X:=zT) yO (yS (yE oM)) λb4 an O=>(go3 ?_)));refine zK 11 _ [] (zai 0 4 (zai 5 4 [(4,.c),(9,.c),(10,.q),(11,.t)])) yA nX (wV zot) nX (λr hr=>hr) (go1 ?_);refine wX I (xB yJ (y4e pH) M) λv6 r6=>(go1 ?_);refine wX I (xB yJ (y4e pH) J) λv8 r8=>(go1 ?_);refine wX I (xB yJ (y5i pH) M) λaj ab=>(go1 ?_);refine wX I (xB yJ (y5i pH) J) λai aa=>?_;refine w_c I (sC (ev2 I I) call38 (λw hs=>zFU hs r6 r8 oM) λv9 h1 am U=>?_);replace U:=Rp.Is.le U (Le.q (l:=2*k+2) oM);refine w_c I (sC (ev2 I I) call38 (λw hs=>zFU hs ab.up aa.up oM) λah h2 ak C=>?_);replace C:=Rp.Is.le C (Le.q (l:=2*k+2) oM);refine wX I (xV (ρ:=(tPt (2*k+2))) (wI (ps':=[(0,_),(1,_)]) underlying53 yO I I sizeOf26 e4z I (yS (yE oM)) (zC I (y4e (y3u _)) U.up (zC I (y5i (y3u _)) C zQ)))) λae Z=>(yG (A:=[]) I (uB sizeOf53 pH O Z) λac H=>(go3 ?_));refine xH (qK (t:=4) zR mh0 I H) ?_;intro ad D G;refine yI (λE S=>zS I D E S) ?_;exact G
theorem zDZ{k:Nat}{va:Value}{a:(List Tq)}(ra:(tLs k).Is h0 va a){vb:Value}{b:(List Tq)}(rb:(tLs k).Is h0 vb b)(hcd0:k<=2000)(hcd1:a.length<=1000)(hcd2:b.length<=1000):
 Calls prog 172 #[va,vb] w0 (Ret w0 h0 (λ_ r=>r=vI (wiZ a b 0 1))):=by
 refine cb2 32 va vb func172 hs ?_;refine iD ?_;refine gcL (ι:=Nat×Mem) (λ(m,ma)=>(MLe h0 ma/\(m<=b.length),[(0,va),(1,vb),(5,vI (pW a b 0 1 m)),(6,vI ↑m)],[],ma,b.length-m)) (0,h0) ?_ ?_
 · exact⟨mle,oM⟩
 rintro⟨m,ma⟩ ⟨ab,D⟩
 refine yW ?_;have ak:=D;have aj:=oC a b 0 1 m;refine gc9 (λG=>?_) λG=>?_
 ·
  refine go5 ?_;refine zK 16 _ [] (zai 0 13 [(13,.c),(14,.c),(15,.q)]) yA nX (wV zot) nX (λr hr=>hr) (go3 ?_);refine wX I (xI zT m underlying46 zR rb) λai aa=>(wX I (xA zR aa) λah Z=>(go4 ?_));refine w_q I (λh' L' hh hR=>jA underlying46 I (rb.up.mono hh)) I (xD I (λ_ _=>vC I I oM oM) I (wX I (xI zT ((m+1)%b.length) underlying46 zR rb (hi:=by exact zcu _ oM)) λae U=>(wX I (xA zR U) λad O=>?_)));refine w_c I (sC (ev2 I I) call196 (λw hs=>zMA hs Z O oM) λac h1 an M=>?_);refine w_c I (sC (ev2 I I) call195 (λw hs=>zMB hs (ra.up.le (Le.s (Le.t (Le.q (l:=2*k+2) oM)))) M oM oM) λH h2 am J=>?_);obtain rfl:H=vI (zAR a (pr (T3.mk (zC8 (b.getD m zT).x (b.getD ((m+1)%b.length) zT).x) (zC8 (b.getD m zT).y (b.getD ((m+1)%b.length) zT).y) (0:Rat)) 0 1) 0 1):=J;refine gc3 (λC=>?_) λC=>?_
  ·
   refine jF ?_;refine gqL ((m+1),h2) ?_ ?_ (he:=⟨I,I,zbi (λz=>some (vI z)) (yDI (yCU _ _) C),I,y3i⟩)
   · exact⟨mle,oM⟩
   omega
  refine go8 ?_;refine gqL ((m+1),h2) ?_ ?_ (he:=⟨I,I,zbi (λz=>some (vI z)) (yDJ (yCU _ _) C),I,y3i⟩)
  · exact⟨mle,oM⟩
  omega
 refine jF ?_;refine zF I I ?_;have em:m=b.length:=by omega
 subst em
 rfl
theorem zL9{k:Nat}{vL:Value}{L:(List (List Tq))}(rL:(tLL k).Is h0 vL L){f:Nat}(hcd0:f<L.length)(hcd1:L.length<=16)(hcd2:k<=2000)(hcd3:∀u,u<L.length->¬64<(gl L u).length):
 Calls prog 171 #[vL,vI ↑f] w0 (Ret w0 h0 (λ_ r=>r=vI (sG L 0 1 f L.length))):=by
 have M:=hcd3;refine cb2 55 vL (vI ↑f) func171 hs ?_;refine iD ?_;refine gcL (ι:=Nat×Mem) (λ(g,ma)=>(MLe h0 ma/\(g<=L.length),[(0,vL),(1,vI ↑f),(5,vI (sG L 0 1 f g)),(6,vI ↑g)],[],ma,L.length-g)) (0,h0) ?_ ?_
 · exact⟨mle,oM⟩
 rintro⟨g,ma⟩ ⟨ba,bx⟩
 refine yW ?_;have bq:=zC1 L 0 1 f g;refine gc9 (λJ=>?_) λJ=>?_
 ·
  refine go6 ?_;refine zK 24 _ [] (zai 0 4 ((4,.c)::(5,.c)::zai 6 10 (zai 17 5 [(16,.c),(22,.q),(23,.q)]))) yA nX (wV zot) nX (λr hr=>hr) (go2 ?_);refine wX I (xI [] g underlying115 qD rL) λbp aw=>(wX I (xA qD aw) λbo av=>?_);refine w_c I (sC (ev1 I) call170 (λw hs=>pS hs av oM (by first|omega|exact zci (z1u.1 (M _ oM)) dC|exact zci (hF _ oM) dC)) λbn h1 bw au=>?_);refine w_c I (sC (ev1 I) call17 (λw hs=>vX hs au dC) λZ h2 bv ar=>?_);obtain rfl:Z=vI (yU (uU (L.getD g []) 0 1 (L.getD g []).length)):=ar;have ay:=xW (uU (L.getD g []) 0 1 (L.getD g []).length);refine go2 ?_;refine tJ ((yU (uU (L.getD g []) 0 1 (L.getD g []).length))<=(0:Int)) (λG=>?_) (λG=>?_)
  ·
   rw[wB G];refine pV ?_;refine w_c I (zBI I I I I (rT ?_));refine gqL ((g+1),h2) ?_ ?_ (he:=⟨I,I,zbi (λz=>some (vI z)) ((zae (λe=>absurd e.1.1 (Int.not_lt.2 zo3))).symm),I,y3i⟩)
   · exact⟨mle,oM⟩
   omega
  rw[yZ G];refine xG I I I (λh' L' hh hR=>xL I) I (xG I I I (λh' L' hh hR=>xL I) I (oX I (xI [] g underlying115 qD rL) λbm aq=>(oX I (xA qD aq) λbl ap=>(xG I I I (λh' L' hh hR=>xL I) I (xG I I I (λh' L' hh hR=>xL I) I (oX I (xI [] f underlying115 qD rL) λbk ao=>(oX I (xA qD ao) λbj an=>(xG I I I (λh' L' hh hR=>xL I) I (xG I I I (λh' L' hh hR=>xL I) I (oX I (xI [] f underlying115 qD rL) λbi ak=>(oX I (xA qD ak) λbh aj=>(xG I I I (λh' L' hh hR=>jA underlying46 I (aj.mono hh)) I ?_))))))))))));refine w_c I (rC I I (sC (ev2 I I) call172 (λw hs=>zDZ hs ap an oM (by first|omega|exact zci (z1u.1 (M _ oM)) dC|exact zci (hF _ oM) dC) (by first|omega|exact zci (z1u.1 (M _ oM)) dC|exact zci (hF _ oM) dC)) λU h3 bu am=>?_));obtain rfl:U=vI (wiZ (L.getD g []) (L.getD f []) 0 1):=am;have ax:=oC (L.getD g []) (L.getD f []) 0 1 (L.getD f []).length;refine gc4 (λC=>?_) λC=>?_
  ·
   refine go9 ?_;refine gqL ((g+1),h3) ?_ ?_ (he:=⟨I,I,zbi (λz=>some (vI z)) ((zae (λe=>C e.1.2)).symm),I,y3i⟩)
   · exact⟨mle,oM⟩
   omega
  refine go3 ?_;refine zK 16 _ [] (zai 0 7 (zai 8 4 [(7,.c),(12,.c),(13,.c),(14,.q),(15,.q)])) yA nX (wV zot) nX (λr hr=>hr) (go3 ?_);refine tJ ((sG L 0 1 f g)<(0:Int)) (λD=>?_) (λD=>?_)
  ·
   rw[wB D];refine go8 ?_;refine w_c I (zBI I I I I ?_);refine w_c I (zBI I I I I ?_);refine w_c I (zBI I I I I (zDD ?_));refine gqL ((g+1),h3) ?_ ?_ (he:=⟨I,I,zbi (λz=>some (vI z)) ((zau ⟨⟨ywi.1 zo3,zdi C⟩,.inl zo3⟩).symm),I,y3i⟩)
   · exact⟨mle,oM⟩
   omega
  rw[yZ D];refine xG I I I (λh' L' hh hR=>xL I) I (xG I I I (λh' L' hh hR=>xL I) I (oX I (xI [] g underlying115 qD rL) λbg ai=>(oX I (xA qD ai) λbf ah=>(xG I I I (λh' L' hh hR=>xL I) I (xG I I I (λh' L' hh hR=>xL I) I (oX I (xI [] ((sG L 0 1 f g).toNat) underlying115 qD rL) λbd ad=>(oX I (xA qD ad) λbc ac=>?_)))))));refine w_c I (rC I I (sC (ev1 I) call170 (λw hs=>pS hs ah oM (by first|omega|exact zci (z1u.1 (M _ oM)) dC|exact zci (hF _ oM) dC)) λbe h4 bt ae=>?_));refine w_c I (rC I I (sC (ev1 I) call170 (λw hs=>pS hs ac.up oM (by first|omega|exact zci (z1u.1 (M _ oM)) dC|exact zci (hF _ oM) dC)) λbb h5 bs ab=>?_));refine w_c I (rC I I (sC (ev2 I I) call18 (λw hs=>tN hs ae.up ab dC) λO h6 br aa=>?_));obtain rfl:O=vI (vH (uU (L.getD g []) 0 1 (L.getD g []).length) (uU (L.getD ((sG L 0 1 f g).toNat) []) 0 1 (L.getD ((sG L 0 1 f g).toNat) []).length)):=aa;have az:=gQ (uU (L.getD g []) 0 1 (L.getD g []).length) (uU (L.getD ((sG L 0 1 f g).toNat) []) 0 1 (L.getD ((sG L 0 1 f g).toNat) []).length);refine gc4 (λH=>?_) λH=>?_
  ·
   refine jI ?_;refine gqL ((g+1),h6) ?_ ?_ (he:=⟨I,I,zbi (λz=>some (vI z)) ((zau ⟨⟨ywi.1 zo3,zdi C⟩,.inr H⟩).symm),I,y3i⟩)
   · exact⟨mle,oM⟩
   omega
  refine go8 ?_;refine gqL ((g+1),h6) ?_ ?_ (he:=⟨I,I,zbi (λz=>some (vI z)) ((zae (λe=>e.2.elim (λh=>absurd h zo3) H)).symm),I,y3i⟩)
  · exact⟨mle,oM⟩
  omega
 refine jF ?_;refine zF I I ?_;have eg:g=L.length:=by omega
 rw[eg]
end
set_option maxHeartbeats 2000000 in
section
variable{w0:World}{h0:Mem}(hs:MLe h0 (mem w0))
include hs
theorem zID{k:Nat}{vL:Value}{L:(List (List Tq))}(rL:(tLL k).Is h0 vL L)(hcd0:k<=2000)(hcd1:∀x,x∈L->cS x):
 Calls prog 123 #[vL] w0 (Ret w0 h0 (λh r=>∃u0,r=.tuple #[u0,vI (uF L 0 1)]/\(rpS rpI).Is h u0 (sS L 0 1))):=by
 have hF:=hcd1;refine cb1 133 vL func123 hs ?_;refine rT ?_;refine cnd (λbv=>?_) λbv=>?_
 ·
  refine go8 ?_;refine uQ I I I ?_;refine⟨_,?_,(Rp.Is.cast (eA _) (by exact(show uF L 0 1=2/\sS L 0 1=[] from zKB (.inl oM)).2.symm))⟩;rw[(show uF L 0 1=2/\sS L 0 1=[] from zKB (.inl oM)).1]
 refine go9 ?_;refine gcL (ι:=Nat×Mem) (λ(q,ma)=>(MLe h0 ma/\(q<=L.length/\∀u,u<q->¬64<(gl L u).length),[(0,vL),(4,vI ↑q)],[],ma,L.length-q)) (0,h0) ?_ ?_
 · exact⟨mle,by omega,λu h=>by omega⟩
 rintro⟨q,ma⟩ ⟨ec,fc,bg⟩
 refine yW ?_;refine gc9 (λbu=>?_) λbu=>?_
 ·
  refine go8 ?_;refine lX (xI [] q underlying115 qD rL) λeu da=>(lX (xA qD da) λes ev=>(gc4 (λbt=>?_) λbt=>?_))
  ·
   refine jF ?_;refine uQ I I I ?_;refine⟨_,?_,(Rp.Is.cast (eA _) (by exact(show uF L 0 1=2/\sS L 0 1=[] from zKB (.inr ⟨q,by omega,(by show 64<(L.getD q []).length;omega)⟩)).2.symm))⟩;rw[(show uF L 0 1=2/\sS L 0 1=[] from zKB (.inr ⟨q,by omega,(by show 64<(L.getD q []).length;omega)⟩)).1]
  refine go8 ?_;refine gqL ((q+1),ma) ?_ ?_
  · exact⟨mle,by omega,qN (Q:=λu=>¬64<(gl L u).length) bg (by show ¬64<(L.getD q []).length;omega)⟩
  omega
 have D:∀u,u<L.length->¬64<(gl L u).length:=λu hu=>bg u oM;refine jF ?_;refine gcL (ι:=Nat×Mem) (λ(s,ms)=>(MLe ma ms/\(s<=L.length/\∀u,u<s->aG (gl L u) 0 1),[(0,vL),(5,vI ↑s)],[],ms,L.length-s)) (0,ma) ?_ ?_
 · exact⟨mle,by omega,λu h=>by omega⟩
 rintro⟨s,ms⟩ ⟨dx,fb,bf⟩
 refine yW ?_;refine gc9 (λbs=>?_) λbs=>?_
 ·
  refine go8 ?_;refine lX (xI [] s underlying115 qD rL) λer cz=>(lX (xA qD cz) λeq cy=>(cL (ev1 I) call168 (λw hs=>zL8 hs cy oM (by first|omega|assumption|exact zci (z1u.1 (D _ oM)) dC)) λce h1 M cw=>?_));obtain rfl:ce=vB (aG (L.getD s []) 0 1):=cw;refine gc3 (λaa=>?_) λaa=>?_
  ·
   refine jF ?_;refine uQ I I I ?_;refine⟨_,?_,(Rp.Is.cast (eA _) (by exact(show uF L 0 1=8/\sS L 0 1=[] from zW0 oM D ⟨s,by omega,aa⟩).2.symm))⟩;rw[(show uF L 0 1=8/\sS L 0 1=[] from zW0 oM D ⟨s,by omega,aa⟩).1]
  refine go8 ?_;refine gqL ((s+1),h1) ?_ ?_
  · exact⟨mle,by omega,qN (Q:=λu=>aG (gl L u) 0 1) bf (zdi aa)⟩
  omega
 have hS:∀u,u<L.length->aG (gl L u) 0 1:=λu hu=>bf u oM;refine jF ?_;refine gcL (ι:=Nat×Mem) (λ(c,mc)=>(MLe ms mc/\(c<=L.length/\∀u v,v<c->u<v->¬fD (gl L u) (gl L v) 0 1),[(0,vL),(6,vI ↑c)],[],mc,L.length-c)) (0,ms) ?_ ?_
 · exact⟨mle,by omega,λu v h=>by omega⟩
 rintro⟨c,mc⟩ ⟨eb,ed,ak⟩
 refine yW ?_;refine gc9 (λbr=>?_) λbr=>?_
 ·
  refine qE ?_;refine gcL (ι:=Nat×Mem) (λ(d,md)=>(MLe mc md/\(d<=c/\∀u,u<d->¬fD (gl L u) (gl L c) 0 1),[(0,vL),(6,vI ↑c),(7,vI ↑d)],[],md,c-d)) (0,mc) ?_ ?_
  · exact⟨mle,by omega,λu h=>by omega⟩
  rintro⟨d,md⟩ ⟨ea,ff,bl⟩
  refine yW ?_;refine gc8 (λbq=>?_) λbq=>?_
  ·
   refine go5 ?_;refine zK 9 _ [] (zai 0 8 [(8,.c)]) yA nX zot nX (λr hr=>hr) (go2 ?_);refine wX I (xI [] c underlying115 qD rL) λep cu=>(wX I (xA qD cu) λeo ct=>(go2 ?_));refine wX I (xI [] d underlying115 qD rL) λen cq=>(wX I (xA qD cq) λem cp=>?_);refine w_c I (sC (ev2 I I) call169 (λw hs=>zJ0 hs ct cp oM (by first|omega|assumption|exact zci (z1u.1 (D _ oM)) dC) (by first|omega|assumption|exact zci (z1u.1 (D _ oM)) dC)) λcd h1 M co=>?_);obtain rfl:cd=vB (fD (L.getD c []) (L.getD d []) 0 1):=co;refine gc2 (λZ=>?_) λZ=>?_
   ·
    refine zDD ?_;refine uQ I I I ?_;refine⟨_,?_,(Rp.Is.cast (eA _) (by exact(show uF L 0 1=32/\sS L 0 1=[] from zQ9 oM D hS ⟨d,c,by omega,by omega,eM Z⟩).2.symm))⟩;rw[(show uF L 0 1=32/\sS L 0 1=[] from zQ9 oM D hS ⟨d,c,by omega,by omega,eM Z⟩).1]
   refine go8 ?_;refine gqL ((d+1),h1) ?_ ?_
   · exact⟨mle,by omega,qN (Q:=λu=>¬fD (gl L u) (gl L c) 0 1) bl (λe=>Z (eM e))⟩
   omega
  refine jI ?_;refine gqL ((c+1),md) ?_ ?_
  · exact⟨mle,by omega,zUQ ak bl oM⟩
  omega
 have hX:∀a b,b<L.length->a<b->¬fD (gl L a) (gl L b) 0 1:=λa b hb ha=>ak a b oM ha;refine iD ?_;refine xK 3 1 ?_;have au:=RL.nil (ρ:=rpI) (h:=mc);refine gcL (ι:=Nat×List Int×Value×List Value×Mem) (λ(f,H,C,G,mf)=>(MLe mc mf/\(RL rpI mf G H/\(f<=L.length/\H.length=f)/\∀u,u<f->H.getD u (0:Int)=pZ L 0 1 u),[(0,vL),(8,C),(9,vI ↑f)],[.gs 3 1 C H.length G],mf,L.length-f)) (0,([]:List Int),(.slice none 0 0),[],mc) ?_ ?_
 · exact⟨mle,au,⟨by omega,I⟩,λu h=>by omega⟩
 rintro⟨f,H,C,G,mf⟩ ⟨dz,J,⟨fe,bk⟩,ao⟩
 refine yW ?_;refine gc9 (λbp=>?_) λbp=>?_
 ·
  refine go9 ?_;refine jC (ι:=Int×Mem) (λ(p,mp)=>MLe mf mp/\((-1<=p/\p<9223372036854775808)/\p=pZ L 0 1 f)) (λ(p,mp)=>[(0,vL),(8,C),(9,vI ↑f),(10,vI p)]) (λ(p,mp)=>[.gs 3 1 C H.length G]) (λ(p,mp)=>mp) ?_ ?_
  ·
   refine go4 ?_;refine lX (xI [] f underlying115 qD rL) λel cn=>(lX (xA qD cn) λek cm=>(cL (ev1 I) call170 (λw hs=>pS hs cm oM (by first|omega|assumption|exact zci (z1u.1 (D _ oM)) dC)) λej h1 M cl=>(cL (ev1 I) call17 (λw hs=>vX hs cl dC) λcc h2 an ck=>?_)));obtain rfl:cc=vI (yU (uU (L.getD f []) 0 1 (L.getD f []).length)):=ck;have dh:=xW (uU (L.getD f []) 0 1 (L.getD f []).length);refine gc3 (λae=>?_) λae=>?_
   ·
    refine go3 ?_;refine cL (ev2 I I) call171 (λw hs=>zL9 (f:=f) hs rL.up (by first|omega|assumption|exact zci (z1u.1 (D _ oM)) dC) (by first|omega|assumption|exact zci (z1u.1 (D _ oM)) dC) oM (by first|omega|assumption|exact zci (z1u.1 (D _ oM)) dC)) λcb h3 bj cj=>?_;obtain rfl:cb=vI (sG L 0 1 f L.length):=cj;have di:=zC1 L 0 1 f L.length;refine go2 ?_;refine zY ((sG L 0 1 f L.length),h3) ?_ e4z I I;refine⟨((M.trans an).trans bj),?_⟩;exact⟨⟨by omega,by omega⟩,yFH ae⟩
   refine go1 ?_;refine zY ((-1:Int),h2) ?_ e4z I I;refine⟨(M.trans an),?_⟩;exact⟨⟨by omega,by omega⟩,yFG hF (hS f oM) ae⟩
  rintro⟨p,mp⟩ ⟨dy,bm⟩
  refine yW ?_;obtain⟨fd,bh⟩:=bm;refine go3 ?_;refine zH (zN (ρ:=rpI) (m:=1) (xs:=[p]) (ps':=[(0,_)]) underlying32 jV I I I wY e2z (zC I (y3e (y3u _) (0:Int) 0 dC) (wL oM oM) zQ) zoj nP) I I I ?_
  rintro ei ey ⟨ee,rfl,aw⟩
  refine zX (A:=[]) (ρ:=rpI) aw ?_;intro h1 M ar;refine xU (A:=[]) (yB (ρ:=rpI) (bytes:=8) underlying32 jV I I I I nP I I J.up ar bO bO) I I I ?_
  rintro ca ew ⟨bw,rfl,av⟩
  refine go9 ?_;refine gqL ((f+1),(H++[p]),ca,bw,h1) ?_ ?_
  · exact⟨mle,av,⟨by omega,(zIY bk ao bh).1⟩,(zIY bk ao bh).2⟩
  omega
 have hO:∀u,u<L.length->H.getD u (0:Int)=pZ L 0 1 u:=λu hu=>ao u oM;have bi:H.length=L.length:=by omega
 refine jF ?_;refine gcL (ι:=Nat×Mem) (λ(v,am)=>(MLe mf am/\(v<=L.length/\∀a,a<v->¬eX L 0 1 a/\∀b,b<L.length->¬zCS L 0 1 a b),[(0,vL),(8,C),(11,vI ↑v)],[.gs 3 1 C H.length G],am,L.length-v)) (0,mf) ?_ ?_
 · exact⟨mle,by omega,λa h=>by omega⟩
 rintro⟨v,am⟩ ⟨dj,fa,ai⟩
 refine yW ?_;refine gc9 (λbo=>?_) λbo=>?_
 ·
  refine go9 ?_;refine lX (xI [] v underlying115 qD rL) λeh ci=>(lX (xA qD ci) λeg ch=>(cL (ev1 I) call170 (λw hs=>pS hs ch oM (by first|omega|assumption|exact zci (z1u.1 (D _ oM)) dC)) λef h1 M cg=>(cL (ev1 I) call17 (λw hs=>vX hs cg dC) λbz h2 an cf=>?_)));obtain rfl:bz=vI (yU (uU (L.getD v []) 0 1 (L.getD v []).length)):=cf;have df:=xW (uU (L.getD v []) 0 1 (L.getD v []).length);refine gc3 (λU=>?_) λU=>?_
  ·
   refine go9 ?_;refine gqL ((v+1),h2) ?_ ?_
   · exact⟨mle,by omega,qN (Q:=λa=>¬eX L 0 1 a/\∀b,b<L.length->¬zCS L 0 1 a b) ai (yFP (yGT hF (hS v oM) U))⟩
   omega
  refine go8 ?_;refine gcL (ι:=Nat×Mem) (λ(w,mw)=>(MLe h2 mw/\((w<=L.length/\(0<w->¬eX L 0 1 v))/\∀b,b<w->¬zCS L 0 1 v b),[(0,vL),(8,C),(11,vI ↑v),(12,vI ↑w)],[.gs 3 1 C H.length G],mw,L.length-w)) (0,h2) ?_ ?_
  · exact⟨mle,⟨by omega,λh=>by omega⟩,λb h=>by omega⟩
  rintro⟨w,mw⟩ ⟨dw,⟨ez,db⟩,ah⟩
  refine yW ?_;refine gc9 (λbn=>?_) λbn=>?_
  ·
   refine go5 ?_;refine zK 33 _ [] (zai 0 29 [(29,.c),(30,.q),(31,.q),(32,.q)]) yA nX (wV zot) nX (λr hr=>hr) (go2 ?_);refine w_q I (λh' L' hh hR=>(yP v (hR _ mh0) underlying32 sizeOf3 I I I bO nP).cv (show _=zI 1 C ((v*1+0)) from zbi (zI 1 C) zoz)) I (tA (F:=λv_=>rpI.Is mw v_ (H.getD v (0:Int))) I (xP ty3 (y3e (y3u _) (0:Int) v bO) I nP I J.up I) (kH mh0) I ?_);intro dv be;obtain⟨rfl,dm,de⟩:=gJ be;refine go2 ?_;refine tJ ((H.getD v (0:Int))<(0:Int)) (λad=>?_) (λad=>?_)
   ·
    rw[wB ad];refine go23 ?_;refine w_c I (yE7 I I I (go22 ?_));refine uQ I I I ?_;refine⟨_,?_,(Rp.Is.cast (eA _) (by exact(show uF L 0 1=33/\sS L 0 1=[] from zEO oM D hS hX (.inl ⟨v,by omega,zRP U (hO v oM) zo3⟩)).2.symm))⟩;rw[(show uF L 0 1=33/\sS L 0 1=[] from zEO oM D hS hX (.inl ⟨v,by omega,zRP U (hO v oM) zo3⟩)).1]
   rw[yZ ad];refine xG I I I (λh' L' hh hR=>xL I) I (xG I I I (λh' L' hh hR=>xL I) I (go1 ?_));refine xG I I I (λh' L' hh hR=>xL I) I ?_;refine tJ ((↑w:Int)≠(↑v:Int)) (λac=>?_) (λac=>?_)
   ·
    rw[wB ac];refine xG I I I (λh' L' hh hR=>xL I) I (xG I I I (λh' L' hh hR=>xL I) I (xG I I I (λh' L' hh hR=>(yP w (hR _ mh0) underlying32 sizeOf3 I I I bO nP).cv (show _=zI 1 C ((w*1+0)) from zbi (zI 1 C) zoz)) I (lV (F:=λv_=>rpI.Is mw v_ (H.getD w (0:Int))) I I I (xP ty3 (y3e (y3u _) (0:Int) w bO) I nP I J.up I) (kH mh0) I ?_)));intro du bd;obtain⟨rfl,dl,dd⟩:=gJ bd;refine xG I I I (λh' L' hh hR=>xL I) I (xG I I I (λh' L' hh hR=>xL I) I (xG I I I (λh' L' hh hR=>(yP v (hR _ mh0) underlying32 sizeOf3 I I I bO nP).cv (show _=zI 1 C ((v*1+0)) from zbi (zI 1 C) zoz)) I (lV (F:=λv_=>rpI.Is mw v_ (H.getD v (0:Int))) I I I (xP ty3 (y3e (y3u _) (0:Int) v bO) I nP I J.up I) (kH mh0) I ?_)));intro dt bc;obtain⟨rfl,dk,dc⟩:=gJ bc;refine go2 ?_;refine xG I I I (λh' L' hh hR=>xL I) I ?_;refine tJ ((H.getD w (0:Int))=(H.getD v (0:Int))) (λab=>?_) (λab=>?_)
    ·
     rw[wB ab];refine xG I I I (λh' L' hh hR=>xL I) I (xG I I I (λh' L' hh hR=>xL I) I (oX I (xI [] w underlying115 qD rL) λdr bb=>(oX I (xA qD bb) λdq ba=>(xG I I I (λh' L' hh hR=>xL I) I (xG I I I (λh' L' hh hR=>xL I) I (oX I (xI [] v underlying115 qD rL) λdp az=>(oX I (xA qD az) λdn ay=>?_)))))));refine w_c I (rC I I (sC (ev2 I I) call172 (λw hs=>zDZ hs ba ay oM (by first|omega|assumption|exact zci (z1u.1 (D _ oM)) dC) (by first|omega|assumption|exact zci (z1u.1 (D _ oM)) dC)) λap h3 bj ax=>?_));obtain rfl:ap=vI (wiZ (L.getD w []) (L.getD v []) 0 1):=ax;have bx:=oC (L.getD w []) (L.getD v []) 0 1 (L.getD v []).length;refine gc5 (λO=>?_) λO=>?_
     ·
      have aj:zCS L 0 1 v w:=⟨⟨⟨by omega,by have:=zBU (hO v oM) zo3;rw[<-hO v oM];omega⟩,by rw[<-hO w oM,<-hO v oM];assumption⟩,O⟩;refine zDD ?_;refine uQ I I I ?_;refine⟨_,?_,(Rp.Is.cast (eA _) (by exact(show uF L 0 1=33/\sS L 0 1=[] from zEO oM D hS hX (.inr ⟨v,w,by omega,by omega,aj⟩)).2.symm))⟩;rw[(show uF L 0 1=33/\sS L 0 1=[] from zEO oM D hS hX (.inr ⟨v,w,by omega,by omega,aj⟩)).1]
     refine go8 ?_;refine gqL ((w+1),h3) ?_ ?_
     · exact⟨mle,⟨by omega,λ_=>zBU (hO v oM) zo3⟩,qN (Q:=λb=>¬zCS L 0 1 v b) ah (λe=>O e.2)⟩
     omega
    rw[yZ ab];refine go8 ?_;refine w_c I (zBI I I I I (rT ?_));refine gqL ((w+1),mw) ?_ ?_
    · exact⟨mle,⟨by omega,λ_=>zBU (hO v oM) zo3⟩,qN (Q:=λb=>¬zCS L 0 1 v b) ah (λe=>absurd e.1.2 (by rw[<-hO w oM,<-hO v oM];assumption))⟩
    omega
   rw[yZ ac];refine qE ?_;refine xG I I I (λh' L' hh hR=>xL I) I (go8 ?_);refine w_c I (zBI I I I I (rT ?_));refine gqL ((w+1),mw) ?_ ?_
   · exact⟨mle,⟨by omega,λ_=>zBU (hO v oM) zo3⟩,qN (Q:=λb=>¬zCS L 0 1 v b) ah (λe=>absurd e.1.1.1 oM)⟩
   omega
  refine jI ?_;refine gqL ((v+1),mw) ?_ ?_
  · exact⟨mle,by omega,qN (Q:=λa=>¬eX L 0 1 a/\∀b,b<L.length->¬zCS L 0 1 a b) ai ⟨db oM,λb hb=>ah b oM⟩⟩
  omega
 have hB:∀a b,a<L.length->b<L.length->¬zCS L 0 1 a b:=λa b ha hb=>(ai a oM).2 b hb;have hL:∀a,a<L.length->¬eX L 0 1 a:=λa ha=>(ai a oM).1;refine pV ?_;refine wR (A:=[]) (ρ:=rpI) J.up ?_;intro h1 M aq;refine uQ I I I ?_;refine⟨_,?_,(Rp.Is.cast aq (by exact(show uF L 0 1=0/\sS L 0 1=H from zW1 oM D hS hX hL hB bi hO).2.symm))⟩;rw[(show uF L 0 1=0/\sS L 0 1=H from zW1 oM D hS hX hL hB bi hO).1]
theorem zF1{k m n j:Nat}{vs:Value}{s:Sq}(rs:(tSd k m n j).Is h0 vs s){f:Nat}{vix:Value}{ix:(List Int)}(rix:(rpS rpI).Is h0 vix ix)(hcd0:k<=1000)(hcd1:m<=100000)(hcd2:n<=100000)(hcd3:okS s)(hcd4:f<s.2.1.length)(hcd5:nmP s f)(hcd6:ix.length=s.1.length):
 Calls prog 128 #[vs,vI ↑f,vix] w0 (Ret w0 h0 (λh r=>(tFc (4*m+11) (m+n+11)).Is h r (nfF s ix f))):=by
 have id:=hcd3.1.1.1;have ic:=hcd3.1.1.2;have eu:=zEX s f;have ik:=yGV hcd4 hcd5;have cj:=hcd3.2.1 f hcd4;have ew:=mX (s:=s) (f:=↑f) hcd3.2.1;refine cb3 121 vs (vI ↑f) vix func128 hs ?_;refine go2 ?_;refine nB rs λb3 au ak=>(nA (ρ:=(tFc 1 1)) (X:=((zT,(0:Rat)),([],([]:List Nat)))) qJ (yF (yF (yS (yE dC)) (yE dC)) (yF wD kE)) λb6 ar dc=>(go4 ?_));refine lX (xB qP pH ak) λhp eo=>(go1 ?_);refine cL (ev2 I I) call176 (λw hs=>zME (f:=f) hs eo oM oM oM (by first|omega|exact hcd3.big) (by first|omega|exact hcd3.big) (by first|omega|exact hcd3.big) (by first|omega|exact hcd3.big)) λao h1 ij en=>(go4 ?_);refine zK 15 _ [(14,(8,83,[.bool false,.slice none 0 0,.slice none 0 0,.bool false,.slice none 0 0,.slice none 0 0,.bool false,.slice none 0 0,.slice none 0 0,.bool false,.slice none 0 0,.slice none 0 0,.slice none 0 0,.string ⟨#[]⟩]))] (zai 0 6 (zai 7 6 [(6,.c),(13,.q),(14,.a),(15,.t)])) yA (jT.cons I I (uX qJ I I) jT.nil) (wV zot) (qA I I kO) (λr hr=>hr) (go1 ?_);refine wX I (xB gG (y4u (y4i pH)) ak) λho em=>(go1 ?_);refine wX I (xI zA f underlying47 sJ em) λhn el=>(wX I (xF underlying83 sizeOf80 (y4i pH) el) λhm ek=>(wX I (xA iI ek) λhl ej=>(go1 ?_)));refine wX I (xB gG (y4u (y4i pH)) ak) λhj eg=>(go1 ?_);refine wX I (xI zA f underlying47 sJ eg) λhf ef=>(wX I (xF underlying83 sizeOf9 (y4u (y4u pH)) ef) λhd ee=>(wX I (xA ty9 ee) λhc ed=>?_));obtain⟨rfl,cp⟩:=kV ed;refine w_c I (sC (ev1 I) call64 (λw hs=>zIG hs ej oM oM) λhk h2 ii eh=>(wX I (xV (ρ:=(rpP (tPl (4*m+10) (m+n+10)) (rpP rpV uP))) (xE (ps':=[(0,_),(2,_)]) underlying83 qJ I I (bP underlying83) e4z I (yF (yF (yS (yE oM)) (yE oM)) (yF fG kE)) (zC I (y4i (y3u _)) eh (zC I (y4u (y4u (y3u _))) (bA cp) zQ)))) λha ec=>?_));refine w_a I I (λb8=>?_);have db:(rpP (tPl 1 1) (rpP rpV uP)).R h2 [.bool false,.slice none 0 0,.slice none 0 0,.bool false,.slice none 0 0,.slice none 0 0,.bool false,.slice none 0 0,.slice none 0 0,.bool false,.slice none 0 0,.slice none 0 0,.slice none 0 0,.string ⟨#[]⟩] ((zT,(0:Rat)),((Value.slice none 0 0),([]:List Nat))):=(yF (yF (yS (yE dC)) (yE dC)) (yF fG kE));have bx:=(Le.p (Le.p (Le.t (Le.q (l:=4*m+10) oM)) (Le.q (l:=m+n+10) oM)) (Le.refl _)).R db;refine yG (A:=[]) I (uB sizeOf83 pH bx ec) λcq cf=>(rT ?_);refine xK 32 1 ?_;have ca:=RL.nil (ρ:=rpS rpI) (h:=h2);refine xK 32 1 ?_;have bz:=RL.nil (ρ:=rpS rpI) (h:=h2);refine gcL (ι:=Nat×List (List Int)×List (List Int)×List Value×Value×List Value×Value×List Value×Mem) (λ(i,D,G,U,C,M,H,J,ma)=>(MLe h2 ma/\((rpP (tPl (4*m+11) (m+n+11)) (rpP rpV uP)).R ma U (scZ (s.2.1.getD f zA).1,(H,(s.2.1.getD f zA).2.2))/\RL (rpS rpI) ma M D/\RL (rpS rpI) ma J G/\H.oneCell'=true/\i<=(s.2.1.getD f zA).2.1.length/\D=zAS s ix f i/\G=ouL s ix f i),[(1,vI ↑f),(2,vix),(3,vP b3 0),(6,vP b6 0),(7,ao),(8,vP b8 0),(9,C),(10,vI ↑i)],[.gs 32 1 H G.length J,.gs 32 1 C D.length M,.var b8 83 U,.var b6 83 ar,.var b3 50 au],ma,(s.2.1.getD f zA).2.1.length-i)) (0,[],[],cq,(.slice none 0 0),[],(.slice none 0 0),[],h2) ?_ ?_
 · exact⟨mle,((Le.p (Le.p (Le.t (Le.q (l:=4*m+11) oM)) (Le.q (l:=m+n+11) oM)) (Le.refl _)).R cf),ca,bz,I,by omega,I,I⟩
 rintro⟨i,D,G,U,C,M,H,J,ma⟩ ⟨ft,ab,aa,ad,bp,ie,hD,hG⟩
 refine yW ?_;have io:D.length<=i:=by rw[hD];exact zP4 s ix f i
 have il:G.length<=i:=by rw[hG];exact cA _ _ i
 refine gc9 (λco=>?_) λco=>?_
 ·
  refine zDD ?_;refine xK 3 1 ?_;have bg:=RL.nil (ρ:=rpI) (h:=ma);refine gcL (ι:=Nat×List Int×Value×List Value×Mem) (λ(q,EL,Z,ah,mb)=>(MLe ma mb/\(RL rpI mb ah EL/\q<=((s.2.1.getD f zA).2.1.getD i []).length/\EL=nwL s ix f i q),[(1,vI ↑f),(2,vix),(3,vP b3 0),(6,vP b6 0),(7,ao),(8,vP b8 0),(9,C),(10,vI ↑i),(11,Z),(12,vI ↑q)],[.gs 3 1 Z EL.length ah,.gs 32 1 H G.length J,.gs 32 1 C D.length M,.var b8 83 U,.var b6 83 ar,.var b3 50 au],mb,((s.2.1.getD f zA).2.1.getD i []).length-q)) (0,[],(.slice none 0 0),[],ma) ?_ ?_
  · exact⟨mle,bg,by omega,I⟩
  rintro⟨q,EL,Z,ah,mb⟩ ⟨fs,aj,ia,hE⟩
  refine yW ?_;have im:EL.length=q:=by rw[hE];exact xZ _ _
  have ci:=cj.2 i oM;refine go5 ?_;refine lX (xB gG (y4u (y4i pH)) ak) λgz eb=>(go1 ?_);refine lX (xI zA f underlying47 sJ eb) λgy ea=>(lX (xF underlying83 sizeOf81 (y4u (y4i pH)) ea) λgx dz=>(lX (xA rQ dz) λgw dy=>(go1 ?_)));refine lX (xI [] i underlying81 fR dy) λgu dx=>(lX (xA fR dx) λgt hq=>(gc4 (λcn=>?_) λcn=>?_))
  ·
   refine go8 ?_;refine lX (xB gG (y4u (y4i pH)) ak) λgr dw=>(go1 ?_);refine lX (xI zA f underlying47 sJ dw) λgq dv=>(lX (xF underlying83 sizeOf81 (y4u (y4i pH)) dv) λgo du=>(lX (xA rQ du) λgn dt=>(go1 ?_)));refine lX (xI [] i underlying81 fR dt) λgm dr=>(lX (xA fR dr) λgk dq=>(go1 ?_));refine lX (xI (0:Int) q underlying32 ty3 dq) λgj dp=>(lX (xA ty3 dp) λgi dn=>?_);obtain⟨rfl,fv,fp⟩:=gJ dn;refine zGQ (F:=λv_=>AtP rpI mb v_ (ix.getD ((((s.2.1.getD f zA).2.1.getD i []).getD q 0).toNat) (0:Int))) (sO (0:Int) ((((s.2.1.getD f zA).2.1.getD i []).getD q 0).toNat) underlying32 ty3 I I rix.up (by(have:=hcd5 i oM q oM;omega)) (by(have:=hcd5 i oM q oM;omega)) nP) zAL I ?_;intro gh dm;refine lX (xA ty3 dm) λgg dl=>?_;obtain⟨rfl,fu,fo⟩:=gJ dl;refine zH (zN (ρ:=rpI) (m:=1) (xs:=[(ix.getD ((((s.2.1.getD f zA).2.1.getD i []).getD q 0).toNat) (0:Int))]) (ps':=[(0,_)]) underlying32 jV I I I wY e2z (zC I (y3e (y3u _) (0:Int) 0 dC) (wL oM oM) zQ) zoj nP) I I I ?_
   rintro gf hw ⟨fx,rfl,ce⟩
   refine zX (A:=[]) (ρ:=rpI) ce ?_;intro h3 cm bc;refine xU (A:=[]) (uN (yB (ρ:=rpI) (bytes:=8) underlying32 jV I I I I nP I I aj.up bc bO bO)) I I I ?_
   rintro da hv ⟨fq,cu,rfl,cd⟩
   refine go9 ?_;refine gqL ((q+1),(EL++[(ix.getD ((((s.2.1.getD f zA).2.1.getD i []).getD q 0).toNat) (0:Int))]),da,cu,h3) ?_ ?_
   · exact⟨mle,cd,by omega,by rw[hE];rfl⟩
   omega
  have eq:q=((s.2.1.getD f zA).2.1.getD i []).length:=by omega
  have ci:=cj.2 i oM;refine go8 ?_;refine zX (A:=[]) (ρ:=rpI) aj.up ?_;intro h3 cm bb;refine cL (ev1 I) call177 (λw hs=>zPD hs bb oM) λbw h4 cl am=>?_;replace am:=Rp.Is.cast (y:=(nfL s ix f i)) am (by rw[hE,eq];rfl);refine go8 ?_;refine lX (xI [] i underlying115 qD en) λge dk=>(lX (xA qD dk) λgc dj=>(cL (ev1 I) call170 (λw hs=>pS hs dj oM (by first|omega|(have:=ew.2 i;rw[<-eu.2 i] at this;omega))) λgb h5 ih di=>(cL (ev1 I) call17 (λw hs=>vX hs di dC) λcz h6 ig dh=>?_)));obtain rfl:cz=vI (yU (uU ((sY s f).getD i []) 0 1 ((sY s f).getD i []).length)):=dh;have ep:=xW (uU ((sY s f).getD i []) 0 1 ((sY s f).getD i []).length);refine gc3 (λac=>?_) λac=>?_
  ·
   refine go3 ?_;refine lX (fN (xB rQ (y4u (y4i pH)) ab)) λga df=>?_;subst df;refine go1 ?_;refine zH (zN (ρ:=(rpS rpI)) (m:=1) (xs:=[(nfL s ix f i)]) (ps':=[(0,_)]) underlying81 jH I I I wD e2z (zC I (y3e (y3u _) [] 0 dC) am.up zQ) zoj nP) I I I ?_
   rintro fz hu ⟨fw,rfl,cc⟩
   refine zX (A:=[]) (ρ:=(rpS rpI)) cc ?_;intro h7 br ba;refine xU (A:=[]) (uN (yB (ρ:=(rpS rpI)) (bytes:=24) underlying81 jH I I I I nP I I ad.up ba bO bO)) I I I ?_
   rintro cy ht ⟨av,ct,rfl,cb⟩
   refine go1 ?_;refine zU (A:=[_,_]) (uB sizeOf81 (y4u (y4i pH)) ab (dF av)) λbu bm=>(jI ?_);refine gqL ((i+1),D,(G++[(nfL s ix f i)]),bu,C,M,cy,ct,h7) ?_ ?_
   · exact⟨mle,bm,aa.up,cb,av,by omega,by rw[hD];exact(zau ac).symm,by rw[hG];exact zBF (p:=zEA s f) ac⟩
   omega
  refine go5 ?_;refine gv (jU mh1 underlying81 I) I (go5 ?_);refine gcL (ι:=Nat×Mem) (λ(O,mk)=>(MLe h6 mk/\(O<=D.length/\aP (zX0 (nfL s ix f i) D) D.length=aP (zX0 (nfL s ix f i) D) O),[(1,vI ↑f),(2,vix),(3,vP b3 0),(6,vP b6 0),(7,ao),(8,vP b8 0),(9,C),(10,vI ↑i),(11,bw),(13,vI ↑O)],[.gs 32 1 H G.length J,.gs 32 1 C D.length M,.var b8 83 U,.var b6 83 ar,.var b3 50 au],mk,O)) (D.length,h6) ?_ ?_
  · exact⟨mle,by omega,I⟩
  rintro⟨O,mk⟩ ⟨fr,ib,ck⟩
  refine yW ?_;refine go5 ?_;refine qM (ι:=Mem) 10 (λm_=>MLe mk m_) (λ_=>[(97,vB (((0:Int)<(↑O:Int))/\((cJ (nfL s ix f i) (D.getD (O-1) []))<(0:Int)))),(1,vI ↑f),(2,vix),(3,vP b3 0),(6,vP b6 0),(7,ao),(8,vP b8 0),(9,C),(10,vI ↑i),(11,bw),(13,vI ↑O)]) (λ_=>[.gs 32 1 H G.length J,.gs 32 1 C D.length M,.var b8 83 U,.var b6 83 ar,.var b3 50 au]) (λm_=>m_) ?_ ?_
  ·
   refine yK ((0:Int)<(↑O:Int)) (λhg=>?_) (λhg=>?_)
   ·
    refine gT hg I (go9 ?_);refine gv ((yP (O-1) mh1 underlying81 sizeOf32 I I oM oM nP).cv (show _=zI 1 C (((O-1)*1+0)) from zbi (zI 1 C) zoz)) I (go1 ?_);refine zGQ (F:=λv_=>(rpS rpI).Is mk v_ (D.getD (O-1) [])) (xP fR (y3e (y3u _) [] (O-1) oM) I nP I aa.up I) (kH mh1) I ?_;intro fy de;refine go1 ?_;refine cL (ev2 I I) call178 (λw hs=>zD1 hs am.up de) λcw h7 br dd=>?_;obtain rfl:cw=vI (cJ (nfL s ix f i) (D.getD (O-1) [])):=dd;have ev:=zAW (nfL s ix f i) (D.getD (O-1) []);refine go4 ?_;refine zY h7 br ⟨?_,I,I,I,I,I,I,I,I,I,I,y3i⟩ I I;exact y2e (wE hg)
   refine gF hg I (qE ?_);refine zY mk (MLe.refl _) ⟨?_,I,I,I,I,I,I,I,I,I,I,y3i⟩ I I;exact y2e (wG hg)
  intro ap bv;refine rN ?_;refine gc2 (λan=>?_) λan=>?_
  ·
   refine go9 ?_;refine gqL ((O-1),ap) ?_ ?_ (he:=⟨I,I,I,I,I,I,I,I,I,zbi (λz=>some (vI z)) oM,y3i⟩)
   · exact⟨mle,by omega,by rw[ck];exact zQE oM an.2⟩
   omega
  refine go8 ?_;refine zH (zN (ρ:=(rpS rpI)) (m:=1) (xs:=[[]]) (ps':=[(0,_)]) underlying81 jH I I I wD e2z (zC I (y3e (y3u _) [] 0 dC) (eA _) zQ) zoj nP) I I I ?_
  rintro fi fm ⟨fc,rfl,bj⟩
  refine zX (A:=[]) (ρ:=(rpS rpI)) bj ?_;intro h7 br az;refine xU (A:=[_]) (uN (yB (ρ:=(rpS rpI)) (bytes:=24) underlying81 jH I I I I nP I I aa.up az bO bO)) I I I ?_
  rintro ai fl ⟨er,fb,rfl,bi⟩
  refine go4 ?_;refine lI (A:=[_]) (by rw[lAz];exact ywu _) (λob ip bn bo=>?_);refine jS (A:=[_]) 8 [] (zai 0 7 [(7,.c)]) yA nX zot nX (go3 ?_);refine xD I (λ_ _=>jG (O+1) underlying81 sizeOf32 I I ⟨_,_,bn,bo⟩ oM zo0) I (go2 ?_);refine xD I (λ_ _=>jG O underlying81 sizeOf32 I I ⟨_,_,bn,bo⟩ oM zo0) I ?_;refine w_c I (gV (A:=[_]) (λX=>mC (ρ:=(rpS rpI)) O bn bo underlying81 sizeOf32 I I zo0 bi) I (wA zox) ?_)
  rintro fh fk ⟨ez,rfl,bf⟩
  refine go6 ?_;refine gv ((yP O mh1 underlying81 sizeOf32 I I oM (by rw[fS zo0];simp only[lAz,lC,lN];omega) nP).cv (show _=zI 1 ai ((O*1+0)) from zbi (zI 1 ai) zoz)) I (fW (A:=[_]) (F:=λc_=>RL (rpS rpI) h7 c_ ((sL (D++[[]]) O).set O (nfL s ix f i))) (sD sizeOf32 (y3e (y3u _) [] O (by rw[fS zo0];simp only[lAz,lC,lN];omega)) I nP I I bf am.up I) ?_);intro bt be;refine go8 ?_;refine gqL ((i+1),((sL (D++[[]]) O).set O (nfL s ix f i)),G,U,ai,bt,H,J,h7) ?_ ?_
  · exact⟨mle,ab.up,be,ad.up,bp,by omega,by rw[nZ oM];have es:aP (zX0 (nfL s ix f i) D) D.length=O:=by{rw[ck];exact zG2 (λe=>an ⟨by omega,e.2⟩)};rw[<-es,hD];exact(zae ac).symm,by rw[hG];exact zBG (p:=zEA s f) ac⟩
  omega
 have ei:i=(s.2.1.getD f zA).2.1.length:=by omega
 refine go8 ?_;refine lX (fN (xB rQ (y4u (y4i pH)) ab)) λfg ch=>?_;subst ch;refine go1 ?_;refine zX (A:=[_]) (ρ:=(rpS rpI)) aa.up ?_;intro h3 cm ay;refine xU (A:=[]) (uN (yB (ρ:=(rpS rpI)) (bytes:=24) underlying81 jH I I I I nP I I ad.up ay bO bO)) I I I ?_
 rintro ff fj ⟨bq,fa,rfl,bh⟩
 refine go1 ?_;refine zU (A:=[_]) (uB sizeOf81 (y4u (y4i pH)) ab (dF bq)) λbs ae=>(go4 ?_);refine zX (A:=[]) (ρ:=(rpS rpI)) bh ?_;intro h4 cl ax;replace ae:=ae.mono cl;have bl:(tFc (4*m+11) (m+n+11)).R h4 bs ((scZ (s.2.1.getD f zA).1,(H,(s.2.1.getD f zA).2.2)).1,((G++D),((scZ (s.2.1.getD f zA).1,(H,(s.2.1.getD f zA).2.2)).2).2)):=zD8 ae ax;refine lX (xB sJ pH bl) λfe cg=>?_;have aw:=(Le.p (Le.p (Le.t (Le.q (l:=4*m+11) oM)) (Le.q (l:=m+n+11) oM)) (Le.refl _)).R dc;refine zU (A:=[_]) (uB sizeOf83 pH aw cg) λey bk=>(go3 ?_);refine xH (qK (t:=6) sJ mh1 I bk) ?_;intro fd aq bd;refine yI (λE S=>zS I aq E S) ?_;exact(Rp.Is.cast bd (by rw[hD,hG,ei];rfl))
theorem zTH{k m n j:Nat}{vs:Value}{s:Sq}(rs:(tSd k m n j).Is h0 vs s)(hcd0:s.2.1.length<=100000):
 Calls prog 154 #[vs] w0 (Ret w0 h0 (λh r=>(rpS tE5).Is h r (szZ s))):=by
 refine cb1 52 vs func154 hs ?_;refine go2 ?_;refine nB rs λb1 au M=>(u5 ?_);refine xK 200 5 ?_;have ai:=RL.nil (ρ:=rpP rpI (rpP rpI (rpP rpI (rpP rpI rpI)))) (h:=h0);refine gcL (ι:=Nat×List (Int×Int×Int×Int×Int)×Value×List Value×Mem) (λ(f,D,G,H,mf)=>(MLe h0 mf/\(RL tE5 mf H D/\f<=s.2.1.length/\D=yEJ s f),[(1,vP b1 0),(3,G),(4,vI ↑f)],[.gs 200 5 G D.length H,.var b1 50 au],mf,s.2.1.length-f)) (0,[],(.slice none 0 0),[],h0) ?_ ?_
 · exact⟨mle,ai,by omega,I⟩
 rintro⟨f,D,G,H,mf⟩ ⟨bj,J,ci,hD⟩
 refine yW ?_;have cj:D.length<=f:=by rw[hD];exact cA _ _ f
 refine go5 ?_;refine lX (xB gG (y4u (y4i pH)) M) λv7 r7=>(gc4 (λbi=>?_) λbi=>?_)
 ·
  refine go7 ?_;refine lX (xB gG (y4u (y4i pH)) M) λca bg=>(go1 ?_);refine lX (xI zA f underlying47 sJ bg) λbz bf=>(lX (xF underlying83 sizeOf81 (y4u (y4i pH)) bf) λbx be=>(lX (xA rQ be) λbw bd=>(cL (ev1 I) call186 (λw hs=>iW hs bd) λax h1 ap bc=>?_)));obtain rfl:ax=vB (vfP (((s.2.1.getD f zA).2).1)):=bc;refine go1 ?_;refine qM (ι:=Mem) 6 (λm_=>MLe h1 m_) (λ_=>[(25,vB ((¬(vfP (((s.2.1.getD f zA).2).1)))\/(¬(nmP s (↑f:Int).toNat)))),(1,vP b1 0),(3,G),(4,vI ↑f)]) (λ_=>[.gs 200 5 G D.length H,.var b1 50 au]) (λm_=>m_) ?_ ?_
  ·
   refine yK (¬(vfP (((s.2.1.getD f zA).2).1))) (λC=>?_) (λC=>?_)
   ·
    refine gT C I (go6 ?_);refine zY h1 (MLe.refl _) ⟨?_,I,I,I,y3i⟩ I I;exact y2e (uL C)
   refine gF C I (go1 ?_);refine lX (xB qP pH M) λbv bb=>(go3 ?_);refine cL (ev2 I I) call187 (λw hs=>zIJ hs bb oM oM oM (by first|omega|exact zci (zdi C).1.2 dC|exactλl hl=>zci ((zdi C).2 l hl).1.2 dC) (by first|omega|exact zci (zdi C).1.2 dC|exactλl hl=>zci ((zdi C).2 l hl).1.2 dC) (by first|omega|exact zci (zdi C).1.2 dC|exactλl hl=>zci ((zdi C).2 l hl).1.2 dC)) λaw h2 aa ba=>?_;obtain rfl:aw=vB (nmP s (↑f:Int).toNat):=ba;refine go4 ?_;refine zY h2 aa ⟨?_,I,I,I,y3i⟩ I I;exact y2e (uM C)
  intro U ao;refine rN ?_;refine gc2 (λO=>?_) λO=>?_
  ·
   have Z:szP s f:=O;refine go3 ?_;refine cL (vs:=[vI (1),_,vI (-1),vI (-1)]) e4z call188 (λw hs=>zAH hs dC dC oM oM dC dC dC dC) λbu h2 aa az=>(zH (zN (ρ:=tE5) (m:=1) (xs:=[dg (1:Int) (↑f:Int) (-1:Int) (-1:Int)]) (ps':=[(0,_)]) underlying137 jX I I I (yF wY (yF wY (yF wY (yF wY wY)))) e2z (zC I (y3e (y3u _) e50 0 dC) az zQ) zoi nP) I I I ?_)
   rintro bt ch ⟨bm,rfl,an⟩
   refine zX (A:=[]) (ρ:=tE5) an ?_;intro h3 bh ah;refine xU (A:=[]) (yB (ρ:=tE5) (bytes:=40) underlying137 jX I I I I nP I I J.up ah bO bO) I I I ?_
   rintro av cg ⟨ar,rfl,am⟩
   refine go9 ?_;refine gqL ((f+1),(D++[dg (1:Int) (↑f:Int) (-1:Int) (-1:Int)]),av,ar,h3) ?_ ?_
   · exact⟨mle,am,by omega,by rw[hD];exact zBF Z⟩
   omega
  have Z:¬szP s f:=O;refine go8 ?_;refine gqL ((f+1),D,G,H,U) ?_ ?_
  · exact⟨mle,J.up,by omega,by rw[hD];exact zBG Z⟩
  omega
 have ef:f=s.2.1.length:=by omega
 refine go9 ?_;refine lX (xB qD (y4i pH) M) λbs cd=>(go2 ?_);refine gU 6 40 (vB (((512:Int)<(↑(s.1).length:Int))\/((256:Int)<(↑(s.2.1).length:Int)))) ?_ ?_
 ·
  refine yK ((512:Int)<(↑(s.1).length:Int)) (λC=>?_) (λC=>?_)
  ·
   refine gT C I (go6 ?_);refine gqU ?_;exact y2e (uL C)
  refine gF C I (go3 ?_);refine lX (xB gG (y4u (y4i pH)) M) λbr cc=>(go6 ?_);refine gqU ?_;exact y2e (uM C)
 refine gU 6 46 (vB ((((512:Int)<(↑(s.1).length:Int))\/((256:Int)<(↑(s.2.1).length:Int)))\/((1024:Int)<(↑(s.2.2).length:Int)))) ?_ ?_
 ·
  refine yK (((512:Int)<(↑(s.1).length:Int))\/((256:Int)<(↑(s.2.1).length:Int))) (λC=>?_) (λC=>?_)
  ·
   refine gT C I (go6 ?_);refine gqU ?_;exact y2e (uL C)
  refine gF C I (go3 ?_);refine lX (xB yDT (y4u (y4u pH)) M) λbq cb=>(go6 ?_);refine gqU ?_;exact y2e (uM C)
 refine gc2 (λaq=>?_) λaq=>?_
 ·
  have ab:zNP s:=by unfold zNP;omega
  refine go2 ?_;refine cL (vs:=[vI (2),vI (-1),vI (-1),vI (-1)]) e4z call188 (λw hs=>zAH hs dC dC dC dC dC dC dC dC) λbp h1 ap ay=>(zH (zN (ρ:=tE5) (m:=1) (xs:=[dg (2:Int) (-1:Int) (-1:Int) (-1:Int)]) (ps':=[(0,_)]) underlying137 jX I I I (yF wY (yF wY (yF wY (yF wY wY)))) e2z (zC I (y3e (y3u _) e50 0 dC) ay zQ) zoi nP) I I I ?_)
  rintro bo cf ⟨bl,rfl,ak⟩
  refine zX (A:=[]) (ρ:=tE5) ak ?_;intro h2 aa ae;refine xU (A:=[]) (yB (ρ:=tE5) (bytes:=40) underlying137 jX I I I I nP I I J.up ae bO bO) I I I ?_
  rintro bn ce ⟨bk,rfl,aj⟩
  refine qE ?_;refine wR (A:=[]) (ρ:=tE5) aj ?_;intro h3 bh ad;refine zF I I ?_;exact(Rp.Is.cast ad (by rw[hD,ef];exact(zau ab).symm))
 have ab:¬zNP s:=by unfold zNP;omega
 refine go9 ?_;refine wR (A:=[]) (ρ:=tE5) J.up ?_;intro h1 ap ac;refine zF I I ?_;exact(Rp.Is.cast ac (by rw[hD,ef];exact(zae ab).symm))
theorem zTG{k m n j:Nat}{vs:Value}{s:Sq}(rs:(tSd k m n j).Is h0 vs s)(hcd0:s.1.length<=100000)(hcd1:k<=100000000):
 Calls prog 155 #[vs] w0 (Ret w0 h0 (λh r=>(rpS tE5).Is h r (zK7 s s.1.length))):=by
 refine cb1 35 vs func155 hs ?_;refine go2 ?_;refine nB rs λb1 aj U=>(u5 ?_);refine xK 200 5 ?_;have aa:=RL.nil (ρ:=rpP rpI (rpP rpI (rpP rpI (rpP rpI rpI)))) (h:=h0);refine gcL (ι:=Nat×List (Int×Int×Int×Int×Int)×Value×List Value×Mem) (λ(f,D,C,G,mf)=>(MLe h0 mf/\(RL tE5 mf G D/\f<=s.1.length/\D=zK7 s f),[(1,vP b1 0),(3,C),(4,vI ↑f)],[.gs 200 5 C D.length G,.var b1 50 aj],mf,s.1.length-f)) (0,[],(.slice none 0 0),[],h0) ?_ ?_
 · exact⟨mle,aa,by omega,I⟩
 rintro⟨f,D,C,G,mf⟩ ⟨ay,H,bo,hD⟩
 refine yW ?_;have bp:D.length<=f:=by rw[hD];exact cA _ _ f
 refine go5 ?_;refine lX (xB qD (y4i pH) U) λv8 r8=>(gc4 (λah=>?_) λah=>?_)
 ·
  refine qE ?_;refine gcL (ι:=Nat×Mem) (λ(q,mb)=>(MLe mf mb/\(q<=f/\∀u,u<q->¬gp s.1 f=gp s.1 u),[(1,vP b1 0),(3,C),(4,vI ↑f),(5,vI ↑q)],[.gs 200 5 C D.length G,.var b1 50 aj],mb,f-q)) (0,mf) ?_ ?_
  · exact⟨mle,by omega,λu h=>by omega⟩
  rintro⟨q,mb⟩ ⟨az,bl,ad⟩
  refine yW ?_;refine gc8 (λae=>?_) λae=>?_
  ·
   refine go5 ?_;refine zK 11 _ [] (zai 0 10 [(10,.c)]) yA nX zot nX (λr hr=>hr) (go1 ?_);refine wX I (xB qD (y4i pH) U) λbi aw=>(go1 ?_);refine wX I (xI zT f underlying46 zR aw) λbh av=>(wX I (xA zR av) λbg au=>(go1 ?_));refine wX I (xB qD (y4i pH) U) λbf ar=>(go1 ?_);refine wX I (xI zT q underlying46 zR ar) λbe aq=>(wX I (xA zR aq) λbd ap=>?_);refine w_c I (sC (ev2 I I) call27 (λw hs=>x0 hs au ap oM) λam h1 ax ao=>?_);obtain rfl:am=vB ((s.1.getD f zT)=(s.1.getD q zT)):=ao;refine gc2 (λJ=>?_) λJ=>?_
   ·
    have Z:twP s f:=⟨q,by omega,J⟩;refine go4 ?_;refine cL (vs:=[vI (37),vI (-1),vI (-1),_]) e4z call188 (λw hs=>zAH hs dC dC dC dC dC dC oM oM) λbc h2 bn an=>(zH (zN (ρ:=tE5) (m:=1) (xs:=[dg (37:Int) (-1:Int) (-1:Int) (↑f:Int)]) (ps':=[(0,_)]) underlying137 jX I I I (yF wY (yF wY (yF wY (yF wY wY)))) e2z (zC I (y3e (y3u _) e50 0 dC) an zQ) zoi nP) I I I ?_)
    rintro bb bk ⟨ba,rfl,ac⟩
    refine zX (A:=[]) (ρ:=tE5) ac ?_;intro h3 bm O;refine xU (A:=[]) (yB (ρ:=tE5) (bytes:=40) underlying137 jX I I I I nP I I H.up O bO bO) I I I ?_
    rintro ak bj ⟨ai,rfl,ab⟩
    refine u5 ?_;refine gqL ((f+1),(D++[dg (37:Int) (-1:Int) (-1:Int) (↑f:Int)]),ak,ai,h3) ?_ ?_
    · exact⟨mle,ab,by omega,by rw[hD];exact zBF Z⟩
    omega
   refine go8 ?_;refine gqL ((q+1),h1) ?_ ?_
   · exact⟨mle,by omega,qN (Q:=λu=>¬gp s.1 f=gp s.1 u) ad J⟩
   omega
  have Z:¬twP s f:=λ⟨u,h1,h2⟩=>ad u oM h2;refine jI ?_;refine gqL ((f+1),D,C,G,mb) ?_ ?_
  · exact⟨mle,H.up,by omega,by rw[hD];exact zBG Z⟩
  omega
 have ef:f=s.1.length:=by omega
 refine jF ?_;refine wR (A:=[]) (ρ:=tE5) H.up ?_;intro h1 ax M;refine zF I I ?_;exact(Rp.Is.cast M (by rw[hD,ef]))
theorem zPE{k m n j:Nat}{vs:Value}{s:Sq}(rs:(tSd k m n j).Is h0 vs s)(hcd0:k<=1000)(hcd1:m<=100000)(hcd2:n<=100000)(hcd3:s.1.length<=100000)(hcd4:∀f,f<s.2.1.length->(s.2.1.getD f zA).2.1.length<=10000/\∀l,l<(s.2.1.getD f zA).2.1.length->((s.2.1.getD f zA).2.1.getD l []).length<=10000)(hcd5:s.2.1.length<=1000)(hcd6:s.1.length<=100000)(hcd7:∀f,f<s.2.1.length->(s.2.1.getD f zA).2.1.length<=16/\∀l,l<(s.2.1.getD f zA).2.1.length->((s.2.1.getD f zA).2.1.getD l []).length<=64):
 Calls prog 156 #[vs] w0 (Ret w0 h0 (λh r=>(rpS tE5).Is h r (plZ s))):=by
 refine cb1 74 vs func156 hs ?_;refine go2 ?_;refine nB rs λb1 aq an=>(zDD ?_);refine xK 200 5 ?_;have az:=RL.nil (ρ:=rpP rpI (rpP rpI (rpP rpI (rpP rpI rpI)))) (h:=h0);refine xK 200 5 ?_;have ay:=RL.nil (ρ:=rpP rpI (rpP rpI (rpP rpI (rpP rpI rpI)))) (h:=h0);refine gcL (ι:=Nat×List (Int×Int×Int×Int×Int)×List (Int×Int×Int×Int×Int)×Value×List Value×Value×List Value×Mem) (λ(f,D,G,ab,ac,J,aa,ma)=>(MLe h0 ma/\(RL tE5 ma ac D/\RL tE5 ma aa G/\f<=s.2.1.length/\D=zUH s f/\G=zO8 s f),[(1,vP b1 0),(3,ab),(4,J),(5,vI ↑f)],[.gs 200 5 J G.length aa,.gs 200 5 ab D.length ac,.var b1 50 aq],ma,s.2.1.length-f)) (0,[],[],(.slice none 0 0),[],(.slice none 0 0),[],h0) ?_ ?_
 · exact⟨mle,az,ay,by omega,I,I⟩
 rintro⟨f,D,G,ab,ac,J,aa,ma⟩ ⟨cv,ae,ai,em,hD,hG⟩
 refine yW ?_;have eo:D.length<=f:=by rw[hD];exact cA _ _ f
 have en:G.length<=1024*f:=by rw[hG];exact zWM hcd7 f oM
 have bi:=mX (s:=s) (f:=↑f) hcd7;refine go5 ?_;refine lX (xB gG (y4u (y4i pH)) an) λdz eb=>(gc4 (λbm=>?_) λbm=>?_)
 ·
  refine go4 ?_;refine jC (ι:=List (Int×Int×Int×Int×Int)×Value×List Value×Mem) (λ(ZR,C,H,mz)=>MLe ma mz/\(RL tE5 mz H ZR/\ZR=zUH s (f+1))) (λ(ZR,C,H,mz)=>[(1,vP b1 0),(3,C),(4,J),(5,vI ↑f)]) (λ(ZR,C,H,mz)=>[.gs 200 5 J G.length aa,.gs 200 5 C ZR.length H,.var b1 50 aq]) (λ(ZR,C,H,mz)=>mz) ?_ ?_
  ·
   refine go3 ?_;refine lX (xB gG (y4u (y4i pH)) an) λdy cm=>(go1 ?_);refine lX (xI zA f underlying47 sJ cm) λdx cl=>(lX (xF underlying83 sizeOf80 (y4i pH) cl) λdw ck=>(lX (xF underlying80 sizeOf53 (y4i pH) ck) λdv cj=>(lX (xA zR cj) λdu ci=>(cL (ev1 I) call42 (λw hs=>zC5 hs ci oM) λbs h1 aj ch=>?_))));obtain rfl:bs=vB ((((s.2.1.getD f zA).1).1)=zT):=ch;refine gc2 (λam=>?_) λam=>?_
   ·
    refine go3 ?_;refine cL (vs:=[vI (9),_,vI (-1),vI (-1)]) e4z call188 (λw hs=>zAH hs dC dC oM oM dC dC dC dC) λdt h2 bh cg=>(zH (zN (ρ:=tE5) (m:=1) (xs:=[dg (9:Int) (↑f:Int) (-1:Int) (-1:Int)]) (ps':=[(0,_)]) underlying137 jX I I I (yF wY (yF wY (yF wY (yF wY wY)))) e2z (zC I (y3e (y3u _) e50 0 dC) cg zQ) zoi nP) I I I ?_)
    rintro dr eg ⟨db,rfl,be⟩
    refine zX (A:=[]) (ρ:=tE5) be ?_;intro h3 bg aw;refine xU (A:=[_]) (yB (ρ:=tE5) (bytes:=40) underlying137 jX I I I I nP I I ae.up aw bO bO) I I I ?_
    rintro br ee ⟨bo,rfl,bd⟩
    refine go2 ?_;refine zY ((D++[dg (9:Int) (↑f:Int) (-1:Int) (-1:Int)]),br,bo,h3) ?_ e4z I I;refine⟨((aj.trans bh).trans bg),?_⟩;refine⟨bd,?_⟩;exact(by rw[hD];exact zBF am)
   refine go1 ?_;refine zY (D,ab,ac,h1) ?_ e4z I I;refine⟨aj,?_⟩;refine⟨ae.up,?_⟩;exact(by rw[hD];exact zBG am)
  rintro⟨ZR,C,H,mz⟩ ⟨cq,hZ⟩
  refine yW ?_;obtain⟨ax,hZ⟩:=hZ;refine go2 ?_;refine lX (xB qP pH an) λdq cf=>(go1 ?_);refine cL (ev2 I I) call189 (λw hs=>zD0 hs cf oM oM (by first|omega|exact hcd4) (by first|omega|exact hcd4)) λba h1 aj bf=>(go9 ?_);refine gcL (ι:=Nat×List (Int×Int×Int×Int×Int)×Value×List Value×Mem) (λ(l,G1,O,Z,mb)=>(MLe h1 mb/\(RL tE5 mb Z G1/\l<=(fE s ↑f).length/\G1=zO8 s f++ofL s f l),[(1,vP b1 0),(3,C),(4,O),(5,vI ↑f),(6,ba),(7,vI ↑l)],[.gs 200 5 O G1.length Z,.gs 200 5 C ZR.length H,.var b1 50 aq],mb,(fE s ↑f).length-l)) (0,G,J,aa,h1) ?_ ?_
  · exact⟨mle,ai.up,by omega,by rw[hG];exact(zli _).symm⟩
  rintro⟨l,G1,O,Z,mb⟩ ⟨cu,ah,eh,ap⟩
  refine yW ?_;have cp:=zFT (s:=s) hcd7 f l;have cz:G1.length<=1024*f+1024:=by rw[ap,lAz,<-hG];have:=bi.1;omega
  refine gc9 (λbl=>?_) λbl=>?_
  ·
   refine qE ?_;refine gcL (ι:=Nat×List (Int×Int×Int×Int×Int)×Value×List Value×Mem) (λ(i,G2,M,U,mc)=>(MLe mb mc/\(RL tE5 mc U G2/\i<=((fE s ↑f).getD l []).length/\G2=zO8 s f++ofL s f l++ofX s f l i),[(1,vP b1 0),(3,C),(4,M),(5,vI ↑f),(6,ba),(7,vI ↑l),(8,vI ↑i)],[.gs 200 5 M G2.length U,.gs 200 5 C ZR.length H,.var b1 50 aq],mc,((fE s ↑f).getD l []).length-i)) (0,G1,O,Z,mb) ?_ ?_
   · exact⟨mle,ah,by omega,by rw[ap];exact(zli _).symm⟩
   rintro⟨i,G2,M,U,mc⟩ ⟨ct,ad,ej,ao⟩
   refine yW ?_;have cw:=bi.2 l;have co:(ofX s f l i).length<=i:=cA _ _ i;have cy:G2.length<=1024*f+2048:=by rw[ao,lAz,<-ap];omega
   refine go6 ?_;refine lX (xI [] l underlying115 qD bf) λdp ce=>(lX (xA qD ce) λdn ea=>(gc4 (λbk=>?_) λbk=>?_))
   ·
    refine go5 ?_;refine zK 15 _ [] (zai 0 13 [(13,.c),(14,.q)]) yA nX (wV zot) nX (λr hr=>hr) (go1 ?_);refine wX I (xB gG (y4u (y4i pH)) an) λdm cd=>(go1 ?_);refine wX I (xI zA f underlying47 sJ cd) λdl cc=>(wX I (xF underlying83 sizeOf80 (y4i pH) cc) λdk cb=>(wX I (xA iI cb) λdj ca=>(go2 ?_)));refine wX I (xI [] l underlying115 qD bf) λdi bz=>(wX I (xA qD bz) λdh bx=>(go1 ?_));refine wX I (xI zT i underlying46 zR bx) λdf bw=>(wX I (xA zR bw) λde bv=>?_);refine w_c I (sC (ev2 I I) call153 (λw hs=>zTF hs ca bv oM oM oM) λbq h2 bh bu=>?_);obtain rfl:bq=vI (yU (xO ((s.2.1.getD f zA).1).1 (((fE s (↑f:Int)).getD l []).getD i zT)-((s.2.1.getD f zA).1).2)):=bu;have cn:=xW (xO ((s.2.1.getD f zA).1).1 (((fE s (↑f:Int)).getD l []).getD i zT)-((s.2.1.getD f zA).1).2);refine gc3 (λak=>?_) λak=>?_
    ·
     refine go5 ?_;refine cL (vs:=[vI (31),_,_,_]) e4z call188 (λw hs=>zAH hs dC dC oM oM oM oM oM oM) λdd h3 bg bt=>(zH (zN (ρ:=tE5) (m:=1) (xs:=[dg (31:Int) (↑f:Int) (↑l:Int) (↑i:Int)]) (ps':=[(0,_)]) underlying137 jX I I I (yF wY (yF wY (yF wY (yF wY wY)))) e2z (zC I (y3e (y3u _) e50 0 dC) bt zQ) zoi nP) I I I ?_)
     rintro dc ed ⟨da,rfl,bc⟩
     refine zX (A:=[]) (ρ:=tE5) bc ?_;intro h4 ek av;refine xU (A:=[]) (yB (ρ:=tE5) (bytes:=40) underlying137 jX I I I I nP I I ad.up av bO bO) I I I ?_
     rintro bp ec ⟨bn,rfl,bb⟩
     refine go9 ?_;refine gqL ((i+1),(G2++[dg (31:Int) (↑f:Int) (↑l:Int) (↑i:Int)]),bp,bn,h4) ?_ ?_
     · exact⟨mle,bb,by omega,by rw[ao,zhu,show ofX s f l i++_=_ from zBF (p:=ofP s f l) ak];rfl⟩
     omega
    refine go8 ?_;refine gqL ((i+1),G2,M,U,h2) ?_ ?_
    · exact⟨mle,ad.up,by omega,by rw[ao,show ofX s f l i=_ from zBG (p:=ofP s f l) ak];rfl⟩
    omega
   have ei:i=((fE s ↑f).getD l []).length:=by omega
   refine jI ?_;refine gqL ((l+1),G2,M,U,mc) ?_ ?_
   · exact⟨mle,ad.up,by omega,by rw[ao,ei,zhu];rfl⟩
   omega
  have el:l=(fE s ↑f).length:=by omega
  refine jI ?_;refine gqL ((f+1),ZR,G1,C,H,O,Z,mb) ?_ ?_
  · exact⟨mle,ax.up,ah,by omega,hZ,by rw[ap,el];rfl⟩
  omega
 have ef:f=s.2.1.length:=by omega
 refine go9 ?_;refine gv (jU mh1 underlying137 I) I (gc3 (λbj=>?_) λbj=>?_)
 ·
  refine go8 ?_;refine wR (A:=[_]) (ρ:=tE5) ae.up ?_;intro h1 aj au;refine zF I I ?_;exact(Rp.Is.cast au (by rw[hD,ef];exact(zau (by rw[<-ef,<-hD];omega)).symm))
 refine go9 ?_;refine wR (A:=[]) (ρ:=tE5) ai.up ?_;intro h1 aj ar;refine zF I I ?_;exact(Rp.Is.cast ar (by rw[hG,ef];exact(zae (by rw[<-ef,<-hD];omega)).symm))
theorem zII{k:Nat}{vL:Value}{L:(List (List Tq))}(rL:(tLL k).Is h0 vL L)(hcd0:k<=100000)(hcd1:∀l,l<L.length->(L.getD l []).length<=1000)(hcd2:L.length<=100000):
 Calls prog 124 #[vL] w0 (Ret w0 h0 (λ_ r=>r=vI (ouZ L))):=by
 refine cb1 21 vL func124 hs ?_;refine iD ?_;refine gcL (ι:=Nat×Mem) (λ(m,O)=>(MLe h0 O/\(m<=L.length),[(0,vL),(3,vI (zAE L m)),(4,vI ↑m)],[],O,L.length-m)) (0,h0) ?_ ?_
 · exact⟨mle,oM⟩
 rintro⟨m,O⟩ ⟨aa,ae⟩
 refine yW ?_;have hor:=zBN L m;have ah:=hcd1 m;refine gc9 (λZ=>?_) λZ=>?_
 ·
  refine go8 ?_;refine lX (xI [] m underlying115 qD rL) λad M=>(lX (xA qD M) λac J=>(cL (ev1 I) call170 (λw hs=>pS hs J oM oM) λab h1 aj H=>(cL (ev1 I) call17 (λw hs=>vX hs H dC) λD h2 ai G=>?_)));obtain rfl:D=vI (yU (uU (L.getD m []) 0 1 (L.getD m []).length)):=G;have U:=xW (uU (L.getD m []) 0 1 (L.getD m []).length);refine gc3 (λC=>?_) λC=>?_
  ·
   refine jF ?_;refine gqL ((m+1),h2) ?_ ?_ (he:=⟨I,zbi (λz=>some (vI z)) (ou_t C),I,y3i⟩)
   · exact⟨mle,oM⟩
   omega
  refine go8 ?_;refine gqL ((m+1),h2) ?_ ?_ (he:=⟨I,zbi (λz=>some (vI z)) (ou_f C),I,y3i⟩)
  · exact⟨mle,oM⟩
  omega
 refine jF ?_;refine zF I I ?_;have em:m=L.length:=by omega
 subst em
 rfl
theorem zTJ{k m n j:Nat}{vs:Value}{s:Sq}(rs:(tSd k m n j).Is h0 vs s)(hcd0:k<=1000)(hcd1:m<=100000)(hcd2:n<=100000)(hcd3:okS s):
 Calls prog 157 #[vs] w0 (Ret w0 h0 (λh r=>(rpS tE5).Is h r (neZ s))):=by
 have cl:=hcd3.1.1.1;have ck:=hcd3.1.1.2;refine cb1 45 vs func157 hs ?_;refine go2 ?_;refine nB rs λb1 bh aw=>(zDD ?_);refine xK 200 5 ?_;have ap:=RL.nil (ρ:=rpP rpI (rpP rpI (rpP rpI (rpP rpI rpI)))) (h:=h0);refine xK 200 5 ?_;have ao:=RL.nil (ρ:=rpP rpI (rpP rpI (rpP rpI (rpP rpI rpI)))) (h:=h0);refine gcL (ι:=Nat×List (Int×Int×Int×Int×Int)×List (Int×Int×Int×Int×Int)×Value×List Value×Value×List Value×Mem) (λ(f,D,G,O,U,J,M,ma)=>(MLe h0 ma/\(RL tE5 ma U D/\RL tE5 ma M G/\f<=s.2.1.length/\D=zY5 s f/\G=yFU s f),[(1,vP b1 0),(3,O),(4,J),(5,vI ↑f)],[.gs 200 5 J G.length M,.gs 200 5 O D.length U,.var b1 50 bh],ma,s.2.1.length-f)) (0,[],[],(.slice none 0 0),[],(.slice none 0 0),[],h0) ?_ ?_
 · exact⟨mle,ap,ao,by omega,I,I⟩
 rintro⟨f,D,G,O,U,J,M,ma⟩ ⟨bt,aa,Z,cm,hD,hG⟩
 refine yW ?_;have co:D.length<=f:=by rw[hD];exact cA _ _ f
 have cn:G.length<=f:=by rw[hG];exact cA _ _ f
 have bb:=zEX s f;have bc:=mX (s:=s) (f:=↑f) hcd3.2.1;have cj:=zMM (sY s f) 0 1;refine go5 ?_;refine lX (xB gG (y4u (y4i pH)) aw) λcd ce=>(gc4 (λbe=>?_) λbe=>?_)
 ·
  refine go6 ?_;refine lX (xB qP pH aw) λcc bq=>(go1 ?_);refine cL (ev2 I I) call176 (λw hs=>zME (f:=f) hs bq oM oM oM (by first|omega|exact hcd3.big) (by first|omega|exact hcd3.big) (by first|omega|exact hcd3.big) (by first|omega|exact hcd3.big)) λbl h1 ba ax=>(go3 ?_);refine jC (ι:=List (Int×Int×Int×Int×Int)×Value×List Value×Mem) (λ(ZR,H,C,mz)=>MLe h1 mz/\(RL tE5 mz C ZR/\ZR=zY5 s (f+1))) (λ(ZR,H,C,mz)=>[(1,vP b1 0),(3,H),(4,J),(5,vI ↑f),(6,bl)]) (λ(ZR,H,C,mz)=>[.gs 200 5 J G.length M,.gs 200 5 H ZR.length C,.var b1 50 bh]) (λ(ZR,H,C,mz)=>mz) ?_ ?_
  ·
   refine go3 ?_;refine cL (ev1 I) call123 (λw hs=>zID hs ax oM (by first|omega|exact hcd3.2.2 f oM)) λcb h2 an bp=>?_;obtain⟨ae,rfl,am⟩:=bp
   change (rpS rpI).Is h2 ae (sS (sY s f) 0 1) at am
   refine pV ?_;refine cnd (λad=>?_) λad=>?_
   ·
    refine go4 ?_;refine cL (vs:=[_,_,vI (-1),vI (-1)]) e4z call188 (λw hs=>zAH hs oM oM oM oM dC dC dC dC) λca h3 az bo=>(zH (zN (ρ:=tE5) (m:=1) (xs:=[dg (uF (sY s f) 0 1) (↑f:Int) (-1:Int) (-1:Int)]) (ps':=[(0,_)]) underlying137 jX I I I (yF wY (yF wY (yF wY (yF wY wY)))) e2z (zC I (y3e (y3u _) e50 0 dC) bo zQ) zoi nP) I I I ?_)
    rintro bz ci ⟨bv,rfl,av⟩
    refine zX (A:=[]) (ρ:=tE5) av ?_;intro h4 ay ak;refine xU (A:=[_]) (yB (ρ:=tE5) (bytes:=40) underlying137 jX I I I I nP I I aa.up ak bO bO) I I I ?_
    rintro bk ch ⟨bg,rfl,au⟩
    refine go2 ?_;refine zY ((D++[dg (uF (sY s f) 0 1) (↑f:Int) (-1:Int) (-1:Int)]),bk,bg,h4) ?_ e5 I I;refine⟨((an.trans az).trans ay),?_⟩;refine⟨au,?_⟩;exact(by rw[hD];exact zBF ad)
   refine go1 ?_;refine zY (D,O,U,h2) ?_ e5 I I;refine⟨an,?_⟩;refine⟨aa.up,?_⟩;exact(by rw[hD];exact zBG ad)
  rintro⟨ZR,H,C,mz⟩ ⟨bs,hZ⟩
  refine yW ?_;obtain⟨ab,hZ⟩:=hZ;refine go3 ?_;refine cL (ev1 I) call124 (λw hs=>zII hs ax.up oM (by first|omega|exactλl hl=>(by rw[bb.2 l];exact zci (bc.2 l) dC)) (by first|omega|exactλl hl=>(by rw[bb.2 l];exact zci (bc.2 l) dC))) λbj h2 an bn=>?_;obtain rfl:bj=vI (ouZ (sY s f)):=bn;have br:=zBN (sY s f) (sY s f).length;refine gc3 (λac=>?_) λac=>?_
  ·
   refine go3 ?_;refine cL (vs:=[vI (33),_,vI (-1),vI (-1)]) e4z call188 (λw hs=>zAH hs dC dC oM oM dC dC dC dC) λbx h3 az bm=>(zH (zN (ρ:=tE5) (m:=1) (xs:=[dg (33:Int) (↑f:Int) (-1:Int) (-1:Int)]) (ps':=[(0,_)]) underlying137 jX I I I (yF wY (yF wY (yF wY (yF wY wY)))) e2z (zC I (y3e (y3u _) e50 0 dC) bm zQ) zoi nP) I I I ?_)
   rintro bw cg ⟨bu,rfl,ar⟩
   refine zX (A:=[]) (ρ:=tE5) ar ?_;intro h4 ay aj;refine xU (A:=[]) (yB (ρ:=tE5) (bytes:=40) underlying137 jX I I I I nP I I Z.up aj bO bO) I I I ?_
   rintro bi cf ⟨bf,rfl,aq⟩
   refine go9 ?_;refine gqL ((f+1),ZR,(G++[dg (33:Int) (↑f:Int) (-1:Int) (-1:Int)]),H,C,bi,bf,h4) ?_ ?_
   · exact⟨mle,ab.up,aq,by omega,hZ,by rw[hG];exact zBF ac⟩
   omega
  refine go8 ?_;refine gqL ((f+1),ZR,G,H,C,J,M,h2) ?_ ?_
  · exact⟨mle,ab.up,Z.up,by omega,hZ,by rw[hG];exact zBG ac⟩
  omega
 have ef:f=s.2.1.length:=by omega
 refine go9 ?_;refine gv (jU mh1 underlying137 I) I (gc3 (λbd=>?_) λbd=>?_)
 ·
  refine go8 ?_;refine wR (A:=[_]) (ρ:=tE5) aa.up ?_;intro h1 ba ai;refine zF I I ?_;exact(Rp.Is.cast ai (by rw[hD,ef];exact(zau (by rw[<-ef,<-hD];omega)).symm))
 refine go9 ?_;refine wR (A:=[]) (ρ:=tE5) Z.up ?_;intro h1 ba ah;refine zF I I ?_;exact(Rp.Is.cast ah (by rw[hG,ef];exact(zae (by rw[<-ef,<-hD];omega)).symm))
theorem zTK{k m n j:Nat}{vs:Value}{s:Sq}(rs:(tSd k m n j).Is h0 vs s)(hcd0:k<=1000)(hcd1:m<=100000)(hcd2:n<=100000)(hcd3:okS s):
 Calls prog 107 #[vs] w0 (Ret w0 h0 (λh r=>(rpS tE5).Is h r (zYW s))):=by
 have au:=hcd3.1.1.1;have ar:=hcd3.1.1.2;refine cb1 34 vs func107 hs ?_;refine go2 ?_;refine nB rs λb1 bb C=>(go6 ?_);refine lX (xB qP pH C) λv7 r7=>(cL (ev1 I) call154 (λw hs=>zTH hs r7 (by first|omega|exact hcd3|exact hcd3.big|exact hcd3.mem|exact hcd3.2.1)) λv8 h1 ba r8=>(u6 (λJ=>?_) λJ=>?_))
 ·
  refine go8 ?_;refine zF I I ?_;exact(Rp.Is.cast r8 (by exact(zau oM).symm))
 refine go5 ?_;refine lX (xB qP pH C) λaq ae=>(cL (ev1 I) call155 (λw hs=>zTG hs ae (by first|omega|exact hcd3|exact hcd3.big|exact hcd3.mem|exact hcd3.2.1) oM) λap h2 az ad=>(u6 (λH=>?_) λH=>?_))
 ·
  refine go8 ?_;refine zF I I ?_;exact(Rp.Is.cast ad (by exact((zae oM).trans (zau oM)).symm))
 refine go5 ?_;refine lX (xB qP pH C) λao ac=>(cL (ev1 I) call156 (λw hs=>zPE hs ac oM oM oM (by first|omega|exact hcd3|exact hcd3.big|exact hcd3.mem|exact hcd3.2.1) (by first|omega|exact hcd3|exact hcd3.big|exact hcd3.mem|exact hcd3.2.1) (by first|omega|exact hcd3|exact hcd3.big|exact hcd3.mem|exact hcd3.2.1) (by first|omega|exact hcd3|exact hcd3.big|exact hcd3.mem|exact hcd3.2.1) (by first|omega|exact hcd3|exact hcd3.big|exact hcd3.mem|exact hcd3.2.1)) λan h3 ay ab=>(u6 (λG=>?_) λG=>?_))
 ·
  refine go8 ?_;refine zF I I ?_;exact(Rp.Is.cast ab (by exact((zae oM).trans ((zae oM).trans (zau oM))).symm))
 refine go5 ?_;refine lX (xB qP pH C) λam aa=>(cL (ev1 I) call157 (λw hs=>zTJ hs aa oM oM oM (by first|omega|exact hcd3|exact hcd3.big|exact hcd3.mem|exact hcd3.2.1)) λak h4 ax Z=>(u6 (λD=>?_) λD=>?_))
 ·
  refine go8 ?_;refine zF I I ?_;exact(Rp.Is.cast Z (by exact((zae oM).trans ((zae oM).trans ((zae oM).trans (zau oM)))).symm))
 refine go4 ?_;refine lX (xB qP pH C) λaj U=>(cL (ev1 I) call159 (λw hs=>zIK hs U (by first|omega|exact hcd3|exact hcd3.big|exact hcd3.mem|exact hcd3.2.1) (by first|omega|exact hcd3|exact hcd3.big|exact hcd3.mem|exact hcd3.2.1)) λai h5 aw O=>(cL (ev1 I) call158 (λw hs=>zL6 hs O) λah h6 av M=>(go4 ?_)));refine zF I I ?_;exact(Rp.Is.cast M (by exact((zae oM).trans ((zae oM).trans ((zae oM).trans (zae oM)))).symm))
theorem zIF{k m n j:Nat}{vs:Value}{s:Sq}(rs:(tSd k m n j).Is h0 vs s)(hcd0:k<=1000)(hcd1:m<=100000)(hcd2:n<=100000)(hcd3:okS s):
 Calls prog 61 #[vs] w0 (Ret w0 h0 (λ_ r=>r=vB (lT s))):=by
 refine cb1 7 vs func61 hs ?_;refine go2 ?_;refine nB rs λH G C=>(go5 ?_);refine lX (xB qP pH C) λv3 r3=>(cL (ev1 I) call107 (λw hs=>zTK hs r3 oM oM oM (by first|omega|exact hcd3)) λv4 h1 D r4=>(go6 ?_));refine zF I I ?_;exact tZ (by unfold lT;omega)
theorem zAG{k m n j:Nat}{vs:Value}{s:Sq}(rs:(tSd k m n j).Is h0 vs s)(hcd0:k<=1000)(hcd1:m<=100000)(hcd2:n<=100000)(hcd3:okS s):
 Calls prog 82 #[vs] w0 (rA w0 h0 (λh r L_=>∃vF cs,(rpP (tLs (k+1)) (rpP rpV (rpS (rpP rpI (rpP rpI (rpQ (j+1))))))).Is h r (nrP s,(vF,nrE s))/\L_=[.gs 83 14 vF (nrF s).length cs]/\vF.oneCell'=true/\RL (tFc (4*m+12) (m+n+12)) h cs (nrF s))):=by
 have ie:=hcd3.1.1.1;have id:=hcd3.1.1.2;have ic:=hcd3.1.2;refine cb1 100 vs func82 hs ?_;refine go2 ?_;refine nB rs λb1 cu an=>(nA (ρ:=(rpP (tLs 1) (rpP rpV (rpS (rpP rpI (rpP rpI (rpQ 1))))))) (X:=([],((Value.slice none 0 0),[]))) qC (yF wD (yF fG wD)) λb2 ct di=>(go5 ?_));refine lX (xB qP pH an) λho fh=>(cL (ev1 I) call61 (λw hs=>zIF hs fh oM oM oM (by first|omega|exact hcd3)) λeg h1 im fg=>?_);obtain rfl:eg=vB (lT s):=fg;refine gc3 (λai=>?_) λai=>?_
 ·
  refine go2 ?_;refine lX (xV (ρ:=(rpP (tLs 1) (rpP rpV (rpS (rpP rpI (rpP rpI (rpQ 1))))))) (xE (ps':=[]) underlying50 qC I I (sN underlying50) trivial I (yF wD (yF fG wD)) zQ)) λhn ff=>(zU (A:=[]) (uB sizeOf50 pH di ff) λgf dh=>(go4 ?_));rw[show nrF s=[] from zae ai];refine aS 83 14 ?_;have db:=RL.nil (ρ:=rpP (tPl (4*m+12) (m+n+12)) (rpP tII uP)) (h:=h1);refine xH (qK (t:=2) qP mh1 I dh) ?_;intro gi cf cz;refine kX (.cons_cons _ (zru _)) (λE S=>zS I cf E S) ?_;exact⟨_,_,(Rp.Is.cast (Rp.Is.le cz (Le.p (Le.s (Le.t (Le.q (l:=k+1) oM))) (Le.p (Le.refl _) (Le.s (Le.p (Le.refl _) (Le.p (Le.refl _) (Le.q (l:=j+1) oM))))))) (by rw[show nrP s=[] from zae ai,show nrE s=[] from zae ai])),I,I,db⟩
 refine go4 ?_;refine lX (xB qP pH an) λhm fe=>?_;have bd:lT s:=zdi ai;have aw:=yEM bd;have ia:(fV s).length<=s.1.length:=zO6 s s.1.length;refine cL (ev1 I) call127 (λw hs=>zTI hs fe oM (by first|omega|exact hcd3|exact aw) (by first|omega|exact hcd3|exact aw)) λee h2 il bb=>?_;replace bb:=Rp.Is.cast (y:=(fV s)) bb zoz;refine go6 ?_;refine lX (xB qD (y4i pH) an) λhl hq=>(go1 ?_);refine zH (zIP (ρ:=rpI) (X:=(0:Int)) (by':=8) s.1.length underlying32 jV I I I I wY I I zoz zoz bO bO) I I I ?_
 rintro ed hw ⟨dr,rfl,df⟩
 refine go6 ?_;refine lX (xB yDT (y4u (y4u pH)) an) λhk fd=>(zDE 233 5 ?_);have da:=RL.nil (ρ:=rpP rpI (rpP rpI (rpQ j))) (h:=h2);refine xU (A:=[]) (uN (yB (ρ:=(rpP rpI (rpP rpI (rpQ j)))) (bytes:=72) underlying48 zRS I I I I nP I I da fd bO bO)) I I I ?_
 rintro hj hv ⟨fy,gh,rfl,de⟩
 refine zX (A:=[]) (ρ:=(rpP rpI (rpP rpI (rpQ j)))) de ?_;intro h3 ik cy;refine lX (xV (ρ:=(rpP rpV (rpP rpV (rpS (rpP rpI (rpP rpI (rpQ (j+1)))))))) (xE (ps':=[(2,_)]) underlying50 qC I I (sN underlying50) e2z I (yF fG (yF fG wD)) (zC I (y4u (y4u (y3u _))) (cy.le (Le.s (Le.p (Le.refl _) (Le.p (Le.refl _) (Le.q (l:=j+1) oM))))) zQ))) λhg fc=>(nA (ρ:=(rpP rpV (rpP rpV (rpS (rpP rpI (rpP rpI (rpQ 1))))))) (X:=((Value.slice none 0 0),((Value.slice none 0 0),[]))) qC (yF fG (yF fG wD)) λb5 iu ej=>?_);have cw:=(Le.p (Le.refl _) (Le.p (Le.refl _) (Le.s (Le.p (Le.refl _) (Le.p (Le.refl _) (Le.q (l:=j+1) oM)))))).R ej;refine zU (A:=[]) (uB sizeOf50 pH cw fc) λdm bx=>(go9 ?_);refine xK 53 9 ?_;have bt:=RL.nil (ρ:=rpT (rpQ (k+1))) (h:=h3);refine gcL (ι:=Nat×List Int×List Tq×List Value×Value×List Value×Value×List Value×Mem) (λ(i,IX,PS,U,G,au,O,ar,ma)=>(MLe h3 ma/\((rpP rpV (rpP rpV (rpS (rpP rpI (rpP rpI (rpQ (j+1))))))).R ma U (O,(Value.slice none 0 0,s.2.2))/\RL rpI ma au IX/\RL (tPt (k+1)) ma ar PS/\O.oneCell'=true/\i<=(fV s).length/\IX=zHM s i/\PS=zWW s i),[(1,vP b1 0),(2,vP b2 0),(3,ee),(4,G),(5,vP b5 0),(6,vI ↑i)],[.gs 53 9 O PS.length ar,.var b5 50 U,.gs 3 1 G IX.length au,.var b2 50 ct,.var b1 50 cu],ma,(fV s).length-i)) (0,(List.replicate s.1.length (0:Int)),[],dm,ed,dr,(.slice none 0 0),[],h3) ?_ ?_
 · exact⟨mle,bx,df.up,bt,I,by omega,I,I⟩
 rintro⟨i,IX,PS,U,G,au,O,ar,ma⟩ ⟨gb,J,ay,ax,fl,ig,hI,hP⟩
 refine yW ?_;have ip:IX.length=s.1.length:=by rw[hI];exact zDC s i
 have io:PS.length=i:=by rw[hP];exact xZ _ _
 refine gc9 (λdk=>?_) λdk=>?_
 ·
  refine go9 ?_;refine lX (xI (0:Int) i underlying32 ty3 bb) λhf fb=>(lX (xA ty3 fb) λhd fa=>?_);obtain⟨rfl,ge,fx⟩:=gJ fa;refine go1 ?_;refine gv ((yP (((fV s).getD i 0).toNat) mh2 underlying32 sizeOf3 I I (by(have:=oN (s:=s) (i:=s.1.length) (k:=i) (show i<(aI s s.1.length).length by show i<(fV s).length;omega);show _;have h2:0<=(fV s).getD i 0/\(fV s).getD i 0<↑s.1.length:=this;omega)) (by(have:=oN (s:=s) (i:=s.1.length) (k:=i) (show i<(aI s s.1.length).length by show i<(fV s).length;omega);show _;have h2:0<=(fV s).getD i 0/\(fV s).getD i 0<↑s.1.length:=this;omega)) nP).cv (show _=zI 1 G ((((fV s).getD i 0).toNat*1+0)) from zbi (zI 1 G) zoz)) I (fW (A:=[_,_]) (F:=λc_=>RL rpI ma c_ (IX.set (((fV s).getD i 0).toNat) (↑i:Int))) (sD sizeOf3 (y3e (y3u _) (0:Int) (((fV s).getD i 0).toNat) (by(have:=oN (s:=s) (i:=s.1.length) (k:=i) (show i<(aI s s.1.length).length by show i<(fV s).length;omega);show _;have h2:0<=(fV s).getD i 0/\(fV s).getD i 0<↑s.1.length:=this;omega))) I nP I I ay (wL oM oM) I) ?_);intro cq bs;refine go2 ?_;refine jS (A:=[]) 13 [] (zai 0 10 [(10,.c),(11,.c),(12,.q),(13,.t)]) yA nX (wV zot) nX (go1 ?_);refine wX I (fN (xB qD (y4i pH) J)) λhc ez=>?_;subst ez;refine go1 ?_;refine wX I (xB qD (y4i pH) an) λha ey=>(go2 ?_);refine wX I (xI (0:Int) i underlying32 ty3 bb) λgz ew=>(wX I (xA ty3 ew) λgy ev=>?_);obtain⟨rfl,gc,fw⟩:=gJ ev;refine tA (F:=λv_=>AtP (tPt k) ma v_ (s.1.getD (((fV s).getD i 0).toNat) zT)) I (sO zT (((fV s).getD i 0).toNat) underlying46 zR I I ey (by(have:=oN (s:=s) (i:=s.1.length) (k:=i) (show i<(aI s s.1.length).length by show i<(fV s).length;omega);show _;have h2:0<=(fV s).getD i 0/\(fV s).getD i 0<↑s.1.length:=this;omega)) (by(have:=oN (s:=s) (i:=s.1.length) (k:=i) (show i<(aI s s.1.length).length by show i<(fV s).length;omega);show _;have h2:0<=(fV s).getD i 0/\(fV s).getD i 0<↑s.1.length:=this;omega)) nP) zAL I ?_;intro gx eu;refine wX I (xA zR eu) λgw es=>?_;refine w_c I (jN (λX=>zN (ρ:=(tPt (k+1))) (m:=1) (xs:=[(s.1.getD (((fV s).getD i 0).toNat) zT)]) (ps':=[(0,_)]) underlying46 yO I I I (yS (yE oM)) e2z (zC I (y3e (y3u _) zT 0 dC) (es.le (Le.t (Le.q (l:=k+1) oM))) zQ) zok nP) I ?_)
  rintro gu hu ⟨gg,rfl,dd⟩
  refine w_c I (xT (A:=[]) (ρ:=(tPt (k+1))) dd dK ?_);intro h4 cj bl;refine gV (A:=[]) (λX=>uN (yB (ρ:=(tPt (k+1))) (bytes:=168) underlying46 yO I I I I nP I I ax.up bl bO bO)) I (wA zox) ?_
  rintro ec ht ⟨be,dq,rfl,dc⟩
  refine go1 ?_;replace J:=J.mono cj;refine yG (A:=[_]) I (uB sizeOf46 (y4i pH) J (dF be)) λcp bw=>(go8 ?_);refine gqL ((i+1),(IX.set (((fV s).getD i 0).toNat) (↑i:Int)),(PS++[(s.1.getD (((fV s).getD i 0).toNat) zT)]),cp,G,cq,ec,dq,h4) ?_ ?_
  · exact⟨mle,bw,bs.up,dc,be,by omega,by rw[hI];rfl,by rw[hP];rfl⟩
  omega
 have ei:i=(fV s).length:=by omega
 refine go8 ?_;refine zX (A:=[]) (ρ:=(tPt (k+1))) ax.up ?_;intro h4 cj bk;replace J:=J.mono cj;have bv:(rpP (tLs (k+1)) (rpP rpV (rpS (rpP rpI (rpP rpI (rpQ (j+1))))))).R h4 U (PS,(O,(Value.slice none 0 0,s.2.2)).2):=zZS J bk;refine go4 ?_;refine xK 83 14 ?_;have br:=RL.nil (ρ:=rpP (tPl (4*m+12) (m+n+12)) (rpP tII uP)) (h:=h4);refine zGS (A:=[_,_]) (ρ:=rpI) ay.up ?_;intro h5 ij bj;refine gcL (ι:=Nat×List Fc×Value×List Value×Value×List Value×Mem) (λ(f,Z,M,ae,D,ad,mb)=>(MLe h5 mb/\((rpS rpI).Is mb M (ixZ s)/\(rpP (tLs (k+1)) (rpP rpV (rpS (rpP rpI (rpP rpI (rpQ (j+1))))))).R mb ae (PS,(D,s.2.2))/\RL (tFc (4*m+12) (m+n+12)) mb ad Z/\D.oneCell'=true/\f<=s.2.1.length/\Z=zAJ s f),[(1,vP b1 0),(2,vP b2 0),(4,M),(5,vP b5 0),(7,vI ↑f)],[.gs 83 14 D Z.length ad,.var b5 50 ae,.var b2 50 ct,.var b1 50 cu],mb,s.2.1.length-f)) (0,[],G,U,(.slice none 0 0),[],h5) ?_ ?_
 · exact⟨mle,(Rp.Is.cast bj (by rw[hI,ei];rfl)),bv.up,br.up,I,by omega,I⟩
 rintro⟨f,Z,M,ae,D,ad,mb⟩ ⟨ga,ak,H,aa,cg,fo,hF⟩
 refine yW ?_;have iq:Z.length=f:=by rw[hF];exact zPL s f
 have dl:=zWS hcd3 f fo;refine go5 ?_;refine lX (xB gG (y4u (y4i pH)) an) λgt hp=>(gc4 (λdj=>?_) λdj=>?_)
 ·
  refine go6 ?_;refine lX (xB qP pH an) λgr er=>(go2 ?_);refine cL (ev3 I I I) call128 (λw hs=>zF1 (f:=f) hs er ak oM oM oM (by first|omega|exact hcd3|exact aw f oM|exact zDC s _) (by first|omega|exact hcd3|exact aw f oM|exact zDC s _) (by first|omega|exact hcd3|exact aw f oM|exact zDC s _) (by first|omega|exact hcd3|exact aw f oM|exact zDC s _)) λgq h6 ii eq=>(nA (ρ:=(tFc 1 1)) (X:=((zT,(0:Rat)),([],([]:List Nat)))) qJ (yF (yF (yS (yE dC)) (yE dC)) (yF wD kE)) λb8 ir eh=>?_);have bg:=(Le.p (Le.p (Le.t (Le.q (l:=4*m+11) oM)) (Le.q (l:=m+n+11) oM)) (Le.refl _)).R eh;refine zU (A:=[]) (uB sizeOf83 pH bg eq) λco am=>(go5 ?_);refine lX (fN (xB gG (y4u (y4i pH)) H)) λgo ep=>?_;subst ep;refine gv (jU mh1 underlying47 I) I (go5 ?_);refine gcL (ι:=Nat×Mem) (λ(C,mk)=>(MLe h6 mk/\(C<=Z.length/\aP (zPV (nfF s (ixZ s) f) Z) Z.length=aP (zPV (nfF s (ixZ s) f) Z) C),[(1,vP b1 0),(2,vP b2 0),(4,M),(5,vP b5 0),(7,vI ↑f),(8,vP b8 0),(9,vI ↑C)],[.var b8 83 co,.gs 83 14 D Z.length ad,.var b5 50 ae,.var b2 50 ct,.var b1 50 cu],mk,C)) (Z.length,h6) ?_ ?_
  · exact⟨mle,by omega,I⟩
  rintro⟨C,mk⟩ ⟨fz,ib,ci⟩
  refine yW ?_;refine go2 ?_;refine zK 12 _ [] (zai 0 10 [(10,.c),(11,.q)]) yA nX (wV zot) nX (λr hr=>hr) (go3 ?_);refine tJ ((0:Int)<(↑C:Int)) (λaq=>?_) (λaq=>?_)
  ·
   rw[wB aq];refine oX I (xB sJ pH am) λgn eo=>(go1 ?_);refine oX I (fN (xB gG (y4u (y4i pH)) H)) λgm en=>?_;subst en;refine xG I I I (λh' L' hh hR=>xL I) I (go1 ?_);refine xG I I I (λh' L' hh hR=>(yP (C-1) (hR _ mh1) underlying47 sizeOf83 I I oM oM nP).cv (show _=zI 1 D (((C-1)*14+0)) from zbi (zI 1 D) zoz)) I (lV (F:=λv_=>(tFc (4*m+12) (m+n+12)).Is mk v_ (Z.getD (C-1) zA)) I I I (xP sJ (y3e (y3u _) zA (C-1) oM) I nP I aa.up I) (kH mh1) I ?_);intro gk em;refine w_c I (rC I I (sC (ev2 I I) call129 (λw hs=>zJ3 hs eo em (by first|omega|exact zci (zF6 hcd3 oM) dC|exact zci (dl _ (by rw[hF];exact gM (by rw[<-hF];omega))) dC) (by first|omega|exact zci (zF6 hcd3 oM) dC|exact zci (dl _ (by rw[hF];exact gM (by rw[<-hF];omega))) dC)) λeb h7 fm el=>?_));obtain rfl:eb=vB (lsF (nfF s (ixZ s) f) (Z.getD (C-1) zA)):=el;refine gc3 (λav=>?_) λav=>?_
   ·
    refine go9 ?_;refine gqL ((C-1),h7) ?_ ?_ (he:=⟨I,I,I,I,I,I,zbi (λz=>some (vI z)) oM,y3i⟩)
    · exact⟨mle,by omega,by rw[ci];exact zQE oM av⟩
    omega
   refine go8 ?_;refine lX (fN (xB gG (y4u (y4i pH)) H)) λea ce=>?_;subst ce;refine lX (xV (ρ:=(tFc 1 1)) (xE (ps':=[]) underlying83 qJ I I (bP underlying83) trivial I (yF (yF (yS (yE dC)) (yE dC)) (yF wD kE)) zQ)) λdz cd=>(zH (zN (ρ:=(tFc 1 1)) (m:=1) (xs:=[((zT,(0:Rat)),([],([]:List Nat)))]) (ps':=[(0,_)]) underlying47 qJ I I I (yF (yF (yS (yE dC)) (yE dC)) (yF wD kE)) e2z (zC I (y3e (y3u _) zA 0 dC) cd zQ) zom nP) I I I ?_)
   rintro dy fk ⟨dp,rfl,ba⟩
   refine zX (A:=[]) (ρ:=(tFc 1 1)) ba ?_;intro h8 ih bi;refine xU (A:=[_]) (uN (yB (ρ:=(tFc (4*m+12) (m+n+12))) (bytes:=264) underlying47 qJ I I I I nP I I aa.up (bi.le (Le.s (Le.p (Le.p (Le.t (Le.q (l:=4*m+12) oM)) (Le.q (l:=m+n+12) oM)) (Le.refl _)))) bO bO)) I I I ?_
   rintro aj fj ⟨ah,dn,rfl,az⟩
   refine go1 ?_;refine zU (A:=[_,_]) (uB sizeOf47 (y4u (y4i pH)) H (dF ah)) λcn ac=>(go3 ?_);refine lI (A:=[_]) (by rw[lAz];exact ywu _) (λob fu ao ap=>?_);refine jS (A:=[_]) 10 [] (zai 0 9 [(9,.c)]) yA nX zot nX (go1 ?_);refine wX I (fN (xB gG (y4u (y4i pH)) ac)) λdx cc=>?_;subst cc;refine go2 ?_;refine xD I (λ_ _=>jG (C+1) underlying47 sizeOf83 I I ⟨_,_,ao,ap⟩ oM zo0) I (go1 ?_);refine wX I (fN (xB gG (y4u (y4i pH)) ac)) λdw cb=>?_;subst cb;refine go1 ?_;refine xD I (λ_ _=>jG C underlying47 sizeOf83 I I ⟨_,_,ao,ap⟩ oM zo0) I ?_;refine w_c I (gV (A:=[_]) (λX=>mC (ρ:=(tFc (4*m+12) (m+n+12))) C ao ap underlying47 sizeOf83 I I zo0 az) I (wA zox) ?_)
   rintro dv fi ⟨ft,rfl,bq⟩
   refine go4 ?_;refine lX (fN (xB gG (y4u (y4i pH)) ac)) λdu ca=>?_;subst ca;refine go1 ?_;refine lX (xB sJ pH am) λdt bz=>(gv ((yP C mh1 underlying47 sizeOf83 I I oM (by rw[fS zo0];simp only[lAz,lC,lN];omega) nP).cv (show _=zI 1 aj ((C*14+0)) from zbi (zI 1 aj) zoz)) I (fW (A:=[_]) (F:=λc_=>RL (tFc (4*m+12) (m+n+12)) h8 c_ ((sL (Z++[((zT,(0:Rat)),([],([]:List Nat)))]) C).set C (nfF s (ixZ s) f))) (sD sizeOf83 (y3e (y3u _) zA C (by rw[fS zo0];simp only[lAz,lC,lN];omega)) I nP I I bq (bz.le (Le.p (Le.p (Le.t (Le.q (l:=4*m+12) oM)) (Le.q (l:=m+n+12) oM)) (Le.refl _))) I) ?_));intro cm bp;refine go8 ?_;refine uR (A:=[]) ?_;refine gqL ((f+1),((sL (Z++[((zT,(0:Rat)),([],([]:List Nat)))]) C).set C (nfF s (ixZ s) f)),M,cn,aj,cm,h8) ?_ ?_
   · exact⟨mle,ak.up,ac,bp,ah,by omega,by rw[nZ oM];have ch:aP (zPV (nfF s (ixZ s) f) Z) Z.length=C:=by{rw[ci];exact zG2 (λe=>by first|omega|exact av e.2)};rw[<-ch,hF];rfl⟩
   omega
  rw[yZ aq];refine go7 ?_;refine w_c I (zBI I I I I (jF ?_));refine lX (fN (xB gG (y4u (y4i pH)) H)) λea ce=>?_;subst ce;refine lX (xV (ρ:=(tFc 1 1)) (xE (ps':=[]) underlying83 qJ I I (bP underlying83) trivial I (yF (yF (yS (yE dC)) (yE dC)) (yF wD kE)) zQ)) λdz cd=>(zH (zN (ρ:=(tFc 1 1)) (m:=1) (xs:=[((zT,(0:Rat)),([],([]:List Nat)))]) (ps':=[(0,_)]) underlying47 qJ I I I (yF (yF (yS (yE dC)) (yE dC)) (yF wD kE)) e2z (zC I (y3e (y3u _) zA 0 dC) cd zQ) zom nP) I I I ?_)
  rintro dy fk ⟨dp,rfl,ba⟩
  refine zX (A:=[]) (ρ:=(tFc 1 1)) ba ?_;intro h7 fm bh;refine xU (A:=[_]) (uN (yB (ρ:=(tFc (4*m+12) (m+n+12))) (bytes:=264) underlying47 qJ I I I I nP I I aa.up (bh.le (Le.s (Le.p (Le.p (Le.t (Le.q (l:=4*m+12) oM)) (Le.q (l:=m+n+12) oM)) (Le.refl _)))) bO bO)) I I I ?_
  rintro aj fj ⟨ah,dn,rfl,az⟩
  refine go1 ?_;refine zU (A:=[_,_]) (uB sizeOf47 (y4u (y4i pH)) H (dF ah)) λcl ab=>(go3 ?_);refine lI (A:=[_]) (by rw[lAz];exact ywu _) (λob fu ao ap=>?_);refine jS (A:=[_]) 10 [] (zai 0 9 [(9,.c)]) yA nX zot nX (go1 ?_);refine wX I (fN (xB gG (y4u (y4i pH)) ab)) λdx cc=>?_;subst cc;refine go2 ?_;refine xD I (λ_ _=>jG (C+1) underlying47 sizeOf83 I I ⟨_,_,ao,ap⟩ oM zo0) I (go1 ?_);refine wX I (fN (xB gG (y4u (y4i pH)) ab)) λdw cb=>?_;subst cb;refine go1 ?_;refine xD I (λ_ _=>jG C underlying47 sizeOf83 I I ⟨_,_,ao,ap⟩ oM zo0) I ?_;refine w_c I (gV (A:=[_]) (λX=>mC (ρ:=(tFc (4*m+12) (m+n+12))) C ao ap underlying47 sizeOf83 I I zo0 az) I (wA zox) ?_)
  rintro dv fi ⟨fs,rfl,bo⟩
  refine go4 ?_;refine lX (fN (xB gG (y4u (y4i pH)) ab)) λdu ca=>?_;subst ca;refine go1 ?_;refine lX (xB sJ pH am) λdt bz=>(gv ((yP C mh1 underlying47 sizeOf83 I I oM (by rw[fS zo0];simp only[lAz,lC,lN];omega) nP).cv (show _=zI 1 aj ((C*14+0)) from zbi (zI 1 aj) zoz)) I (fW (A:=[_]) (F:=λc_=>RL (tFc (4*m+12) (m+n+12)) h7 c_ ((sL (Z++[((zT,(0:Rat)),([],([]:List Nat)))]) C).set C (nfF s (ixZ s) f))) (sD sizeOf83 (y3e (y3u _) zA C (by rw[fS zo0];simp only[lAz,lC,lN];omega)) I nP I I bo (bz.le (Le.p (Le.p (Le.t (Le.q (l:=4*m+12) oM)) (Le.q (l:=m+n+12) oM)) (Le.refl _))) I) ?_));intro ck bn;refine go8 ?_;refine uR (A:=[]) ?_;refine gqL ((f+1),((sL (Z++[((zT,(0:Rat)),([],([]:List Nat)))]) C).set C (nfF s (ixZ s) f)),M,cl,aj,ck,h7) ?_ ?_
  · exact⟨mle,ak.up,ab,bn,ah,by omega,by rw[nZ oM];have ch:aP (zPV (nfF s (ixZ s) f) Z) Z.length=C:=by{rw[ci];exact zG2 (λe=>by first|omega|exact av e.2)};rw[<-ch,hF];rfl⟩
  omega
 have ef:f=s.2.1.length:=by omega
 refine go7 ?_;refine lX (xB qP pH H) λgj ek=>?_;have bf:=(Le.p (Le.s (Le.t (Le.q (l:=k+1) oM))) (Le.p (Le.refl _) (Le.s (Le.p (Le.refl _) (Le.p (Le.refl _) (Le.q (l:=j+1) oM)))))).R di;refine zU (A:=[_,_]) (uB sizeOf50 pH bf ek) λfr bu=>(go3 ?_);have fq:Z=nrF s:=by rw[hF,ef];exact(zau bd).symm
 have fp:PS=nrP s:=by rw[hP,ei];exact(zau bd).symm
 subst fq;subst fp;refine xH (qK (t:=2) qP mh2 I bu) ?_;intro fv bc bm;refine kX (.cons_cons _ (zru _)) (λE S=>zS I bc E S) ?_;exact⟨_,_,(Rp.Is.cast bm (by rw[show nrE s=s.2.2 from zau bd])),I,cg,aa.up⟩
end
end Go.Proofs.YtboaboflnckgoaaGreat
namespace Bk
open Classical
def triT(P:Nat->P2)(n:Nat):Prop:=∀i j k,i<j->j<k->k<n->0<cr (P i) (P j) (P k)
def lp(t:Rat)(a b:P2):P2:=(a.1+t*(b.1-a.1),a.2+t*(b.2-a.2))
def ex(P:Nat->P2)(n m:Nat):P2:=P (m%n)
def chg(s:Nat->Int)(n m:Nat):Prop:=s m*s ((m+1)%n)<0
def afZ(w:Rat×Rat×Rat)(p:P2):Rat:=w.1+w.2.1*p.1+w.2.2*p.2
section
variable {s:Nat->Int}{n:Nat}
end
structure Cfg(P:Nat->P2)(n:Nat)(t:Nat->Rat)(s:Nat->Int)(w:Rat×Rat×Rat):Prop where
 h3:3<=n
 tri:triT P n
 per:∀m,t (m%n)=t m
 cross:∀m,m<n->chg s n m->(0<t m/\t m<1)/\afZ w (lp (t m) (P m) (P ((m+1)%n)))=0
 neg:∀m,m<n->(s m<0↔afZ w (P m)<0)
 zero:∀m,m<n->(s m=0↔afZ w (P m)=0)
section
variable {P:Nat->P2}{n:Nat}{t:Nat->Rat}{s:Nat->Int}{w:Rat×Rat×Rat}
def cx(u v:P2):Rat:=u.1*v.2-v.1*u.2
end
section
variable {P:Nat->P2}{n:Nat}{t:Nat->Rat}{s:Nat->Int}{w:Rat×Rat×Rat}
end
def pt2(pl:Pl)(p:Pt):P2:=pr p (axI pl.1) (axJ pl.1)
def zGZ(pl:Pl)(l:List Pt):Prop:=
 (3<=l.length/\¬pl.1=zT)/\(∀m,m<l.length->sdZ pl (gp l m)=0)/\∀m k,m<l.length->2<=k->k<l.length->0<orZ (pt2 pl (gp l m)) (pt2 pl (nx l m)) (pt2 pl (gp l ((m+k)%l.length)))
def tB(a b c:Pt):Rat:=xO a (xC b c)
theorem yG3{pl:Pl}{a b c:Pt}(hn:¬pl.1=zT)(ha:sdZ pl a=0)(hb:sdZ pl b=0)(hc:sdZ pl c=0):yU (xO (xC (kZ b a) (kZ c a)) pl.1)=orZ (pt2 pl a) (pt2 pl b) (pt2 pl c):=by
 have C:¬pl.1.at (axK pl.1)=0:=λe=>hn ((yCF _).1 e);have h1:=zUO pl (fX pl a) (fX pl b) (fX pl c) C;rw[zDB C ha,zDB C hb,zDB C hc,yC8] at h1;exact h1.symm
theorem yG4(a b c n:Pt):xO (xC (kZ b a) (kZ c a)) n=tB (kZ b a) (kZ c a) n:=by
 unfold tB xO xC kZ;grind
end Bk
namespace Bk
open Go Go.RowKit
open Classical
theorem zLB{k:Nat}{h:Mem}{v:Value}{p:T3 Rat}(s:(rpT (rpQ k)).Is h v p):lq p.x<=k/\lq p.y<=k/\lq p.z<=k:=by
 obtain⟨cs,⟨a,b,_,G,c,d,_,D,C⟩,_⟩:=s;exact⟨G.2,D.2,C.2⟩
theorem zE8{K k:Nat}{h:Mem}{v:Value}{p:T3 Rat}(s:(rpT (rpQ K)).Is h v p)(h1:lq p.x<=k)(h2:lq p.y<=k)(h3:lq p.z<=k):(rpT (rpQ k)).Is h v p:=by
 obtain⟨cs,⟨a,b,e,G,c,d,J,D,C⟩,H⟩:=s;exact⟨cs,⟨a,b,e,⟨G.1,h1⟩,c,d,J,⟨D.1,h2⟩,⟨C.1,h3⟩⟩,H⟩
end Bk
namespace Bk
open Classical
def zJE(p q:Pt):Prop:=p.x=q.x/\p.y=q.y
def u9(B:List Pt)(p:Pt):Nat->Int
  |0=>-1
  |j+1=>if zJE (B.getD j zT) p then(j:Int) else u9 B p j
theorem zGU(B:List Pt)(p:Pt):∀j,-1<=u9 B p j/\u9 B p j<j\/(j=0/\u9 B p j= -1)
  |0=>.inr ⟨rfl,rfl⟩
  |j+1=>by
   have h:=zGU B p j;unfold u9
   split
   · exact .inl zos
   · exact .inl zos
theorem fd_t{B:List Pt}{p:Pt}{j:Nat}(h:zJE (B.getD j zT) p):(j:Int)=u9 B p (j+1):=(zau h).symm
theorem yGY{B:List Pt}{p:Pt}{j:Nat}(h:¬zJE (B.getD j zT) p):u9 B p j=u9 B p (j+1):=(zae h).symm
def fdZ(B:List Pt)(p:Pt):Int:=u9 B p B.length
def adB(B:List Pt)(p:Pt):List Pt:=if fdZ B p<0 then B++[p] else B
def adN(B:List Pt)(p:Pt):Int:=if fdZ B p<0 then(B.length:Int) else fdZ B p
def plB(B:List Pt)(x:List Pt):Nat->List Pt
  |0=>B
  |k+1=>adB (plB B x k) (x.getD k zT)
def plN(B:List Pt)(x:List Pt):Nat->List Int:=uG λk=>adN (plB B x k) (x.getD k zT)
def ptB(L:List (List Pt)):Nat->List Pt
  |0=>[]
  |i+1=>plB (ptB L i) (L.getD i []) (L.getD i []).length
def ptN(L:List (List Pt)):Nat->List (List Int):=uG λi=>plN (ptB L i) (L.getD i []) (L.getD i []).length
def iE(L:List (List Pt)):Nat->Nat
  |0=>0
  |i+1=>iE L i+(L.getD i []).length
theorem yCH(B:List Pt)(p:Pt):(adB B p).length<=B.length+1:=by
 unfold adB;split
 · rw[lAz,zju];exact zbe _
 · omega
theorem zJO(B x:List Pt):∀k,(plB B x k).length<=B.length+k
  |0=>zbe _
  |k+1=>by
   have h1:=zJO B x k;have h2:=yCH (plB B x k) (x.getD k zT)
   show(adB _ _).length<=_
   omega
theorem zJM(L:List (List Pt)):∀i,(ptB L i).length<=iE L i
  |0=>zbe _
  |i+1=>by
   have h1:=zJM L i;have h2:=zJO (ptB L i) (L.getD i []) (L.getD i []).length
   show(plB _ _ _).length<=iE L i+_
   omega
theorem zYJ{L:List (List Pt)}(h:∀m,m<L.length->(L.getD m []).length<=64):∀i,i<=L.length->iE L i<=64*i
  |0,_=>zbe _
  |i+1,hi=>by
   have h1:=zYJ h i zos;have h2:=h i zos
   show iE L i+_<=_
   omega
theorem yA8{L:List (List Pt)}(h:uF L 0 1=0):L.length<=16/\∀m,m<L.length->(L.getD m []).length<=64:=by
 unfold uF at h
 split at h
 · omega
 · rename_i h1
   exact⟨z1u.1 λe=>h1 (.inl e),λm C=>z1u.1 λe=>h1 (.inr ⟨m,C,e⟩)⟩
section
variable (L:List (List Pt))(lo hi:Rat)
def bsZ:List Pt:=ptB L L.length
def bxZ:List (List Int):=ptN L L.length
def zS5:Nat->List Pt:=uG λi=>T3.mk ((bsZ L).getD (i%(bsZ L).length) zT).x ((bsZ L).getD (i%(bsZ L).length) zT).y (if((bsZ L).length:Int)<=(i:Int) then hi else lo)
def ppZ:List Pt:=zS5 L lo hi (2*(bsZ L).length)
def zY7:Nat->List (List Int):=uG λi=>zAA ((bxZ L).getD i []) ((bxZ L).getD i []).length
def tpL(i:Nat):Nat->List Int:=uG λk=>((bxZ L).getD i []).getD k 0+((bsZ L).length:Int)
def zUT:Nat->List (List Int):=uG λi=>tpL L i ((bxZ L).getD i []).length
def nmS(i k:Nat):List Nat:=[115]++qZ (((i:Int):Int):Rat)++[46]++qZ (((k:Int):Int):Rat)
def sdA(i k:Nat):Int:=((bxZ L).getD i []).getD k 0
def sdB(i k:Nat):Int:=((bxZ L).getD i []).getD ((k+1)%((bxZ L).getD i []).length) 0
def sdN(i k:Nat):Pt:=T3.mk (((ppZ L lo hi).getD (sdB L i k).toNat zT).y-((ppZ L lo hi).getD (sdA L i k).toNat zT).y) (-(((ppZ L lo hi).getD (sdB L i k).toNat zT).x-((ppZ L lo hi).getD (sdA L i k).toNat zT).x)) (0:Rat)
def sdF(i k:Nat):Fc:=((sdN L lo hi i k,xO (sdN L lo hi i k) ((ppZ L lo hi).getD (sdA L i k).toNat zT)),[[sdA L i k,sdB L i k,sdB L i k+((bsZ L).length:Int),sdA L i k+((bsZ L).length:Int)]],nmS i k)
def sfX(i:Nat):Nat->List Fc:=uG λk=>sdF L lo hi i k
def zLJ:Nat->List Fc:=kK λi=>sfX L lo hi i ((bxZ L).getD i []).length
def btF:Fc:=((T3.mk (0:Rat) (0:Rat) (-((1:Int):Rat)),-lo),zY7 L (bxZ L).length,[98,111,116,116,111,109])
def tpF:Fc:=((T3.mk (0:Rat) (0:Rat) ((1:Int):Rat),hi),zUT L (bxZ L).length,[116,111,112])
def prR:Sd:=(ppZ L lo hi,zLJ L lo hi (bxZ L).length++[btF L lo,tpF L hi],[])
def prB:Prop:=512<2*(bsZ L).length\/256<iE L L.length+2
def prE:Int:=if ¬uF L 0 1=0 then uF L 0 1 else if ¬ouZ L=1 then 33 else if 0<=vH lo hi then 9 else if prB L then 2 else 0
def prP:List Pt:=if prE L lo hi=0 then nrP (prR L lo hi) else[]
def prF:List Fc:=if prE L lo hi=0 then nrF (prR L lo hi) else[]
end
section
variable {L:List (List Pt)}{lo hi:Rat}
theorem yIM(h1:uF L 0 1=0)(h2:ouZ L=1)(h3:¬0<=vH lo hi)(h4:¬prB L):prE L lo hi=0/\prP L lo hi=nrP (prR L lo hi)/\prF L lo hi=nrF (prR L lo hi):=by
 have e:prE L lo hi=0:=by unfold prE;rw[zae (λe=>e h1),zae (λe=>e h2),zae h3,zae h4]
 exact⟨e,zau e,zau e⟩
theorem zQZ{n:Int}(h:prE L lo hi=n)(hn:¬n=0):prE L lo hi=n/\prP L lo hi=[]/\prF L lo hi=[]:=⟨h,zae (by rw[h];exact hn),zae (by rw[h];exact hn)⟩
theorem pr_1(h1:¬uF L 0 1=0):prE L lo hi=uF L 0 1/\prP L lo hi=[]/\prF L lo hi=[]:=zQZ (zau h1) h1
theorem yIL(h1:uF L 0 1=0)(h2:¬ouZ L=1):prE L lo hi=33/\prP L lo hi=[]/\prF L lo hi=[]:=zQZ (by unfold prE;rw[zae (λe=>e h1),zau h2]) zov
theorem pr_9(h1:uF L 0 1=0)(h2:ouZ L=1)(h3:0<=vH lo hi):prE L lo hi=9/\prP L lo hi=[]/\prF L lo hi=[]:=zQZ (by unfold prE;rw[zae (λe=>e h1),zae (λe=>e h2),zau h3]) zov
theorem pr_2(h1:uF L 0 1=0)(h2:ouZ L=1)(h3:¬0<=vH lo hi)(h4:prB L):prE L lo hi=2/\prP L lo hi=[]/\prF L lo hi=[]:=zQZ (by unfold prE;rw[zae (λe=>e h1),zae (λe=>e h2),zae h3,zau h4]) zov
theorem zUF(B:List Pt)(p:Pt):0<=adN B p/\adN B p<(adB B p).length:=by
 have h:=zGU B p B.length;unfold adN adB fdZ
 split
 · rw[lAz,zju];omega
 · omega
theorem yH0(B:List Pt)(p:Pt):B.length<=(adB B p).length:=by
 unfold adB;split
 · rw[lAz];omega
 · omega
theorem zV8(B x:List Pt){k n:Nat}(h:k<=n):(plB B x k).length<=(plB B x n).length:=by
 induction n with
 |zero=>rw[show k=0 by omega];exact zbe _
 |succ n ih=>
  rcases zve k (n+1) with h1|h1
  · exact zci (ih zos) (yH0 _ _)
  · rw[show k=n+1 by omega];exact zbe _
theorem yFE{i n:Nat}(h:i<=n):(ptB L i).length<=(ptB L n).length:=by
 induction n with
 |zero=>rw[show i=0 by omega];exact zbe _
 |succ n ih=>
  rcases zve i (n+1) with h1|h1
  · exact zci (ih zos) (zV8 (ptB L n) (L.getD n []) (k:=0) (zri _))
  · rw[show i=n+1 by omega];exact zbe _
theorem yHS:(bxZ L).length=L.length:=xZ _ _
theorem zY0{i:Nat}(h:i<L.length):(bxZ L).getD i []=plN (ptB L i) (L.getD i []) (L.getD i []).length:=jL _ _ h
theorem zKY{i:Nat}(h:i<L.length):((bxZ L).getD i []).length=(L.getD i []).length:=by rw[zY0 h];exact xZ _ _
theorem zNN{i k:Nat}(h:i<L.length)(hk:k<((bxZ L).getD i []).length):0<=((bxZ L).getD i []).getD k 0/\((bxZ L).getD i []).getD k 0<↑(bsZ L).length:=by
 rw[zKY h] at hk;rw[zY0 h];unfold plN;rw[jL _ _ hk];obtain⟨h1,h2⟩:=zUF (plB (ptB L i) (L.getD i []) k) ((L.getD i []).getD k zT);have h3:=zV8 (ptB L i) (L.getD i []) (show k+1<=(L.getD i []).length from hk);have H:=yFE (L:=L) (show i+1<=L.length from h);have G:(plB (ptB L i) (L.getD i []) (k+1)).length=(adB (plB (ptB L i) (L.getD i []) k) ((L.getD i []).getD k zT)).length:=I;have D:(ptB L (i+1)).length=(plB (ptB L i) (L.getD i []) (L.getD i []).length).length:=I;have C:(bsZ L).length=(ptB L L.length).length:=I;exact⟨h1,by omega⟩
theorem zOQ:(ppZ L lo hi).length=2*(bsZ L).length:=xZ _ _
theorem zU9{n:Nat}(hn:n<=L.length):(zLJ L lo hi n).length=iE L n:=by
 induction n with
 |zero=>rfl
 |succ n ih=>
  show List.length (zLJ L lo hi n++sfX L lo hi n ((bxZ L).getD n []).length)=iE L n+_
  rw[lAz,ih zos,show(sfX L lo hi n ((bxZ L).getD n []).length).length=_ from xZ _ _,zKY zos]
end
end Bk
namespace Bk
open Go Go.RowKit
section
variable {P:Program}{n:Nat}{w0:World}{h0:Mem}{e:List (Nat×Value)}{L:List Res}{h:Mem}{Q:Exit->Act->World->Prop}{ds:Option Tmp}{ty:TypeId}{ps:String}{af:Array Edge}{gd:Option (Nat×Bool)}{α β:Type}
variable {E:TypeId}{cs:List Value}{v:Value}{ρ:Rp α}{σ:Rp β}{g:List α->β}{s:List α->β->List α}{xs:List α}{off k:Nat}
theorem zJW{w:World}{h':Mem}(hm:.gs E ρ.n v xs.length cs∈L)(pc:Pc (rpA xs.length ρ) off σ g s)(hp:0<σ.n)(r:RL ρ h cs xs)(S:St w0 h0 L h' w):
 ∃b o',∀d,zI 1 v (off+d)=vP b (o'+off+d):=by
 have G:off+σ.n<=xs.length*ρ.n:=pc.fits;have D:=r.len;obtain⟨b,o',H,C,_⟩:=zLD (l:=1) (zJR hm S) zov (show off+1<=cs.length by omega);refine⟨b,o',λd=>?_⟩;rw[C];simp[zI,kA,z3u]
theorem kU{x:Operand}(pc:Pc (rpA xs.length ρ) off σ g s)(hk:k=off)(hp:0<σ.n)(r:RL ρ h cs xs)(hm:.gs E ρ.n v xs.length cs∈L)(hx:zM e x=some (zI 1 v k)):
 OpV P n w0 h0 ⟨ds,.nilCheck x,ty,ps,af,gd⟩ e L h (zI 1 v k):=by
 subst hk;intro a w D S;obtain⟨b,o',H⟩:=zJW hm pc hp r S;have C:=H 0;rw[zmi,zmi] at C;rw[C] at hx ⊢;exact sP hx a w D S
theorem vW{t:TypeId}{x:Operand}{f:Nat}{fs:Array Field}{fl:Field}{m:Nat}(pc:Pc (rpA xs.length ρ) off σ g s)(hk:k=off)(hp:0<σ.n)(r:RL ρ h cs xs)(hm:.gs E ρ.n v xs.length cs∈L)(ht:P.underlying t=some (.struct fs))(hf:fs[f]?=some fl)(hsz:∀w,(Go.sizeOf fl.type).run P w=.ok (m+1) w)(hx:zM e x=some (zI 1 v k)):
 OpV P n w0 h0 ⟨ds,.fieldAddr t x f,ty,ps,af,gd⟩ e L h (zI 1 v (k+fl.offset)):=by
 subst hk;intro a w D S;obtain⟨b,o',H⟩:=zJW hm pc hp r S;have C:=H 0;rw[zmi,zmi] at C;rw[H];rw[C] at hx;exact wN ht hf hsz hx a w D S
theorem rG{t E':TypeId}{x y:Operand}{m sz:Nat}{q:Int}(i:Nat)(pc:Pc (rpA xs.length ρ) off σ g s)(hk:k=off)(hp:0<σ.n)(r:RL ρ h cs xs)(hm:.gs E ρ.n v xs.length cs∈L)(ht:P.underlying t=some (.array m E'))(hsz:∀w,(Go.sizeOf E').run P w=.ok sz w)(hx:zM e x=some (zI 1 v k))(hy:zM e y=some (vI q))(hq:q=(i:Int))(hi:i<m):
 OpV P n w0 h0 ⟨ds,.indexAddr t x y,ty,ps,af,gd⟩ e L h (zI 1 v (k+i*sz)):=by
 subst hk;intro a w D S;obtain⟨b,o',H⟩:=zJW hm pc hp r S;have C:=H 0;rw[zmi,zmi] at C;rw[H];rw[C] at hx;exact zP i ht hsz hx hy hq hi a w D S
end
end Bk
