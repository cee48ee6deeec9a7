/- Texts that the proof needs, part 5. -/
import Derived.Test.YtboaboflnckgoaaGreatKE4
import Derived.Scope
set_option linter.unusedVariables false
set_option linter.unusedSimpArgs false
noncomputable section
set_option maxRecDepth 10000
set_option maxHeartbeats 1000000
namespace Bk
open Go
abbrev y3e:List Value:=[.bool false,.slice none 0 0,.slice none 0 0,.bool false,.slice none 0 0,.slice none 0 0,.bool false,.slice none 0 0,.slice none 0 0]
end Bk
namespace Go.Proofs.YtboaboflnckgoaaGreat
open Bk Go Tryz
attribute [local irreducible] GL GC GQ W OpV
section
variable{w0:World}{h0:Mem}(hs:MLe h0 (mem w0))
include hs
theorem pQ{k:Nat}{vp:Value}{p:Tq}(rp:(tPt k).Is h0 vp p):
 Calls prog 201 #[vp] w0 (Ret w0 h0 (λh r=>(tPt (k+1)).Is h r (zZ p))):=by
 refine cb1 8 vp func201 hs ?_;refine go2 ?_;refine nB rp λb1 ab H=>(nA (ρ:=(tPt (k+1))) (X:=zT) yM (xE (yE oM)) λb2 aa J=>(go5 ?_));refine lX (xB yI (y2e pH) H) λv4 r4=>(go1 ?_);refine lX (xB yI (y3i pH) H) λv6 Z=>(lX (xV (ρ:=(tPt (k+1))) (wL (ps':=[(0,_),(1,_)]) underlying53 yM I I sizeOf26 e4z I (xE (yE oM)) (zC I (y2e (y1u _)) (r4.le (Le.q (l:=k+1) oM)) (zC I (y3i (y1u _)) (Z.le (Le.q (l:=k+1) oM)) zN)))) λv7 U=>(zV (A:=[]) (uB sizeOf53 pH J U) λM G=>(go3 ?_)));refine xW (jA (t:=2) zO mh0 I G) ?_;intro O C D;refine yG (λE S=>zQ I C E S) ?_;exact D
theorem jB{k:Nat}{va:Value}{a:Tq}(ra:(tPt k).Is h0 va a){vb:Value}{b:Tq}(rb:(tPt k).Is h0 vb b)(hcd0:k<=2000000000):
 Calls prog 193 #[va,vb] w0 (Ret w0 h0 (λ_ r=>r=vB ((pr a 0 1)=(pr b 0 1)))):=by
 refine cb2 17 va vb func193 hs ?_;refine go2 ?_;refine nB ra λb2 ac D=>(nB rb λb3 ab C=>(go6 ?_));refine lX (xB yI (y2e pH) D) λv6 r6=>(go1 ?_);refine lX (xB yI (y2e pH) C) λv8 r8=>(cL (ev2 I I) call15 (λw hs=>qT hs r6 r8 oM) λv9 h1 ah r9=>?_);obtain rfl:v9=vB (a.x=b.x):=r9;refine uZ (ι:=Mem) 7 (λm_=>MLe h1 m_) (λ_=>[(16,vB ((a.x=b.x)/\(a.y=b.y)))]) (λ_=>[.var b3 53 ab,.var b2 53 ac]) (λm_=>m_) ?_ ?_
 ·
  refine yD (a.x=b.x) (λH=>?_) (λH=>?_)
  ·
   refine gT H I (go3 ?_);refine lX (xB yI (y3i pH) D) λae U=>(go3 ?_);refine lX (xB yI (y3i pH) C) λad O=>(go1 ?_);refine cL (ev2 I I) call15 (λw hs=>qT hs U O oM) λJ h2 aa M=>?_;obtain rfl:J=vB (a.y=b.y):=M;refine go2 ?_;refine zS h2 aa ⟨?_,y1i⟩ I I;exact y0e (xS H)
  refine gF H I (go7 ?_);refine zS h1 (MLe.refl _) ⟨?_,y1i⟩ I I;exact y0e (xT H)
 intro Z G;refine sD ?_;refine go4 ?_;refine zD I I ?_
 first|exact tB (by rw[zUE];exact Iff.rfl)|exact(xR (by rw[zUE];exact Iff.rfl)).symm|exact(yV (by rw[zUE];exact Iff.rfl)).symm
theorem rK{k:Nat}{va:Value}{a:Tq}(ra:(tPt k).Is h0 va a){vb:Value}{b:Tq}(rb:(tPt k).Is h0 vb b)(hcd0:k<=2000000000):
 Calls prog 202 #[va,vb] w0 (Ret w0 h0 (λ_ r=>r=vB (lx (pr a 0 1) (pr b 0 1)))):=by
 refine cb2 21 va vb func202 hs ?_;refine go2 ?_;refine nB ra λb2 aj G=>(nB rb λb3 ai D=>(go7 ?_));refine lX (xB yI (y2e pH) G) λv7 r7=>(go1 ?_);refine lX (xB yI (y2e pH) D) λv9 r9=>(cL (ev2 I I) call18 (λw hs=>fQ hs r7 r9 oM) λJ h1 ah Z=>?_);obtain rfl:J=vI (wQ a.x b.x):=Z;have ab:=kR a.x b.x;refine gc9 (λC=>?_) λC=>?_
 ·
  refine go9 ?_;refine zD I I ?_;exact tB (yD1 C)
 refine go5 ?_;refine lX (xB yI (y3i pH) G) λad U=>(go1 ?_);refine lX (xB yI (y3i pH) D) λac O=>(cL (ev2 I I) call18 (λw hs=>fQ hs U O oM) λH h2 ae M=>?_);obtain rfl:H=vI (wQ a.y b.y):=M;have aa:=kR a.y b.y;refine go5 ?_;refine zD I I ?_;exact tB (yD0 C)
theorem rM{k:Nat}{vl:Value}{l:(List Tq)}(rl:(tLs k).Is h0 vl l)(hcd0:k<=100000)(hcd1:l.length<=1000):
 Calls prog 170 #[vl] w0 (Ret w0 h0 (λh r=>(rpQ 1000000000).Is h r (uG l 0 1 l.length))):=by
 refine cb1 40 vl func170 hs ?_;refine go2 ?_;refine nA (ρ:=(rpQ 1)) (X:=(0:Rat)) yS (yE dC) λb2 bi ar=>(go4 ?_);refine lX (xV (ρ:=(rpQ 1)) (xK (ps':=[]) underlying26 yS I I (vQ underlying26) trivial I (yE dC) zN)) λv7 r7=>(nA (ρ:=(rpQ 1)) (X:=(0:Rat)) yS (yE dC) λb3 cg aq=>(zV (A:=[]) (uB sizeOf26 pH aq r7) λan ak=>(go9 ?_)));refine gcL (ι:=Nat×Nat×List Value×Mem) (λ(m,q,H,ma)=>(MLe h0 ma/\((rpQ q).R ma H (uG l 0 1 m)/\m<=l.length/\q<=(4*k+9)*m+1),[(0,vl),(2,vP b2 0),(3,vP b3 0),(4,vI ↑m)],[.var b3 26 H,.var b2 26 bi],ma,l.length-m)) (0,1,an,h0) ?_ ?_
 · exact⟨mle,ak,by omega,by omega⟩
 rintro⟨m,q,H,ma⟩ ⟨bk,C,cb,ca⟩
 refine yQ ?_;have be:=znu (4*k+9) (show m<=1000 by omega);refine gc9 (λam=>?_) λam=>?_
 ·
  refine go5 ?_;refine zK 16 _ [(12,(5,53,y3e)),(13,(6,53,y3e))] (zai 0 12 [(12,.a),(13,.a),(14,.c),(15,.c)]) yC (jZ.cons I I (qR yM I I) (jZ.cons I I (qR yM I I) jZ.nil)) (wV zot) (qU I I (qU I I gM)) (λr hr=>hr) (go2 ?_);refine wX I (xI zT m underlying46 zO rl) λbz bd=>(wX I (xA zO bd) λbx bc=>(go4 ?_));refine w_q I (λh' L' hh hR=>uX underlying46 I (rl.up.mono hh)) I (wK I (λ_ _=>wO I I oM oM) I (wX I (xI zT ((m+1)%l.length) underlying46 zO rl (hi:=by exact zcu _ oM)) λbw bb=>(wX I (xA zO bb) λbv ba=>?_)));refine w_a I I (λb5=>?_);have ap:(tPt 1).R ma y3e zT:=(xE (yE dC));refine w_a I I (λb6=>?_);have ao:(tPt 1).R ma y3e zT:=(xE (yE dC));refine w_c I ?_;have aj:=(Le.t (Le.q (l:=k+1) oM)).R ap;refine rR (A:=[_]) (uB sizeOf53 pH aj (bc.le (Le.t (Le.q (l:=k+1) oM)))) (xU zox) λbh G=>?_;refine w_c I ?_;have U:=(Le.t (Le.q (l:=k+1) oM)).R ao;refine rR (A:=[]) (uB sizeOf53 pH U (ba.le (Le.t (Le.q (l:=k+1) oM)))) (xU zox) λbg D=>(go2 ?_);refine zK 13 _ [] (zai 0 5 (zai 6 4 [(5,.c),(10,.c),(11,.c),(12,.c),(13,.t)])) yC nX (wV zot) nX (λr hr=>hr) (wX I (xB yI pH C) λbu az=>(go1 ?_));refine wX I (xB yI (y2e pH) G) λbt ay=>(go1 ?_);refine wX I (xB yI (y3i pH) D) λbs ax=>(go1 ?_);refine wX I (xB yI (y2e pH) D) λbq aw=>(go1 ?_);refine wX I (xB yI (y3i pH) G) λbp av=>?_;refine w_c I (sC (ev2 I I) call9 (λw hs=>qO hs ay ax oM) λbr h1 cf ah=>?_);replace ah:=Rp.Is.le ah (Le.q (l:=2*k+2) oM);refine w_c I (sC (ev2 I I) call9 (λw hs=>qO hs aw.up av.up oM) λbo h2 ce ae=>?_);replace ae:=Rp.Is.le ae (Le.q (l:=2*k+2) oM);refine w_c I (sC (ev2 I I) call16 (λw hs=>fP hs ah.up ae oM) λbn h3 cd ad=>?_);replace ad:=Rp.Is.le ad (Le.q (l:=4*k+5) oM);refine w_c I (sC (ev2 I I) call37 (λw hs=>sY hs az.up ad oM) λbm h4 cc ac=>?_);replace ac:=Rp.Is.le ac (Le.q (l:=4*k+q+6) oM);have O:=(Le.q (l:=4*k+q+6) oM).R C;refine yJ (A:=[_,_]) I (uB sizeOf26 pH O ac) λai ab=>(go8 ?_);refine uO (A:=[]) (uO (A:=[]) ?_);refine gqL ((m+1),(q+(4*k+9)),ai,h4) ?_ ?_
  · exact⟨mle,(Rp.castR (Le.R (Le.q (l:=q+(4*k+9)) oM) ab) I),by omega,by rw[Nat.mul_succ];omega⟩
  omega
 have em:m=l.length:=by omega
 have be:=znu (4*k+9) (show m<=1000 by omega);refine go7 ?_;refine lX (xB yI pH C) λbl au=>?_;have M:=(Le.q (l:=q+1) oM).R ar;refine zV (A:=[_]) (uB sizeOf26 pH M (au.le (Le.q (l:=q+1) oM))) λbf aa=>(go3 ?_);refine xW (jA (t:=2) yI mh1 I aa) ?_;intro bj J Z;refine yG (λE S=>zQ I J E S) ?_;exact(Rp.Is.cast (Rp.Is.le Z (Le.q (l:=1000000000) oM)) (by rw[em]))
theorem tA{k:Nat}{va:Value}{a:Tq}(ra:(tPt k).Is h0 va a){vb:Value}{b:Tq}(rb:(tPt k).Is h0 vb b){vc:Value}{c:Tq}(rc:(tPt k).Is h0 vc c)(hcd0:k<=10000):
 Calls prog 203 #[va,vb,vc] w0 (Ret w0 h0 (λ_ r=>r=vI (orZ (pr a 0 1) (pr b 0 1) (pr c 0 1)))):=by
 refine cb3 13 va vb vc func203 hs ?_;refine go2 ?_;refine nB ra λb3 am M=>(nB rb λb4 ak J=>(nB rc λb5 aj H=>(go5 ?_)));refine lX (xB zO pH M) λv7 r7=>(lX (xB zO pH J) λv8 r8=>(lX (xB zO pH H) λv9 r9=>(zF (zL (ρ:=(tPt (k+1))) (m:=3) (xs:=[a,b,c]) (ps':=[(0,_),(1,_),(2,_)]) underlying46 yM I I I (xE (yE oM)) e6 (zC I (y1e (y1u _) zT 0 dC) (r7.le (Le.t (Le.q (l:=k+1) oM))) (zC I (y1e (y1u _) zT 1 dC) (r8.le (Le.t (Le.q (l:=k+1) oM))) (zC I (y1e (y1u _) zT 2 dC) (r9.le (Le.t (Le.q (l:=k+1) oM))) zN))) zol nP) I I I ?_)))
 rintro ac ad ⟨aa,rfl,D⟩
 refine zW (A:=[]) (ρ:=(tPt (k+1))) D ?_;intro h1 ai C;refine cL (ev1 I) call170 (λw hs=>rM hs C oM (by first|omega|exact(by decide:3<=1000))) λab h2 ah U=>(cL (ev1 I) call17 (λw hs=>uK hs U dC) λG h3 ae O=>?_);obtain rfl:G=vI (yW (uG [a,b,c] 0 1 [a,b,c].length)):=O;have Z:=wB (uG [a,b,c] 0 1 [a,b,c].length);refine go4 ?_;refine zD I I ?_;exact zbi vI (zXX a b c)
theorem mJ{k:Nat}{va:Value}{a:Tq}(ra:(tPt k).Is h0 va a){vb:Value}{b:Tq}(rb:(tPt k).Is h0 vb b){vp:Value}{p:Tq}(rp:(tPt k).Is h0 vp p)(hcd0:k<=10000):
 Calls prog 206 #[va,vb,vp] w0 (Ret w0 h0 (λ_ r=>r=vB (onS (pr a 0 1) (pr b 0 1) (pr p 0 1)))):=by
 refine cb3 29 va vb vp func206 hs ?_;refine go2 ?_;refine nB ra λb3 bi Z=>(nB rb λb4 bh U=>(nB rp λb5 ak ad=>(go3 ?_)));refine qK (ι:=List Value×List Value×Mem) (λ(D,C,m1)=>MLe h0 m1/\((tPt k).R m1 D (loT a b 0 1)/\(tPt k).R m1 C (hiT a b 0 1)/\True)) (λ(D,C,m1)=>[(3,vP b3 0),(4,vP b4 0),(5,vP b5 0)]) (λ(D,C,m1)=>[.var b5 53 ak,.var b4 53 C,.var b3 53 D]) (λ(D,C,m1)=>m1) ?_ ?_
 ·
  refine go2 ?_;refine lX (xB zO pH U) λv7 r7=>(lX (xB zO pH Z) λv8 r8=>(cL (ev2 I I) call202 (λw hs=>rK hs r7 r8 oM) λv9 h1 ah r9=>?_));obtain rfl:v9=vB (lx (pr b 0 1) (pr a 0 1)):=r9;refine gc2 (λO=>?_) λO=>?_
  ·
   refine go1 ?_;refine lX (xB zO pH U) λbs bf=>(lX (xB zO pH Z) λbr be=>(zV (A:=[_,_]) (uB sizeOf53 pH Z bf) λaj ac=>(zV (A:=[_]) (uB sizeOf53 pH U be) λai ab=>(go1 ?_))));refine zS (aj,ai,h1) ?_ e3z I I;refine⟨ah,?_⟩;refine⟨(Rp.castR ac (zau O).symm),(Rp.castR ab (zau O).symm),?_⟩
   trivial
  refine go1 ?_;refine zS (bi,bh,h1) ?_ e3z I I;refine⟨ah,?_⟩;refine⟨(Rp.castR Z.up (zae O).symm),(Rp.castR U.up (zae O).symm),?_⟩
  trivial
 rintro⟨D,C,m1⟩ ⟨bj,aa⟩
 refine yQ ?_;obtain⟨H,G,aa⟩:=aa;refine go2 ?_;refine lX (xB zO pH H) λbq bd=>(lX (xB zO pH G) λbp bc=>(lX (xB zO pH ad) λbo bb=>(cL (ev3 I I I) call203 (λw hs=>tA hs bd bc bb oM) λar h1 ah ba=>?_)));obtain rfl:ar=vI (orZ (pr (loT a b 0 1) 0 1) (pr (hiT a b 0 1) 0 1) (pr p 0 1)):=ba;have bg:=sK (pr (loT a b 0 1) 0 1) (pr (hiT a b 0 1) 0 1) (pr p 0 1);refine go1 ?_;refine uZ (ι:=Mem) 6 (λm_=>MLe h1 m_) (λ_=>[(22,vB (((orZ (pr (loT a b 0 1) 0 1) (pr (hiT a b 0 1) 0 1) (pr p 0 1))=(0:Int))/\(¬(lx (pr p 0 1) (pr (loT a b 0 1) 0 1))))),(4,vP b4 0),(5,vP b5 0)]) (λ_=>[.var b5 53 ak,.var b4 53 C,.var b3 53 D]) (λm_=>m_) ?_ ?_
 ·
  refine yD ((orZ (pr (loT a b 0 1) 0 1) (pr (hiT a b 0 1) 0 1) (pr p 0 1))=(0:Int)) (λM=>?_) (λM=>?_)
  ·
   refine gT M I (go1 ?_);refine lX (xB zO pH ad) λbn az=>(go1 ?_);refine lX (xB zO pH H) λbm ay=>(go1 ?_);refine cL (ev2 I I) call202 (λw hs=>rK hs az ay oM) λaq h2 ae ax=>?_;obtain rfl:aq=vB (lx (pr p 0 1) (pr (loT a b 0 1) 0 1)):=ax;refine go4 ?_;refine zS h2 ae ⟨?_,I,I,y1i⟩ I I;exact y0e (xS M)
  refine gF M I (go6 ?_);refine zS h1 (MLe.refl _) ⟨?_,I,I,y1i⟩ I I;exact y0e (xT M)
 intro J an;refine sD ?_;refine uZ (ι:=Mem) 6 (λm_=>MLe J m_) (λ_=>[(28,vB ((((orZ (pr (loT a b 0 1) 0 1) (pr (hiT a b 0 1) 0 1) (pr p 0 1))=(0:Int))/\(¬(lx (pr p 0 1) (pr (loT a b 0 1) 0 1))))/\(¬(lx (pr (hiT a b 0 1) 0 1) (pr p 0 1)))))]) (λ_=>[.var b5 53 ak,.var b4 53 C,.var b3 53 D]) (λm_=>m_) ?_ ?_
 ·
  refine yD (((orZ (pr (loT a b 0 1) 0 1) (pr (hiT a b 0 1) 0 1) (pr p 0 1))=(0:Int))/\(¬(lx (pr p 0 1) (pr (loT a b 0 1) 0 1)))) (λM=>?_) (λM=>?_)
  ·
   refine gT M I (go1 ?_);refine lX (xB zO pH G) λbl aw=>(go1 ?_);refine lX (xB zO pH ad) λbk av=>(go1 ?_);refine cL (ev2 I I) call202 (λw hs=>rK hs aw av oM) λap h2 ae au=>?_;obtain rfl:ap=vB (lx (pr (hiT a b 0 1) 0 1) (pr p 0 1)):=au;refine go4 ?_;refine zS h2 ae ⟨?_,y1i⟩ I I;exact y0e (xS M)
  refine gF M I (go6 ?_);refine zS J (MLe.refl _) ⟨?_,y1i⟩ I I;exact y0e (xT M)
 intro ao am;refine sD ?_;refine go4 ?_;refine zD I I ?_
 first|exact tB (by rw[<-yDE];grind)|exact(xR (by rw[<-yDE];grind)).symm|exact(yV (by rw[<-yDE];grind)).symm
theorem zRN{k:Nat}{va:Value}{a:Tq}(ra:(tPt k).Is h0 va a){vb:Value}{b:Tq}(rb:(tPt k).Is h0 vb b){vc:Value}{c:Tq}(rc:(tPt k).Is h0 vc c){vd:Value}{d:Tq}(rd:(tPt k).Is h0 vd d)(hcd0:k<=9000):
 Calls prog 204 #[va,vb,vc,vd] w0 (Ret w0 h0 (λ_ r=>r=vI (zCM (pr a 0 1) (pr b 0 1) (pr c 0 1) (pr d 0 1)))):=by
 refine fG (n:=72) (e:=[(0,va),(1,vb),(2,vc),(3,vd)]) (vs:=[va,vb,vc,vd]) func204 rfl rfl (bL rfl) hs e4z (go2 ?_);refine nB ra λb4 ad ax=>(nB rb λb5 ac aw=>(nB rc λb6 ab ap=>(nB rd λb7 aa ao=>(go4 ?_))));refine zK 6 _ [(2,(9,53,y3e)),(3,(10,53,y3e))] [(0,.q),(1,.q),(2,.a),(3,.a),(4,.c),(5,.c)] yC (jZ.cons I I (qR yM I I) (jZ.cons I I (qR yM I I) jZ.nil)) zot (qU I I (qU I I gM)) (λr hr=>hr) (wX I (xB zO pH ax) λfl eb=>(wX I (xB zO pH aw) λfk ea=>?_));refine w_a I I (λb9=>?_);have cd:(tPt (k+1)).R h0 y3e zT:=(xE (yE oM));refine w_a I I (λM=>?_);have bj:(tPt (k+1)).R h0 y3e zT:=(xE (yE oM));refine w_c I (rR (A:=[_]) (uB sizeOf53 pH cd (eb.le (Le.t (Le.q (l:=k+1) oM)))) (xU zox) λbf ah=>?_);refine w_c I (rR (A:=[]) (uB sizeOf53 pH bj (ea.le (Le.t (Le.q (l:=k+1) oM)))) (xU zox) λav ae=>(go2 ?_));refine qK (ι:=List Value×Mem) (λ(C,m1)=>MLe h0 m1/\((tPt (k+1)).R m1 C (mxT a c 0 1)/\True)) (λ(C,m1)=>[(4,vP b4 0),(5,vP b5 0),(6,vP b6 0),(7,vP b7 0),(9,vP b9 0),(10,vP M 0)]) (λ(C,m1)=>[.var M 53 av,.var b9 53 C,.var b7 53 aa,.var b6 53 ab,.var b5 53 ac,.var b4 53 ad]) (λ(C,m1)=>m1) ?_ ?_
 ·
  refine go2 ?_;refine lX (xB zO pH ah) λfj dz=>(lX (xB zO pH ap) λfi dy=>(cL (ev2 I I) call202 (λw hs=>rK hs dz (dy.le (Le.t (Le.q (l:=k+1) oM))) oM) λcc h1 am dx=>?_));obtain rfl:cc=vB (lx (pr a 0 1) (pr c 0 1)):=dx;refine gc2 (λau=>?_) λau=>?_
  ·
   refine go1 ?_;refine lX (xB zO pH ap) λfh dw=>(zV (A:=[_]) (uB sizeOf53 pH ah (dw.le (Le.t (Le.q (l:=k+1) oM)))) λbe az=>(go1 ?_));refine zS (be,h1) ?_ e6 I I;refine⟨am,?_⟩;refine⟨(Rp.castR az (zau au).symm),?_⟩
   trivial
  refine go1 ?_;refine zS (bf,h1) ?_ e6 I I;refine⟨am,?_⟩;refine⟨(Rp.castR ah.up (zae au).symm),?_⟩
  trivial
 rintro⟨C,m1⟩ ⟨ed,Z⟩
 refine yQ ?_;obtain⟨G,Z⟩:=Z;refine qK (ι:=List Value×Mem) (λ(D,m2)=>MLe m1 m2/\((tPt (k+1)).R m2 D (mnT b d 0 1)/\True)) (λ(D,m2)=>[(4,vP b4 0),(5,vP b5 0),(6,vP b6 0),(7,vP b7 0),(9,vP b9 0),(10,vP M 0)]) (λ(D,m2)=>[.var M 53 D,.var b9 53 C,.var b7 53 aa,.var b6 53 ab,.var b5 53 ac,.var b4 53 ad]) (λ(D,m2)=>m2) ?_ ?_
 ·
  refine go2 ?_;refine lX (xB zO pH ao) λfg dv=>(lX (xB zO pH ae) λff du=>(cL (ev2 I I) call202 (λw hs=>rK hs (dv.le (Le.t (Le.q (l:=k+1) oM))) du oM) λcb h1 am dt=>?_));obtain rfl:cb=vB (lx (pr d 0 1) (pr b 0 1)):=dt;refine gc2 (λar=>?_) λar=>?_
  ·
   refine go1 ?_;refine lX (xB zO pH ao) λfe dr=>(zV (A:=[]) (uB sizeOf53 pH ae (dr.le (Le.t (Le.q (l:=k+1) oM)))) λbd ay=>(go1 ?_));refine zS (bd,h1) ?_ e6 I I;refine⟨am,?_⟩;refine⟨(Rp.castR ay (zau ar).symm),?_⟩
   trivial
  refine go1 ?_;refine zS (av,h1) ?_ e6 I I;refine⟨am,?_⟩;refine⟨(Rp.castR ae.up (zae ar).symm),?_⟩
  trivial
 rintro⟨D,m2⟩ ⟨ec,Z⟩
 refine yQ ?_;obtain⟨an,Z⟩:=Z;refine go4 ?_;refine lX (xB zO pH an) λfd dq=>(lX (xB zO pH G) λfc dp=>(cL (ev2 I I) call202 (λw hs=>rK hs dq dp oM) λca h1 am dn=>?_));obtain rfl:ca=vB (lx (pr (mnT b d 0 1) 0 1) (pr (mxT a c 0 1) 0 1)):=dn;refine gc3 (λbo=>?_) λbo=>?_
 ·
  refine go8 ?_;refine zD I I ?_;refine zbi vI ?_;rw[<-zEY I I];unfold zEZ;grind
 refine go2 ?_;refine lX (xB zO pH G) λfb dm=>(lX (xB zO pH an) λfa dl=>(cL (ev2 I I) call193 (λw hs=>jB hs dm dl oM) λbz h2 fo dk=>?_));obtain rfl:bz=vB ((pr (mxT a c 0 1) 0 1)=(pr (mnT b d 0 1) 0 1)):=dk;refine gc4 (λbn=>?_) λbn=>?_
 ·
  refine go8 ?_;refine zD I I ?_;refine zbi vI ?_;rw[<-zEY I I];unfold zEZ;grind
 refine go2 ?_;refine lX (xB zO pH G) λez dj=>(lX (xB zO pH ax) λey di=>(cL (ev2 I I) call193 (λw hs=>jB hs dj (di.le (Le.t (Le.q (l:=k+1) oM))) oM) λbx h3 fm dh=>?_));obtain rfl:bx=vB ((pr (mxT a c 0 1) 0 1)=(pr a 0 1)):=dh;refine uZ (ι:=Mem) 5 (λJ=>MLe h3 J) (λ_=>[(38,vB (((pr (mxT a c 0 1) 0 1)=(pr a 0 1))\/((pr (mxT a c 0 1) 0 1)=(pr b 0 1)))),(4,vP b4 0),(5,vP b5 0),(6,vP b6 0),(7,vP b7 0),(9,vP b9 0)]) (λ_=>[.var M 53 D,.var b9 53 C,.var b7 53 aa,.var b6 53 ab,.var b5 53 ac,.var b4 53 ad]) (λJ=>J) ?_ ?_
 ·
  refine yD ((pr (mxT a c 0 1) 0 1)=(pr a 0 1)) (λH=>?_) (λH=>?_)
  ·
   refine gT H I (go5 ?_);refine zS h3 (MLe.refl _) ⟨?_,I,I,I,I,I,y1i⟩ I I;exact y0e (vV H)
  refine gF H I (go1 ?_);refine lX (xB zO pH G) λew df=>(go1 ?_);refine lX (xB zO pH aw) λev de=>(go1 ?_);refine cL (ev2 I I) call193 (λw hs=>jB hs df (de.le (Le.t (Le.q (l:=k+1) oM))) oM) λbw h4 U dd=>?_;obtain rfl:bw=vB ((pr (mxT a c 0 1) 0 1)=(pr b 0 1)):=dd;refine go2 ?_;refine zS h4 U ⟨?_,I,I,I,I,I,y1i⟩ I I;exact y0e (vW H)
 intro ak bi;refine sD ?_;refine uZ (ι:=Mem) 10 (λJ=>MLe ak J) (λ_=>[(48,vB ((((pr (mxT a c 0 1) 0 1)=(pr a 0 1))\/((pr (mxT a c 0 1) 0 1)=(pr b 0 1)))/\(((pr (mxT a c 0 1) 0 1)=(pr c 0 1))\/((pr (mxT a c 0 1) 0 1)=(pr d 0 1))))),(4,vP b4 0),(5,vP b5 0),(6,vP b6 0),(7,vP b7 0),(9,vP b9 0)]) (λ_=>[.var M 53 D,.var b9 53 C,.var b7 53 aa,.var b6 53 ab,.var b5 53 ac,.var b4 53 ad]) (λJ=>J) ?_ ?_
 ·
  refine yD (((pr (mxT a c 0 1) 0 1)=(pr a 0 1))\/((pr (mxT a c 0 1) 0 1)=(pr b 0 1))) (λH=>?_) (λH=>?_)
  ·
   refine gT H I (go1 ?_);refine lX (xB zO pH G) λeu dc=>(go1 ?_);refine lX (xB zO pH ap) λes db=>(go1 ?_);refine cL (ev2 I I) call193 (λw hs=>jB hs dc (db.le (Le.t (Le.q (l:=k+1) oM))) oM) λbv h4 U da=>?_;obtain rfl:bv=vB ((pr (mxT a c 0 1) 0 1)=(pr c 0 1)):=da;refine uZ (ι:=Mem) 5 (λJ=>MLe h4 J) (λ_=>[(47,vB (((pr (mxT a c 0 1) 0 1)=(pr c 0 1))\/((pr (mxT a c 0 1) 0 1)=(pr d 0 1)))),(4,vP b4 0),(5,vP b5 0),(6,vP b6 0),(7,vP b7 0),(9,vP b9 0),(39,.bool true)]) (λ_=>[.var M 53 D,.var b9 53 C,.var b7 53 aa,.var b6 53 ab,.var b5 53 ac,.var b4 53 ad]) (λJ=>J) ?_ ?_
   ·
    refine yD ((pr (mxT a c 0 1) 0 1)=(pr c 0 1)) (λH=>?_) (λH=>?_)
    ·
     refine go1 ?_;refine gT H I (go6 ?_);refine zS h4 (MLe.refl _) ⟨?_,I,I,I,I,I,I,y1i⟩ I I;exact y0e (vV H)
    refine go1 ?_;refine gF H I (go1 ?_);refine lX (xB zO pH G) λer cz=>(go1 ?_);refine lX (xB zO pH ao) λeq cy=>(go1 ?_);refine cL (ev2 I I) call193 (λw hs=>jB hs cz (cy.le (Le.t (Le.q (l:=k+1) oM))) oM) λbu h5 bc cw=>?_;obtain rfl:bu=vB ((pr (mxT a c 0 1) 0 1)=(pr d 0 1)):=cw;refine go3 ?_;refine zS h5 bc ⟨?_,I,I,I,I,I,I,y1i⟩ I I;exact y0e (vW H)
   intro aq ai;refine sD ?_;refine go2 ?_;refine zS aq (U.trans ai) ⟨?_,I,I,I,I,I,y1i⟩ I I;exact y0e (xS H)
  refine gF H I (uQ ?_);refine zS ak (MLe.refl _) ⟨?_,I,I,I,I,I,y1i⟩ I I;exact y0e (xT H)
 intro aj bh;refine sD ?_;refine uZ (ι:=Mem) 6 (λJ=>MLe aj J) (λ_=>[(54,vB (((((pr (mxT a c 0 1) 0 1)=(pr a 0 1))\/((pr (mxT a c 0 1) 0 1)=(pr b 0 1)))/\(((pr (mxT a c 0 1) 0 1)=(pr c 0 1))\/((pr (mxT a c 0 1) 0 1)=(pr d 0 1))))/\(onS (pr a 0 1) (pr b 0 1) (pr (mxT a c 0 1) 0 1)))),(4,vP b4 0),(5,vP b5 0),(6,vP b6 0),(7,vP b7 0),(9,vP b9 0)]) (λ_=>[.var M 53 D,.var b9 53 C,.var b7 53 aa,.var b6 53 ab,.var b5 53 ac,.var b4 53 ad]) (λJ=>J) ?_ ?_
 ·
  refine yD ((((pr (mxT a c 0 1) 0 1)=(pr a 0 1))\/((pr (mxT a c 0 1) 0 1)=(pr b 0 1)))/\(((pr (mxT a c 0 1) 0 1)=(pr c 0 1))\/((pr (mxT a c 0 1) 0 1)=(pr d 0 1)))) (λH=>?_) (λH=>?_)
  ·
   refine gT H I (go1 ?_);refine lX (xB zO pH ax) λep cv=>(go1 ?_);refine lX (xB zO pH aw) λeo cu=>(go1 ?_);refine lX (xB zO pH G) λen ct=>(go1 ?_);refine cL (ev3 I I I) call206 (λw hs=>mJ hs (cv.le (Le.t (Le.q (l:=k+1) oM))) (cu.le (Le.t (Le.q (l:=k+1) oM))) ct oM) λbt h4 U cq=>?_;obtain rfl:bt=vB (onS (pr a 0 1) (pr b 0 1) (pr (mxT a c 0 1) 0 1)):=cq;refine go2 ?_;refine zS h4 U ⟨?_,I,I,I,I,I,y1i⟩ I I;exact y0e (xS H)
  refine gF H I (go6 ?_);refine zS aj (MLe.refl _) ⟨?_,I,I,I,I,I,y1i⟩ I I;exact y0e (xT H)
 intro O bb;refine sD ?_;refine uZ (ι:=Mem) 6 (λJ=>MLe O J) (λ_=>[(60,vB ((((((pr (mxT a c 0 1) 0 1)=(pr a 0 1))\/((pr (mxT a c 0 1) 0 1)=(pr b 0 1)))/\(((pr (mxT a c 0 1) 0 1)=(pr c 0 1))\/((pr (mxT a c 0 1) 0 1)=(pr d 0 1))))/\(onS (pr a 0 1) (pr b 0 1) (pr (mxT a c 0 1) 0 1)))/\(onS (pr c 0 1) (pr d 0 1) (pr (mxT a c 0 1) 0 1)))),(4,vP b4 0),(5,vP b5 0),(6,vP b6 0),(7,vP b7 0),(9,vP b9 0)]) (λ_=>[.var M 53 D,.var b9 53 C,.var b7 53 aa,.var b6 53 ab,.var b5 53 ac,.var b4 53 ad]) (λJ=>J) ?_ ?_
 ·
  refine yD (((((pr (mxT a c 0 1) 0 1)=(pr a 0 1))\/((pr (mxT a c 0 1) 0 1)=(pr b 0 1)))/\(((pr (mxT a c 0 1) 0 1)=(pr c 0 1))\/((pr (mxT a c 0 1) 0 1)=(pr d 0 1))))/\(onS (pr a 0 1) (pr b 0 1) (pr (mxT a c 0 1) 0 1))) (λH=>?_) (λH=>?_)
  ·
   refine gT H I (go1 ?_);refine lX (xB zO pH ap) λem cp=>(go1 ?_);refine lX (xB zO pH ao) λel co=>(go1 ?_);refine lX (xB zO pH G) λek cn=>(go1 ?_);refine cL (ev3 I I I) call206 (λw hs=>mJ hs (cp.le (Le.t (Le.q (l:=k+1) oM))) (co.le (Le.t (Le.q (l:=k+1) oM))) cn oM) λbs h4 U cm=>?_;obtain rfl:bs=vB (onS (pr c 0 1) (pr d 0 1) (pr (mxT a c 0 1) 0 1)):=cm;refine go2 ?_;refine zS h4 U ⟨?_,I,I,I,I,I,y1i⟩ I I;exact y0e (xS H)
  refine gF H I (go6 ?_);refine zS O (MLe.refl _) ⟨?_,I,I,I,I,I,y1i⟩ I I;exact y0e (xT H)
 intro bk ba;refine sD ?_;refine gc3 (λbm=>?_) λbm=>?_
 ·
  refine go8 ?_;refine zD I I ?_;refine zbi vI ?_;rw[<-zEY I I];unfold zEZ;grind
 refine go2 ?_;refine lX (xB zO pH ax) λej cl=>(lX (xB zO pH aw) λei ck=>(lX (xB zO pH G) λeh cj=>(cL (ev3 I I I) call206 (λw hs=>mJ hs (cl.le (Le.t (Le.q (l:=k+1) oM))) (ck.le (Le.t (Le.q (l:=k+1) oM))) cj oM) λbr h4 U ci=>?_)));obtain rfl:br=vB (onS (pr a 0 1) (pr b 0 1) (pr (mxT a c 0 1) 0 1)):=ci;refine uZ (ι:=Mem) 6 (λJ=>MLe h4 J) (λ_=>[(71,vB ((onS (pr a 0 1) (pr b 0 1) (pr (mxT a c 0 1) 0 1))/\(onS (pr c 0 1) (pr d 0 1) (pr (mxT a c 0 1) 0 1))))]) (λ_=>[.var M 53 D,.var b9 53 C,.var b7 53 aa,.var b6 53 ab,.var b5 53 ac,.var b4 53 ad]) (λJ=>J) ?_ ?_
 ·
  refine yD (onS (pr a 0 1) (pr b 0 1) (pr (mxT a c 0 1) 0 1)) (λH=>?_) (λH=>?_)
  ·
   refine gT H I (go1 ?_);refine lX (xB zO pH ap) λeg ch=>(go1 ?_);refine lX (xB zO pH ao) λef cg=>(go1 ?_);refine lX (xB zO pH G) λee cf=>(go1 ?_);refine cL (ev3 I I I) call206 (λw hs=>mJ hs (ch.le (Le.t (Le.q (l:=k+1) oM))) (cg.le (Le.t (Le.q (l:=k+1) oM))) cf oM) λbq h5 bc ce=>?_;obtain rfl:bq=vB (onS (pr c 0 1) (pr d 0 1) (pr (mxT a c 0 1) 0 1)):=ce;refine go2 ?_;refine zS h5 bc ⟨?_,y1i⟩ I I;exact y0e (xS H)
  refine gF H I (go6 ?_);refine zS h4 (MLe.refl _) ⟨?_,y1i⟩ I I;exact y0e (xT H)
 intro bp bg;refine sD ?_;refine gc3 (λbl=>?_) λbl=>?_
 ·
  refine go8 ?_;refine zD I I ?_;refine zbi vI ?_;rw[<-zEY I I];unfold zEZ;grind
 refine go9 ?_;refine zD I I ?_;refine zbi vI ?_;rw[<-zEY I I];unfold zEZ;grind
theorem zKP{k:Nat}{va:Value}{a:Tq}(ra:(tPt k).Is h0 va a){vb:Value}{b:Tq}(rb:(tPt k).Is h0 vb b){vc:Value}{c:Tq}(rc:(tPt k).Is h0 vc c){vd:Value}{d:Tq}(rd:(tPt k).Is h0 vd d)(hcd0:k<=10000):
 Calls prog 205 #[va,vb,vc,vd] w0 (Ret w0 h0 (λ_ r=>r=vI (iF (pr a 0 1) (pr b 0 1) (pr c 0 1) (pr d 0 1)))):=by
 refine fG (n:=29) (e:=[(0,va),(1,vb),(2,vc),(3,vd)]) (vs:=[va,vb,vc,vd]) func205 rfl rfl (bL rfl) hs e4z (go2 ?_);refine nB ra λb4 ad U=>(nB rb λb5 ac ah=>(nB rc λb6 ab O=>(nB rd λb7 aa ae=>(go6 ?_))));refine lX (xB zO pH U) λv9 r9=>(lX (xB zO pH ah) λbo bd=>(cL (ev2 I I) call193 (λw hs=>jB hs r9 bd oM) λao h1 bp bc=>?_));obtain rfl:ao=vB ((pr a 0 1)=(pr b 0 1)):=bc;refine uZ (ι:=Mem) 6 (λH=>MLe h1 H) (λ_=>[(17,vB (((pr a 0 1)=(pr b 0 1))/\(onS (pr c 0 1) (pr d 0 1) (pr a 0 1)))),(4,vP b4 0),(5,vP b5 0),(6,vP b6 0),(7,vP b7 0)]) (λ_=>[.var b7 53 aa,.var b6 53 ab,.var b5 53 ac,.var b4 53 ad]) (λH=>H) ?_ ?_
 ·
  refine yD ((pr a 0 1)=(pr b 0 1)) (λC=>?_) (λC=>?_)
  ·
   refine gT C I (go1 ?_);refine lX (xB zO pH O) λbn bb=>(go1 ?_);refine lX (xB zO pH ae) λbm ba=>(go1 ?_);refine lX (xB zO pH U) λbl az=>(go1 ?_);refine cL (ev3 I I I) call206 (λw hs=>mJ hs bb ba az oM) λan h2 Z ay=>?_;obtain rfl:an=vB (onS (pr c 0 1) (pr d 0 1) (pr a 0 1)):=ay;refine go2 ?_;refine zS h2 Z ⟨?_,I,I,I,I,y1i⟩ I I;exact y0e (xS C)
  refine gF C I (go6 ?_);refine zS h1 (MLe.refl _) ⟨?_,I,I,I,I,y1i⟩ I I;exact y0e (xT C)
 intro G aj;refine sD ?_;refine uZ (ι:=Mem) 11 (λH=>MLe G H) (λ_=>[(28,vB ((((pr a 0 1)=(pr b 0 1))/\(onS (pr c 0 1) (pr d 0 1) (pr a 0 1)))\/(((pr c 0 1)=(pr d 0 1))/\(onS (pr a 0 1) (pr b 0 1) (pr c 0 1)))))]) (λ_=>[.var b7 53 aa,.var b6 53 ab,.var b5 53 ac,.var b4 53 ad]) (λH=>H) ?_ ?_
 ·
  refine yD (((pr a 0 1)=(pr b 0 1))/\(onS (pr c 0 1) (pr d 0 1) (pr a 0 1))) (λC=>?_) (λC=>?_)
  ·
   refine gT C I (qG ?_);refine zS G (MLe.refl _) ⟨?_,y1i⟩ I I;exact y0e (vV C)
  refine gF C I (go1 ?_);refine lX (xB zO pH O) λbk ax=>(go1 ?_);refine lX (xB zO pH ae) λbj aw=>(go1 ?_);refine cL (ev2 I I) call193 (λw hs=>jB hs ax aw oM) λam h2 Z av=>?_;obtain rfl:am=vB ((pr c 0 1)=(pr d 0 1)):=av;refine uZ (ι:=Mem) 6 (λH=>MLe h2 H) (λ_=>[(27,vB (((pr c 0 1)=(pr d 0 1))/\(onS (pr a 0 1) (pr b 0 1) (pr c 0 1)))),(18,.bool false)]) (λ_=>[.var b7 53 aa,.var b6 53 ab,.var b5 53 ac,.var b4 53 ad]) (λH=>H) ?_ ?_
  ·
   refine yD ((pr c 0 1)=(pr d 0 1)) (λC=>?_) (λC=>?_)
   ·
    refine go1 ?_;refine gT C I (go1 ?_);refine lX (xB zO pH U) λbi au=>(go1 ?_);refine lX (xB zO pH ah) λbh ar=>(go1 ?_);refine lX (xB zO pH O) λbg aq=>(go1 ?_);refine cL (ev3 I I I) call206 (λw hs=>mJ hs au ar aq oM) λak h3 bf ap=>?_;obtain rfl:ak=vB (onS (pr a 0 1) (pr b 0 1) (pr c 0 1)):=ap;refine go3 ?_;refine zS h3 bf ⟨?_,I,y1i⟩ I I;exact y0e (xS C)
   refine go1 ?_;refine gF C I (go7 ?_);refine zS h2 (MLe.refl _) ⟨?_,I,y1i⟩ I I;exact y0e (xT C)
  intro M D;refine sD ?_;refine go2 ?_;refine zS M (Z.trans D) ⟨?_,y1i⟩ I I;exact y0e (vW C)
 intro be ai;refine sD ?_;refine gc2 (λJ=>?_) λJ=>?_
 ·
  refine go7 ?_;refine zD I I ?_;exact zbi vI (zau J).symm
 refine go8 ?_;refine zD I I ?_;exact zbi vI (zae J).symm
theorem zEF{k:Nat}{va:Value}{a:Tq}(ra:(tPt k).Is h0 va a){vb:Value}{b:Tq}(rb:(tPt k).Is h0 vb b){vc:Value}{c:Tq}(rc:(tPt k).Is h0 vc c){vd:Value}{d:Tq}(rd:(tPt k).Is h0 vd d)(hcd0:k<=5000):
 Calls prog 194 #[va,vb,vc,vd] w0 (Ret w0 h0 (λ_ r=>r=vI (mA (pr a 0 1) (pr b 0 1) (pr c 0 1) (pr d 0 1)))):=by
 refine fG (n:=117) (e:=[(0,va),(1,vb),(2,vc),(3,vd)]) (vs:=[va,vb,vc,vd]) func194 rfl rfl (bL rfl) hs e4z (go2 ?_);refine nB ra λb4 kb cc=>(nB rb λb5 ka cb=>(nB rc λb6 jz ca=>(nB rd λb7 jy bz=>(go4 ?_))));refine zK 8 _ [] [(0,.q),(2,.q),(4,.q),(6,.q),(1,.c),(3,.c),(5,.c),(7,.c),(8,.t),(9,.t),(10,.t),(11,.t)] yC nX (wV zot) nX (λr hr=>hr) (wX I (xB zO pH cc) λjq gj=>(wX I (xB zO pH cb) λjo gh=>(wX I (xB zO pH ca) λjm gf=>(wX I (xB zO pH bz) λjk gc=>?_))));refine w_c I (sC (ev1 I) call201 (λw hs=>pQ hs gj) λjp h1 jw gi=>?_);refine w_c I (sC (ev1 I) call201 (λw hs=>pQ hs gh.up) λjn h2 jv gg=>?_);refine w_c I (sC (ev1 I) call201 (λw hs=>pQ hs gf.up) λjl h3 ju ge=>?_);refine w_c I (sC (ev1 I) call201 (λw hs=>pQ hs gc.up) λjj h4 jt gb=>?_);have bd:=(Le.t (Le.q (l:=k+1) oM)).R cc;refine yJ (A:=[_,_,_]) I (uB sizeOf53 pH bd gi) λbp ad=>?_;have bc:=(Le.t (Le.q (l:=k+1) oM)).R cb;refine yJ (A:=[_,_]) I (uB sizeOf53 pH bc gg) λbo ac=>?_;have bb:=(Le.t (Le.q (l:=k+1) oM)).R ca;refine yJ (A:=[_]) I (uB sizeOf53 pH bb ge) λaz ab=>?_;have ba:=(Le.t (Le.q (l:=k+1) oM)).R bz;refine yJ (A:=[]) I (uB sizeOf53 pH ba gb) λay aa=>(go2 ?_);refine qK (ι:=List Value×List Value×Mem) (λ(D,C,m1)=>MLe h4 m1/\((tPt (k+1)).R m1 D (loT (zZ a) (zZ b) 0 1)/\(tPt (k+1)).R m1 C (hiT (zZ a) (zZ b) 0 1)/\True)) (λ(D,C,m1)=>[(4,vP b4 0),(5,vP b5 0),(6,vP b6 0),(7,vP b7 0)]) (λ(D,C,m1)=>[.var b7 53 ay,.var b6 53 az,.var b5 53 C,.var b4 53 D]) (λ(D,C,m1)=>m1) ?_ ?_
 ·
  refine go2 ?_;refine lX (xB zO pH ac) λji ga=>(lX (xB zO pH ad) λjh fz=>(cL (ev2 I I) call202 (λw hs=>rK hs ga fz oM) λdp h5 ap fy=>?_));obtain rfl:dp=vB (lx (pr (zZ b) 0 1) (pr (zZ a) 0 1)):=fy;refine gc2 (λaj=>?_) λaj=>?_
  ·
   refine go1 ?_;refine lX (xB zO pH ac) λjg fx=>(lX (xB zO pH ad) λjf fw=>(zV (A:=[_,_,_]) (uB sizeOf53 pH ad fx) λbn bh=>(zV (A:=[_,_]) (uB sizeOf53 pH ac fw) λbm bg=>(go1 ?_))));refine zS (bn,bm,h5) ?_ e4z I I;refine⟨ap,?_⟩;refine⟨(Rp.castR bh (zau aj).symm),(Rp.castR bg (zau aj).symm),?_⟩
   trivial
  refine go1 ?_;refine zS (bp,bo,h5) ?_ e4z I I;refine⟨ap,?_⟩;refine⟨(Rp.castR ad.up (zae aj).symm),(Rp.castR ac.up (zae aj).symm),?_⟩
  trivial
 rintro⟨D,C,m1⟩ ⟨ha,ah⟩
 refine yQ ?_;obtain⟨U,O,ah⟩:=ah;refine qK (ι:=List Value×List Value×Mem) (λ(H,G,m2)=>MLe m1 m2/\((tPt (k+1)).R m2 H (loT (zZ c) (zZ d) 0 1)/\(tPt (k+1)).R m2 G (hiT (zZ c) (zZ d) 0 1)/\True)) (λ(H,G,m2)=>[(4,vP b4 0),(5,vP b5 0),(6,vP b6 0),(7,vP b7 0)]) (λ(H,G,m2)=>[.var b7 53 G,.var b6 53 H,.var b5 53 C,.var b4 53 D]) (λ(H,G,m2)=>m2) ?_ ?_
 ·
  refine go2 ?_;refine lX (xB zO pH aa) λje fv=>(lX (xB zO pH ab) λjd fu=>(cL (ev2 I I) call202 (λw hs=>rK hs fv fu oM) λdn h5 ap ft=>?_));obtain rfl:dn=vB (lx (pr (zZ d) 0 1) (pr (zZ c) 0 1)):=ft;refine gc2 (λai=>?_) λai=>?_
  ·
   refine go1 ?_;refine lX (xB zO pH aa) λjc fs=>(lX (xB zO pH ab) λjb fr=>(zV (A:=[_]) (uB sizeOf53 pH ab fs) λbl bf=>(zV (A:=[]) (uB sizeOf53 pH aa fr) λbk be=>(go1 ?_))));refine zS (bl,bk,h5) ?_ e4z I I;refine⟨ap,?_⟩;refine⟨(Rp.castR bf (zau ai).symm),(Rp.castR be (zau ai).symm),?_⟩
   trivial
  refine go1 ?_;refine zS (az,ay,h5) ?_ e4z I I;refine⟨ap,?_⟩;refine⟨(Rp.castR ab.up (zae ai).symm),(Rp.castR aa.up (zae ai).symm),?_⟩
  trivial
 rintro⟨H,G,m2⟩ ⟨gz,ah⟩
 refine yQ ?_;obtain⟨M,J,ah⟩:=ah;refine go3 ?_;refine lX (xB zO pH U) λja fq=>(lX (xB zO pH O) λiz fp=>(lX (xB zO pH M) λiy fo=>(cL (ev3 I I I) call203 (λw hs=>tA hs fq fp fo oM) λdm h5 ap fm=>?_)));obtain rfl:dm=vI (orZ (pr (loT (zZ a) (zZ b) 0 1) 0 1) (pr (hiT (zZ a) (zZ b) 0 1) 0 1) (pr (loT (zZ c) (zZ d) 0 1) 0 1)):=fm;have gq:=sK (pr (loT (zZ a) (zZ b) 0 1) 0 1) (pr (hiT (zZ a) (zZ b) 0 1) 0 1) (pr (loT (zZ c) (zZ d) 0 1) 0 1);refine go1 ?_;refine uZ (ι:=Mem) 7 (λm_=>MLe h5 m_) (λ_=>[(40,vB (((orZ (pr (loT (zZ a) (zZ b) 0 1) 0 1) (pr (hiT (zZ a) (zZ b) 0 1) 0 1) (pr (loT (zZ c) (zZ d) 0 1) 0 1))=(0:Int))/\((orZ (pr (loT (zZ a) (zZ b) 0 1) 0 1) (pr (hiT (zZ a) (zZ b) 0 1) 0 1) (pr (hiT (zZ c) (zZ d) 0 1) 0 1))=(0:Int)))),(4,vP b4 0),(5,vP b5 0),(6,vP b6 0),(7,vP b7 0)]) (λ_=>[.var b7 53 G,.var b6 53 H,.var b5 53 C,.var b4 53 D]) (λm_=>m_) ?_ ?_
 ·
  refine yD ((orZ (pr (loT (zZ a) (zZ b) 0 1) 0 1) (pr (hiT (zZ a) (zZ b) 0 1) 0 1) (pr (loT (zZ c) (zZ d) 0 1) 0 1))=(0:Int)) (λZ=>?_) (λZ=>?_)
  ·
   refine gT Z I (go1 ?_);refine lX (xB zO pH U) λix fl=>(go1 ?_);refine lX (xB zO pH O) λiw fk=>(go1 ?_);refine lX (xB zO pH J) λiv fj=>(go1 ?_);refine cL (ev3 I I I) call203 (λw hs=>tA hs fl fk fj oM) λdl h6 ak fi=>?_;obtain rfl:dl=vI (orZ (pr (loT (zZ a) (zZ b) 0 1) 0 1) (pr (hiT (zZ a) (zZ b) 0 1) 0 1) (pr (hiT (zZ c) (zZ d) 0 1) 0 1)):=fi;have go:=sK (pr (loT (zZ a) (zZ b) 0 1) 0 1) (pr (hiT (zZ a) (zZ b) 0 1) 0 1) (pr (hiT (zZ c) (zZ d) 0 1) 0 1);refine go4 ?_;refine zS h6 ak ⟨?_,I,I,I,I,y1i⟩ I I;exact y0e (xS Z)
  refine gF Z I (go7 ?_);refine zS h5 (MLe.refl _) ⟨?_,I,I,I,I,y1i⟩ I I;exact y0e (xT Z)
 intro aq cq;refine sD ?_;refine uZ (ι:=Mem) 7 (λm_=>MLe aq m_) (λ_=>[(47,vB ((((orZ (pr (loT (zZ a) (zZ b) 0 1) 0 1) (pr (hiT (zZ a) (zZ b) 0 1) 0 1) (pr (loT (zZ c) (zZ d) 0 1) 0 1))=(0:Int))/\((orZ (pr (loT (zZ a) (zZ b) 0 1) 0 1) (pr (hiT (zZ a) (zZ b) 0 1) 0 1) (pr (hiT (zZ c) (zZ d) 0 1) 0 1))=(0:Int)))/\((orZ (pr (loT (zZ c) (zZ d) 0 1) 0 1) (pr (hiT (zZ c) (zZ d) 0 1) 0 1) (pr (loT (zZ a) (zZ b) 0 1) 0 1))=(0:Int)))),(4,vP b4 0),(5,vP b5 0),(6,vP b6 0),(7,vP b7 0)]) (λ_=>[.var b7 53 G,.var b6 53 H,.var b5 53 C,.var b4 53 D]) (λm_=>m_) ?_ ?_
 ·
  refine yD (((orZ (pr (loT (zZ a) (zZ b) 0 1) 0 1) (pr (hiT (zZ a) (zZ b) 0 1) 0 1) (pr (loT (zZ c) (zZ d) 0 1) 0 1))=(0:Int))/\((orZ (pr (loT (zZ a) (zZ b) 0 1) 0 1) (pr (hiT (zZ a) (zZ b) 0 1) 0 1) (pr (hiT (zZ c) (zZ d) 0 1) 0 1))=(0:Int))) (λZ=>?_) (λZ=>?_)
  ·
   refine gT Z I (go1 ?_);refine lX (xB zO pH M) λiu fh=>(go1 ?_);refine lX (xB zO pH J) λir fg=>(go1 ?_);refine lX (xB zO pH U) λiq ff=>(go1 ?_);refine cL (ev3 I I I) call203 (λw hs=>tA hs fh fg ff oM) λdk h6 ak fe=>?_;obtain rfl:dk=vI (orZ (pr (loT (zZ c) (zZ d) 0 1) 0 1) (pr (hiT (zZ c) (zZ d) 0 1) 0 1) (pr (loT (zZ a) (zZ b) 0 1) 0 1)):=fe;have gn:=sK (pr (loT (zZ c) (zZ d) 0 1) 0 1) (pr (hiT (zZ c) (zZ d) 0 1) 0 1) (pr (loT (zZ a) (zZ b) 0 1) 0 1);refine go4 ?_;refine zS h6 ak ⟨?_,I,I,I,I,y1i⟩ I I;exact y0e (xS Z)
  refine gF Z I (go7 ?_);refine zS aq (MLe.refl _) ⟨?_,I,I,I,I,y1i⟩ I I;exact y0e (xT Z)
 intro am br;refine sD ?_;refine uZ (ι:=Mem) 7 (λm_=>MLe am m_) (λ_=>[(54,vB (((((orZ (pr (loT (zZ a) (zZ b) 0 1) 0 1) (pr (hiT (zZ a) (zZ b) 0 1) 0 1) (pr (loT (zZ c) (zZ d) 0 1) 0 1))=(0:Int))/\((orZ (pr (loT (zZ a) (zZ b) 0 1) 0 1) (pr (hiT (zZ a) (zZ b) 0 1) 0 1) (pr (hiT (zZ c) (zZ d) 0 1) 0 1))=(0:Int)))/\((orZ (pr (loT (zZ c) (zZ d) 0 1) 0 1) (pr (hiT (zZ c) (zZ d) 0 1) 0 1) (pr (loT (zZ a) (zZ b) 0 1) 0 1))=(0:Int)))/\((orZ (pr (loT (zZ c) (zZ d) 0 1) 0 1) (pr (hiT (zZ c) (zZ d) 0 1) 0 1) (pr (hiT (zZ a) (zZ b) 0 1) 0 1))=(0:Int)))),(4,vP b4 0),(5,vP b5 0),(6,vP b6 0),(7,vP b7 0)]) (λ_=>[.var b7 53 G,.var b6 53 H,.var b5 53 C,.var b4 53 D]) (λm_=>m_) ?_ ?_
 ·
  refine yD ((((orZ (pr (loT (zZ a) (zZ b) 0 1) 0 1) (pr (hiT (zZ a) (zZ b) 0 1) 0 1) (pr (loT (zZ c) (zZ d) 0 1) 0 1))=(0:Int))/\((orZ (pr (loT (zZ a) (zZ b) 0 1) 0 1) (pr (hiT (zZ a) (zZ b) 0 1) 0 1) (pr (hiT (zZ c) (zZ d) 0 1) 0 1))=(0:Int)))/\((orZ (pr (loT (zZ c) (zZ d) 0 1) 0 1) (pr (hiT (zZ c) (zZ d) 0 1) 0 1) (pr (loT (zZ a) (zZ b) 0 1) 0 1))=(0:Int))) (λZ=>?_) (λZ=>?_)
  ·
   refine gT Z I (go1 ?_);refine lX (xB zO pH M) λip fd=>(go1 ?_);refine lX (xB zO pH J) λio fc=>(go1 ?_);refine lX (xB zO pH O) λim fb=>(go1 ?_);refine cL (ev3 I I I) call203 (λw hs=>tA hs fd fc fb oM) λdj h6 ak fa=>?_;obtain rfl:dj=vI (orZ (pr (loT (zZ c) (zZ d) 0 1) 0 1) (pr (hiT (zZ c) (zZ d) 0 1) 0 1) (pr (hiT (zZ a) (zZ b) 0 1) 0 1)):=fa;have gm:=sK (pr (loT (zZ c) (zZ d) 0 1) 0 1) (pr (hiT (zZ c) (zZ d) 0 1) 0 1) (pr (hiT (zZ a) (zZ b) 0 1) 0 1);refine go4 ?_;refine zS h6 ak ⟨?_,I,I,I,I,y1i⟩ I I;exact y0e (xS Z)
  refine gF Z I (go7 ?_);refine zS am (MLe.refl _) ⟨?_,I,I,I,I,y1i⟩ I I;exact y0e (xT Z)
 intro cz bq;refine sD ?_;refine gc2 (λcw=>?_) λcw=>?_
 ·
  refine go2 ?_;refine lX (xB zO pH U) λil ez=>(lX (xB zO pH O) λik ey=>(lX (xB zO pH M) λij ew=>(lX (xB zO pH J) λii ev=>(cL (ev4 I I I I) call204 (λw hs=>zRN hs ez ey ew ev oM) λdi h6 ak eu=>?_))));obtain rfl:di=vI (zCM (pr (loT (zZ a) (zZ b) 0 1) 0 1) (pr (hiT (zZ a) (zZ b) 0 1) 0 1) (pr (loT (zZ c) (zZ d) 0 1) 0 1) (pr (hiT (zZ c) (zZ d) 0 1) 0 1)):=eu;refine go5 ?_;refine zD I I ?_;refine zbi vI ?_;rw[<-j4 I I I I];unfold dU;grind
 refine go5 ?_;refine lX (xB zO pH U) λih es=>(lX (xB zO pH O) λig er=>(cL (ev2 I I) call193 (λw hs=>jB hs es er oM) λdh h6 ak eq=>?_));obtain rfl:dh=vB ((pr (loT (zZ a) (zZ b) 0 1) 0 1)=(pr (hiT (zZ a) (zZ b) 0 1) 0 1)):=eq;refine uZ (ι:=Mem) 5 (λm_=>MLe h6 m_) (λ_=>[(67,vB (((pr (loT (zZ a) (zZ b) 0 1) 0 1)=(pr (hiT (zZ a) (zZ b) 0 1) 0 1))\/((pr (loT (zZ c) (zZ d) 0 1) 0 1)=(pr (hiT (zZ c) (zZ d) 0 1) 0 1)))),(4,vP b4 0),(5,vP b5 0),(6,vP b6 0),(7,vP b7 0)]) (λ_=>[.var b7 53 G,.var b6 53 H,.var b5 53 C,.var b4 53 D]) (λm_=>m_) ?_ ?_
 ·
  refine yD ((pr (loT (zZ a) (zZ b) 0 1) 0 1)=(pr (hiT (zZ a) (zZ b) 0 1) 0 1)) (λZ=>?_) (λZ=>?_)
  ·
   refine gT Z I (go5 ?_);refine zS h6 (MLe.refl _) ⟨?_,I,I,I,I,y1i⟩ I I;exact y0e (vV Z)
  refine gF Z I (go1 ?_);refine lX (xB zO pH M) λie ep=>(go1 ?_);refine lX (xB zO pH J) λid eo=>(go1 ?_);refine cL (ev2 I I) call193 (λw hs=>jB hs ep eo oM) λdf h7 bj en=>?_;obtain rfl:df=vB ((pr (loT (zZ c) (zZ d) 0 1) 0 1)=(pr (hiT (zZ c) (zZ d) 0 1) 0 1)):=en;refine go2 ?_;refine zS h7 bj ⟨?_,I,I,I,I,y1i⟩ I I;exact y0e (vW Z)
 intro gk cp;refine sD ?_;refine gc2 (λcv=>?_) λcv=>?_
 ·
  refine go2 ?_;refine lX (xB zO pH U) λic em=>(lX (xB zO pH O) λib el=>(lX (xB zO pH M) λia ek=>(lX (xB zO pH J) λhw ej=>(cL (ev4 I I I I) call205 (λw hs=>zKP hs em el ek ej oM) λde h7 bj ei=>?_))));obtain rfl:de=vI (iF (pr (loT (zZ a) (zZ b) 0 1) 0 1) (pr (hiT (zZ a) (zZ b) 0 1) 0 1) (pr (loT (zZ c) (zZ d) 0 1) 0 1) (pr (hiT (zZ c) (zZ d) 0 1) 0 1)):=ei;refine go5 ?_;refine zD I I ?_;refine zbi vI ?_;rw[<-j4 I I I I];unfold dU;grind
 refine go3 ?_;refine zK 20 _ [] [(0,.q),(1,.q),(2,.q),(4,.q),(5,.q),(6,.q),(9,.q),(10,.q),(11,.q),(13,.q),(14,.q),(15,.q),(3,.c),(7,.c),(8,.q),(12,.c),(16,.c),(17,.q),(18,.q),(19,.q)] yC nX (wV zot) nX (λr hr=>hr) (wX I (xB zO pH U) λhv eh=>(wX I (xB zO pH O) λhu eg=>(wX I (xB zO pH M) λht ef=>(wX I (xB zO pH U) λhq ed=>(wX I (xB zO pH O) λhp ec=>(wX I (xB zO pH J) λho eb=>(wX I (xB zO pH M) λhn dz=>(wX I (xB zO pH J) λhm dy=>(wX I (xB zO pH U) λhl dx=>(wX I (xB zO pH M) λhk dv=>(wX I (xB zO pH J) λhj du=>(wX I (xB zO pH O) λhf dt=>?_))))))))))));refine w_c I (sC (ev3 I I I) call203 (λw hs=>tA hs eh eg ef oM) λdd h7 bj ee=>?_);obtain rfl:dd=vI (orZ (pr (loT (zZ a) (zZ b) 0 1) 0 1) (pr (hiT (zZ a) (zZ b) 0 1) 0 1) (pr (loT (zZ c) (zZ d) 0 1) 0 1)):=ee;have aw:=sK (pr (loT (zZ a) (zZ b) 0 1) 0 1) (pr (hiT (zZ a) (zZ b) 0 1) 0 1) (pr (loT (zZ c) (zZ d) 0 1) 0 1);refine w_c I (sC (ev3 I I I) call203 (λw hs=>tA hs ed.up ec.up eb.up oM) λdc h8 js ea=>?_);obtain rfl:dc=vI (orZ (pr (loT (zZ a) (zZ b) 0 1) 0 1) (pr (hiT (zZ a) (zZ b) 0 1) 0 1) (pr (hiT (zZ c) (zZ d) 0 1) 0 1)):=ea;have av:=sK (pr (loT (zZ a) (zZ b) 0 1) 0 1) (pr (hiT (zZ a) (zZ b) 0 1) 0 1) (pr (hiT (zZ c) (zZ d) 0 1) 0 1);refine wK I (λ_ _=>aA I I (by have:=iQ aw av;omega) (by have:=iQ aw av;omega)) I ?_;refine w_c I (sC (ev3 I I I) call203 (λw hs=>tA hs dz.up dy.up dx.up oM) λdb h9 jr dw=>?_);obtain rfl:db=vI (orZ (pr (loT (zZ c) (zZ d) 0 1) 0 1) (pr (hiT (zZ c) (zZ d) 0 1) 0 1) (pr (loT (zZ a) (zZ b) 0 1) 0 1)):=dw;have au:=sK (pr (loT (zZ c) (zZ d) 0 1) 0 1) (pr (hiT (zZ c) (zZ d) 0 1) 0 1) (pr (loT (zZ a) (zZ b) 0 1) 0 1);refine w_c I (sC (ev3 I I I) call203 (λw hs=>tA hs dv.up du.up dt.up oM) λda jx hd dr=>?_);obtain rfl:da=vI (orZ (pr (loT (zZ c) (zZ d) 0 1) 0 1) (pr (hiT (zZ c) (zZ d) 0 1) 0 1) (pr (hiT (zZ a) (zZ b) 0 1) 0 1)):=dr;have ar:=sK (pr (loT (zZ c) (zZ d) 0 1) 0 1) (pr (hiT (zZ c) (zZ d) 0 1) 0 1) (pr (hiT (zZ a) (zZ b) 0 1) 0 1);refine wK I (λ_ _=>aA I I (by have:=iQ au ar;omega) (by have:=iQ au ar;omega)) I (uQ ?_);refine gU 4 97 (vB (((0:Int)<((orZ (pr (loT (zZ a) (zZ b) 0 1) 0 1) (pr (hiT (zZ a) (zZ b) 0 1) 0 1) (pr (loT (zZ c) (zZ d) 0 1) 0 1))*(orZ (pr (loT (zZ a) (zZ b) 0 1) 0 1) (pr (hiT (zZ a) (zZ b) 0 1) 0 1) (pr (hiT (zZ c) (zZ d) 0 1) 0 1))))\/((0:Int)<((orZ (pr (loT (zZ c) (zZ d) 0 1) 0 1) (pr (hiT (zZ c) (zZ d) 0 1) 0 1) (pr (loT (zZ a) (zZ b) 0 1) 0 1))*(orZ (pr (loT (zZ c) (zZ d) 0 1) 0 1) (pr (hiT (zZ c) (zZ d) 0 1) 0 1) (pr (hiT (zZ a) (zZ b) 0 1) 0 1)))))) ?_ ?_
 ·
  refine yD ((0:Int)<((orZ (pr (loT (zZ a) (zZ b) 0 1) 0 1) (pr (hiT (zZ a) (zZ b) 0 1) 0 1) (pr (loT (zZ c) (zZ d) 0 1) 0 1))*(orZ (pr (loT (zZ a) (zZ b) 0 1) 0 1) (pr (hiT (zZ a) (zZ b) 0 1) 0 1) (pr (hiT (zZ c) (zZ d) 0 1) 0 1)))) (λZ=>?_) (λZ=>?_)
  ·
   refine gT Z I (go4 ?_);refine gqU ?_;exact y0e (vV Z)
  refine gF Z I (go6 ?_);refine gqU ?_;exact y0e (vW Z)
 refine gc3 (λcu=>?_) λcu=>?_
 ·
  refine go8 ?_;refine zD I I ?_;refine zbi vI ?_;rw[<-j4 I I I I];unfold dU;grind
 refine go2 ?_;refine lX (xB zO pH U) λhe dq=>(lX (xB zO pH M) λgy cn=>(cL (ev2 I I) call193 (λw hs=>jB hs dq cn oM) λbx cy hc cm=>?_));obtain rfl:bx=vB ((pr (loT (zZ a) (zZ b) 0 1) 0 1)=(pr (loT (zZ c) (zZ d) 0 1) 0 1)):=cm;refine uZ (ι:=Mem) 5 (λm_=>MLe cy m_) (λ_=>[(106,vB (((pr (loT (zZ a) (zZ b) 0 1) 0 1)=(pr (loT (zZ c) (zZ d) 0 1) 0 1))\/((pr (loT (zZ a) (zZ b) 0 1) 0 1)=(pr (hiT (zZ c) (zZ d) 0 1) 0 1)))),(5,vP b5 0),(6,vP b6 0),(7,vP b7 0)]) (λ_=>[.var b7 53 G,.var b6 53 H,.var b5 53 C,.var b4 53 D]) (λm_=>m_) ?_ ?_
 ·
  refine yD ((pr (loT (zZ a) (zZ b) 0 1) 0 1)=(pr (loT (zZ c) (zZ d) 0 1) 0 1)) (λZ=>?_) (λZ=>?_)
  ·
   refine gT Z I (go5 ?_);refine zS cy (MLe.refl _) ⟨?_,I,I,I,y1i⟩ I I;exact y0e (vV Z)
  refine gF Z I (go1 ?_);refine lX (xB zO pH U) λgx cl=>(go1 ?_);refine lX (xB zO pH J) λgw ck=>(go1 ?_);refine cL (ev2 I I) call193 (λw hs=>jB hs cl ck oM) λbw ax ae cj=>?_;obtain rfl:bw=vB ((pr (loT (zZ a) (zZ b) 0 1) 0 1)=(pr (hiT (zZ c) (zZ d) 0 1) 0 1)):=cj;refine go2 ?_;refine zS ax ae ⟨?_,I,I,I,y1i⟩ I I;exact y0e (vW Z)
 intro ao bt;refine sD ?_;refine uZ (ι:=Mem) 5 (λm_=>MLe ao m_) (λ_=>[(111,vB ((((pr (loT (zZ a) (zZ b) 0 1) 0 1)=(pr (loT (zZ c) (zZ d) 0 1) 0 1))\/((pr (loT (zZ a) (zZ b) 0 1) 0 1)=(pr (hiT (zZ c) (zZ d) 0 1) 0 1)))\/((pr (hiT (zZ a) (zZ b) 0 1) 0 1)=(pr (loT (zZ c) (zZ d) 0 1) 0 1)))),(5,vP b5 0),(7,vP b7 0)]) (λ_=>[.var b7 53 G,.var b6 53 H,.var b5 53 C,.var b4 53 D]) (λm_=>m_) ?_ ?_
 ·
  refine yD (((pr (loT (zZ a) (zZ b) 0 1) 0 1)=(pr (loT (zZ c) (zZ d) 0 1) 0 1))\/((pr (loT (zZ a) (zZ b) 0 1) 0 1)=(pr (hiT (zZ c) (zZ d) 0 1) 0 1))) (λZ=>?_) (λZ=>?_)
  ·
   refine gT Z I (go5 ?_);refine zS ao (MLe.refl _) ⟨?_,I,I,y1i⟩ I I;exact y0e (vV Z)
  refine gF Z I (go1 ?_);refine lX (xB zO pH O) λgu ci=>(go1 ?_);refine lX (xB zO pH M) λgt ch=>(go1 ?_);refine cL (ev2 I I) call193 (λw hs=>jB hs ci ch oM) λbv ax ae cg=>?_;obtain rfl:bv=vB ((pr (hiT (zZ a) (zZ b) 0 1) 0 1)=(pr (loT (zZ c) (zZ d) 0 1) 0 1)):=cg;refine go2 ?_;refine zS ax ae ⟨?_,I,I,y1i⟩ I I;exact y0e (vW Z)
 intro an bs;refine sD ?_;refine uZ (ι:=Mem) 5 (λm_=>MLe an m_) (λ_=>[(116,vB (((((pr (loT (zZ a) (zZ b) 0 1) 0 1)=(pr (loT (zZ c) (zZ d) 0 1) 0 1))\/((pr (loT (zZ a) (zZ b) 0 1) 0 1)=(pr (hiT (zZ c) (zZ d) 0 1) 0 1)))\/((pr (hiT (zZ a) (zZ b) 0 1) 0 1)=(pr (loT (zZ c) (zZ d) 0 1) 0 1)))\/((pr (hiT (zZ a) (zZ b) 0 1) 0 1)=(pr (hiT (zZ c) (zZ d) 0 1) 0 1))))]) (λ_=>[.var b7 53 G,.var b6 53 H,.var b5 53 C,.var b4 53 D]) (λm_=>m_) ?_ ?_
 ·
  refine yD ((((pr (loT (zZ a) (zZ b) 0 1) 0 1)=(pr (loT (zZ c) (zZ d) 0 1) 0 1))\/((pr (loT (zZ a) (zZ b) 0 1) 0 1)=(pr (hiT (zZ c) (zZ d) 0 1) 0 1)))\/((pr (hiT (zZ a) (zZ b) 0 1) 0 1)=(pr (loT (zZ c) (zZ d) 0 1) 0 1))) (λZ=>?_) (λZ=>?_)
  ·
   refine gT Z I (go5 ?_);refine zS an (MLe.refl _) ⟨?_,y1i⟩ I I;exact y0e (vV Z)
  refine gF Z I (go1 ?_);refine lX (xB zO pH O) λgs cf=>(go1 ?_);refine lX (xB zO pH J) λgr ce=>(go1 ?_);refine cL (ev2 I I) call193 (λw hs=>jB hs cf ce oM) λbu ax ae cd=>?_;obtain rfl:bu=vB ((pr (hiT (zZ a) (zZ b) 0 1) 0 1)=(pr (hiT (zZ c) (zZ d) 0 1) 0 1)):=cd;refine go2 ?_;refine zS ax ae ⟨?_,y1i⟩ I I;exact y0e (vW Z)
 intro co bi;refine sD ?_;refine gc3 (λct=>?_) λct=>?_
 ·
  refine go8 ?_;refine zD I I ?_;refine zbi vI ?_;rw[<-j4 I I I I];unfold dU;grind
 refine go9 ?_;refine zD I I ?_;refine zbi vI ?_;rw[<-j4 I I I I];unfold dU;grind
theorem zKT{k:Nat}{vl:Value}{l:(List Tq)}(rl:(tLs k).Is h0 vl l){vp:Value}{p:Tq}(rp:(tPt k).Is h0 vp p)(hcd0:k<=9900)(hcd1:l.length<=1000):
 Calls prog 195 #[vl,vp] w0 (Ret w0 h0 (λ_ r=>r=vI (w8 l (pr p 0 1) 0 1))):=by
 refine cb2 66 vl vp func195 hs ?_;refine go2 ?_;refine nB rp λb3 ae ac=>(iV ?_);refine gcL (ι:=Nat×Mem) (λ(m,ma)=>(MLe h0 ma/\(m<=l.length/\∀q,q<m->¬onS (kQ l 0 1 q) (kP l 0 1 q) (pr p 0 1)),[(0,vl),(3,vP b3 0),(5,vB (cO l (pr p 0 1) 0 1 m)),(6,vI ↑m)],[.var b3 53 ae],ma,l.length-m)) (0,h0) ?_ ?_ (he:=⟨I,I,y0e (yV id).symm,I,y1i⟩)
 · exact⟨mle,by omega,λq hq=>by omega⟩
 rintro⟨m,ma⟩ ⟨cm,aw,ad⟩
 refine yQ ?_;refine gc9 (λax=>?_) λax=>?_
 ·
  refine go5 ?_;refine zK 16 _ [(12,(7,53,y3e)),(13,(8,53,y3e))] (zai 0 12 [(12,.a),(13,.a),(14,.c),(15,.c)]) yC (jZ.cons I I (qR yM I I) (jZ.cons I I (qR yM I I) jZ.nil)) (wV zot) (qU I I (qU I I gM)) (λr hr=>hr) (go2 ?_);refine wX I (xI zT m underlying46 zO rl) λdl cg=>(wX I (xA zO cg) λdk cf=>(go4 ?_));refine w_q I (λh' L' hh hR=>uX underlying46 I (rl.up.mono hh)) I (wK I (λ_ _=>wO I I oM oM) I (wX I (xI zT ((m+1)%l.length) underlying46 zO rl (hi:=by exact zcu _ oM)) λdj ce=>(wX I (xA zO ce) λdi cd=>?_)));refine w_a I I (λb7=>?_);have bh:(tPt (k+1)).R ma y3e zT:=(xE (yE oM));refine w_a I I (λb8=>?_);have bg:(tPt (k+1)).R ma y3e zT:=(xE (yE oM));refine w_c I (rR (A:=[_]) (uB sizeOf53 pH bh (cf.le (Le.t (Le.q (l:=k+1) oM)))) (xU zox) λba H=>?_);refine w_c I (rR (A:=[]) (uB sizeOf53 pH bg (cd.le (Le.t (Le.q (l:=k+1) oM)))) (xU zox) λaz G=>(go4 ?_));refine zK 7 _ [] [(0,.q),(2,.q),(4,.q),(1,.c),(3,.c),(5,.c),(6,.c)] yC nX zot nX (λr hr=>hr) (wX I (xB zO pH H) λdh cc=>(wX I (xB zO pH G) λde cb=>(wX I (xB zO pH ac) λdc ca=>?_)));refine w_c I (sC (ev1 I) call201 (λw hs=>pQ hs cc) λdf h1 dq ao=>?_);replace ao:=Rp.Is.le ao (Le.t (Le.q (l:=k+2) oM));refine w_c I (sC (ev1 I) call201 (λw hs=>pQ hs cb.up) λdd h2 dp an=>?_);replace an:=Rp.Is.le an (Le.t (Le.q (l:=k+2) oM));refine w_c I (sC (ev1 I) call201 (λw hs=>pQ hs ca.up) λdb h3 dn bz=>?_);refine w_c I (sC (ev3 I I I) call206 (λw hs=>mJ hs ao.up an.up (bz.le (Le.t (Le.q (l:=k+2) oM))) oM) λbf h4 dm bx=>?_);obtain rfl:bf=vB (onS (pr (T3.mk ((l.getD m zT).x) ((l.getD m zT).y) (0:Rat)) 0 1) (pr (T3.mk ((l.getD ((m+1)%l.length) zT).x) ((l.getD ((m+1)%l.length) zT).y) (0:Rat)) 0 1) (pr (zZ p) 0 1)):=bx;refine gc2 (λU=>?_) λU=>?_
  ·
   refine uV ?_;refine zD I I ?_;exact zbi vI (yD7 oM U)
  refine go2 ?_;refine qK (ι:=List Value×List Value×Mem) (λ(D,C,mc)=>MLe h4 mc/\((tPt (k+1)).R mc D (zA7 (l.getD m zT) (l.getD ((m+1)%l.length) zT))/\(tPt (k+1)).R mc C (zCQ (l.getD m zT) (l.getD ((m+1)%l.length) zT))/\True)) (λ(D,C,mc)=>[(0,vl),(3,vP b3 0),(5,vB (cO l (pr p 0 1) 0 1 m)),(6,vI ↑m),(7,vP b7 0),(8,vP b8 0)]) (λ(D,C,mc)=>[.var b8 53 C,.var b7 53 D,.var b3 53 ae]) (λ(D,C,mc)=>mc) ?_ ?_
  ·
   refine go3 ?_;refine lX (xB yI (y3i pH) H) λda bw=>(go1 ?_);refine lX (xB yI (y3i pH) G) λcz bv=>(cL (ev2 I I) call18 (λw hs=>fQ hs bw bv oM) λbe h5 ar bu=>?_);obtain rfl:be=vI (wQ ((l.getD m zT).y) ((l.getD ((m+1)%l.length) zT).y)):=bu;have ck:=kR ((l.getD m zT).y) ((l.getD ((m+1)%l.length) zT).y);refine gc3 (λM=>?_) λM=>?_
   ·
    refine go1 ?_;refine lX (xB zO pH G) λcy bt=>(lX (xB zO pH H) λcw bs=>(zV (A:=[_]) (uB sizeOf53 pH H bt) λay am=>(zV (A:=[]) (uB sizeOf53 pH G bs) λau ak=>(go1 ?_))));refine zS (ay,au,h5) ?_ e6 I I;refine⟨ar,?_⟩;refine⟨(Rp.castR am (zau M).symm),(Rp.castR ak (zau M).symm),?_⟩
    trivial
   refine go1 ?_;refine zS (ba,az,h5) ?_ e6 I I;refine⟨ar,?_⟩;refine⟨(Rp.castR H.up (zae M).symm),(Rp.castR G.up (zae M).symm),?_⟩
   trivial
  rintro⟨D,C,mc⟩ ⟨cl,aj⟩
  refine yQ ?_;obtain⟨ai,ah,aj⟩:=aj;refine go3 ?_;refine lX (xB yI (y3i pH) ai) λcv br=>(go1 ?_);refine lX (xB yI (y3i pH) ac) λcu bq=>(cL (ev2 I I) call18 (λw hs=>fQ hs br bq oM) λbd h5 ar bp=>?_);obtain rfl:bd=vI (wQ ((zA7 (l.getD m zT) (l.getD ((m+1)%l.length) zT)).y) p.y):=bp;have cj:=kR ((zA7 (l.getD m zT) (l.getD ((m+1)%l.length) zT)).y) p.y;refine go1 ?_;refine uZ (ι:=Mem) 8 (λm_=>MLe h5 m_) (λ_=>[(55,vB (((wQ ((zA7 (l.getD m zT) (l.getD ((m+1)%l.length) zT)).y) p.y)<=(0:Int))/\((wQ p.y ((zCQ (l.getD m zT) (l.getD ((m+1)%l.length) zT)).y))<(0:Int)))),(0,vl),(3,vP b3 0),(5,vB (cO l (pr p 0 1) 0 1 m)),(6,vI ↑m),(7,vP b7 0),(8,vP b8 0)]) (λ_=>[.var b8 53 C,.var b7 53 D,.var b3 53 ae]) (λm_=>m_) ?_ ?_
  ·
   refine yD ((wQ ((zA7 (l.getD m zT) (l.getD ((m+1)%l.length) zT)).y) p.y)<=(0:Int)) (λZ=>?_) (λZ=>?_)
   ·
    refine gT Z I (go3 ?_);refine lX (xB yI (y3i pH) ac) λct bo=>(go3 ?_);refine lX (xB yI (y3i pH) ah) λcq bn=>(go1 ?_);refine cL (ev2 I I) call18 (λw hs=>fQ hs bo bn oM) λbc h6 aq bm=>?_;obtain rfl:bc=vI (wQ p.y ((zCQ (l.getD m zT) (l.getD ((m+1)%l.length) zT)).y)):=bm;have ci:=kR p.y ((zCQ (l.getD m zT) (l.getD ((m+1)%l.length) zT)).y);refine go4 ?_;refine zS h6 aq ⟨?_,I,I,I,I,I,I,y1i⟩ I I;exact y0e (xS Z)
   refine gF Z I (go8 ?_);refine zS h5 (MLe.refl _) ⟨?_,I,I,I,I,I,I,y1i⟩ I I;exact y0e (xT Z)
  intro O av;refine sD ?_;refine uZ (ι:=Mem) 7 (λm_=>MLe O m_) (λ_=>[(62,vB ((((wQ ((zA7 (l.getD m zT) (l.getD ((m+1)%l.length) zT)).y) p.y)<=(0:Int))/\((wQ p.y ((zCQ (l.getD m zT) (l.getD ((m+1)%l.length) zT)).y))<(0:Int)))/\((0:Int)<(orZ (pr (zA7 (l.getD m zT) (l.getD ((m+1)%l.length) zT)) 0 1) (pr (zCQ (l.getD m zT) (l.getD ((m+1)%l.length) zT)) 0 1) (pr p 0 1))))),(0,vl),(3,vP b3 0),(5,vB (cO l (pr p 0 1) 0 1 m)),(6,vI ↑m)]) (λ_=>[.var b8 53 C,.var b7 53 D,.var b3 53 ae]) (λm_=>m_) ?_ ?_
  ·
   refine yD (((wQ ((zA7 (l.getD m zT) (l.getD ((m+1)%l.length) zT)).y) p.y)<=(0:Int))/\((wQ p.y ((zCQ (l.getD m zT) (l.getD ((m+1)%l.length) zT)).y))<(0:Int))) (λZ=>?_) (λZ=>?_)
   ·
    refine gT Z I (go1 ?_);refine lX (xB zO pH ai) λcp bl=>(go1 ?_);refine lX (xB zO pH ah) λco bk=>(go1 ?_);refine lX (xB zO pH ac) λcn bj=>(go1 ?_);refine cL (ev3 I I I) call203 (λw hs=>tA hs bl bk (bj.le (Le.t (Le.q (l:=k+1) oM))) oM) λbb h6 aq bi=>?_;obtain rfl:bb=vI (orZ (pr (zA7 (l.getD m zT) (l.getD ((m+1)%l.length) zT)) 0 1) (pr (zCQ (l.getD m zT) (l.getD ((m+1)%l.length) zT)) 0 1) (pr p 0 1)):=bi;have ch:=sK (pr (zA7 (l.getD m zT) (l.getD ((m+1)%l.length) zT)) 0 1) (pr (zCQ (l.getD m zT) (l.getD ((m+1)%l.length) zT)) 0 1) (pr p 0 1);refine go4 ?_;refine zS h6 aq ⟨?_,I,I,I,I,y1i⟩ I I;exact y0e (xS Z)
   refine gF Z I (go7 ?_);refine zS O (MLe.refl _) ⟨?_,I,I,I,I,y1i⟩ I I;exact y0e (xT Z)
  intro J ap;refine sD ?_;refine gc2 (λab=>?_) λab=>?_
  ·
   refine uV ?_;refine uO (A:=[]) (uO (A:=[]) ?_);refine gqL ((m+1),J) ?_ ?_ (he:=⟨I,I,zbi (λz=>some (vB z)) (yDF ((zFF _ _ _).1 ab)),I,y1i⟩)
   · exact⟨mle,by omega,zPL ad U⟩
   omega
  refine go8 ?_;refine uO (A:=[]) (uO (A:=[]) ?_);refine gqL ((m+1),J) ?_ ?_ (he:=⟨I,I,zbi (λz=>some (vB z)) (zY0 λe=>ab ((zFF _ _ _).2 e)),I,y1i⟩)
  · exact⟨mle,by omega,zPL ad U⟩
  omega
 refine zE9 (λaa=>?_) λaa=>?_
 ·
  refine go7 ?_;refine zD I I ?_;exact zbi vI (yD8 oM aw ad aa)
 refine go8 ?_;refine zD I I ?_;exact zbi vI (zZL oM aw ad aa)
end
end Go.Proofs.YtboaboflnckgoaaGreat
namespace Bk
open Classical
def zQU(R:Nat->Nat->Prop)(q b:Nat):Prop:=∀p,p<b->R p q
def zJQ(R:Nat->Nat->Prop)(a:Nat):Prop:=∀q,q<a->zQU R q q
theorem zS0{R:Nat->Nat->Prop}:zJQ R 0:=λq h=>by omega
theorem zXR{R:Nat->Nat->Prop}{q:Nat}:zQU R q 0:=λp h=>by omega
theorem zXS{R:Nat->Nat->Prop}{q b:Nat}(h:zQU R q b)(h1:R b q):zQU R q (b+1):=λp h3=>by
 rcases zpi.1 h3 with h4|h4
 · exact h p h4
 · subst h4;exact h1
theorem zS1{R:Nat->Nat->Prop}{a b:Nat}(h:zJQ R a)(h1:zQU R a b)(hb:a<=b):zJQ R (a+1):=λq h2=>by
 rcases zpi.1 h2 with h5|h5
 · exact h q h5
 · subst h5;exactλp hp=>h1 p zos
def zW2(l:List Pt)(k i:Nat):Prop:=yGQ l 0 1 k i/\okT l 0 1 k i
theorem zX8{l:List Pt}(h3:3<=l.length)(h:zJQ (zW2 l) l.length):bG l 0 1:=
 ⟨h3,λp q h1 h2 h4=>(h q h4 p h2).1,λp q h1 h2 h4=>(h q h4 p h2).2⟩
theorem zUS{l:List Pt}{k i:Nat}:mA (kQ l 0 1 i) (kP l 0 1 i) (kQ l 0 1 k) (kP l 0 1 k)=zGB l.length k i↔okT l 0 1 k i:=by
 unfold okT;rw[<-zJP,zDO]
end Bk
namespace Go.Proofs.YtboaboflnckgoaaGreat
open Bk Go Tryz
attribute [local irreducible] GL GC GQ W OpV
section
variable{w0:World}{h0:Mem}(hs:MLe h0 (mem w0))
include hs
theorem zKQ{k:Nat}{vl:Value}{l:(List Tq)}(rl:(tLs k).Is h0 vl l)(hcd0:k<=5000)(hcd1:l.length<=1000):
 Calls prog 168 #[vl] w0 (Ret w0 h0 (λ_ r=>r=vB (bG l 0 1))):=by
 refine cb1 69 vl func168 hs ?_;refine yGL ?_;refine cnd (λaa=>?_) λaa=>?_
 ·
  refine go7 ?_;refine zD I I ?_;exact(yV (λe=>by have:=e.1;omega)).symm
 refine go9 ?_;refine gcL (ι:=Nat×Mem) (λ(i,J)=>(MLe h0 J/\(i<=l.length/\zJQ (zW2 l) i),[(0,vl),(3,vI (↑(l).length:Int)),(4,vI ↑i)],[],J,l.length-i)) (0,h0) ?_ ?_
 · exact⟨mle,by omega,zS0⟩
 rintro⟨i,J⟩ ⟨ay,bn,hi2⟩
 refine yQ ?_;refine gc8 (λZ=>?_) λZ=>?_
 ·
  refine uQ ?_;refine gcL (ι:=Nat×Mem) (λ(q,mq)=>(MLe J mq/\(q<=i/\zQU (zW2 l) i q),[(0,vl),(3,vI (↑(l).length:Int)),(4,vI ↑i),(5,vI ↑q)],[],mq,i-q)) (0,J) ?_ ?_
  · exact⟨mle,by omega,zXR⟩
  rintro⟨q,mq⟩ ⟨ax,bm,M⟩
  refine yQ ?_;refine gc8 (λU=>?_) λU=>?_
  ·
   refine go6 ?_;refine zK 9 _ [] (zai 0 8 [(8,.c)]) yC nX zot nX (λr hr=>hr) (go2 ?_);refine wX I (xI zT i underlying46 zO rl) λbl av=>(wX I (xA zO av) λbk au=>(go2 ?_));refine wX I (xI zT q underlying46 zO rl) λbj ar=>(wX I (xA zO ar) λbi aq=>?_);refine w_c I (sC (ev2 I I) call193 (λw hs=>jB hs au aq oM) λac h1 bp ap=>?_);obtain rfl:ac=vB ((pr (l.getD i zT) 0 1)=(pr (l.getD q zT) 0 1)):=ap;refine gc2 (λG=>?_) λG=>?_
   ·
    refine zBY ?_;refine zD I I ?_;exact(yV (λe=>e.2.1 q i oM oM oM G.symm)).symm
   refine go7 ?_;refine qK (ι:=Mem) (λ(H:(Mem))=>MLe h1 H/\(True)) (λ(H:(Mem))=>[(0,vl),(3,vI (↑(l).length:Int)),(4,vI ↑i),(5,vI ↑q),(6,vI (zGB l.length q i))]) (λ(H:(Mem))=>[]) (λ(H:(Mem))=>H) ?_ ?_
   ·
    refine go6 ?_;refine gU 10 43 (vB (((↑i:Int)=((↑q:Int)+(1:Int)))\/(((↑q:Int)=(0:Int))/\((↑i:Int)=((↑(l).length:Int)-(1:Int)))))) ?_ ?_
    ·
     refine yD ((↑i:Int)=((↑q:Int)+(1:Int))) (λC=>?_) (λC=>?_)
     ·
      refine gT C I (uQ ?_);refine gqU ?_;exact y0e (vV C)
     refine gF C I (go4 ?_);refine gU 6 42 (vB (((↑q:Int)=(0:Int))/\((↑i:Int)=((↑(l).length:Int)-(1:Int))))) ?_ ?_
     ·
      refine yD ((↑q:Int)=(0:Int)) (λC=>?_) (λC=>?_)
      ·
       refine go1 ?_;refine gT C I (qG ?_);refine gqU ?_;exact y0e (xS C)
      refine go1 ?_;refine gF C I (go7 ?_);refine gqU ?_;exact y0e (xT C)
     refine go2 ?_;refine gqU ?_;exact y0e (vW C)
    refine gc2 (λO=>?_) λO=>?_
    ·
     refine go3 ?_;refine zS (h1) ?_ ⟨I,I,I,I,?_,y1i⟩ I I
     ·
      refine⟨MLe.refl _,?_⟩
      trivial
     · exact zbi (λz=>some (vI z)) (yBF oM)
    refine go1 ?_;refine zS (h1) ?_ ⟨I,I,I,I,?_,y1i⟩ I I
    ·
     refine⟨MLe.refl _,?_⟩
     trivial
    · exact zbi (λz=>some (vI z)) (yBG oM)
   rintro H ⟨aw,az⟩
   refine yQ ?_;refine go1 ?_;refine zK 25 _ [] (zai 0 22 [(23,.q),(22,.c),(24,.q)]) yC nX (wV zot) nX (λr hr=>hr) (go2 ?_);refine wX I (xI zT i underlying46 zO rl) λbh ao=>(wX I (xA zO ao) λbg an=>(go4 ?_));refine wK I (λ_ _=>wO I I oM oM) I (wX I (xI zT ((i+1)%l.length) underlying46 zO rl (hi:=by exact zcu _ oM)) λbf am=>(wX I (xA zO am) λbe ak=>(go2 ?_)));refine wX I (xI zT q underlying46 zO rl) λbd aj=>(wX I (xA zO aj) λbc ai=>(go4 ?_));refine wK I (λ_ _=>wO I I oM oM) I (wX I (xI zT ((q+1)%l.length) underlying46 zO rl (hi:=by exact zcu _ oM)) λbb ah=>(wX I (xA zO ah) λba ae=>(go1 ?_)));refine w_c I (sC (ev4 I I I I) call194 (λw hs=>zEF hs an ak ai ae oM) λab h2 bo ad=>?_);obtain rfl:ab=vI (mA (pr (l.getD i zT) 0 1) (pr (l.getD ((i+1)%l.length) zT) 0 1) (pr (l.getD q zT) 0 1) (pr (l.getD ((q+1)%l.length) zT) 0 1)):=ad;refine gc3 (λD=>?_) λD=>?_
   ·
    refine iV ?_;refine zD I I ?_;exact(yV (λe=>D (zUS.2 (e.2.2 q i oM oM oM)))).symm
   refine go8 ?_;refine gqL ((q+1),h2) ?_ ?_
   · exact⟨mle,by omega,zXS M ⟨λe=>G e.symm,zUS.1 (zdi D)⟩⟩
   omega
  refine qG ?_;refine gqL ((i+1),mq) ?_ ?_
  · exact⟨mle,by omega,zS1 hi2 M oM⟩
  omega
 have ei:i=l.length:=by omega
 have hT:=hi2;rw[ei] at hT;refine qG ?_;refine zD I I ?_;exact(xR (zX8 oM hT)).symm
theorem zIJ{k:Nat}{va:Value}{a:(List Tq)}(ra:(tLs k).Is h0 va a){vb:Value}{b:(List Tq)}(rb:(tLs k).Is h0 vb b)(hcd0:k<=5000)(hcd1:a.length<=1000)(hcd2:b.length<=1000):
 Calls prog 169 #[va,vb] w0 (Ret w0 h0 (λ_ r=>r=vB (gA a b 0 1))):=by
 refine cb2 45 va vb func169 hs ?_;refine uV ?_;refine gcL (ι:=Nat×Mem) (λ(p,D)=>(MLe h0 D/\(p<=a.length/\∀u v,u<p->v<b.length->¬dR a b 0 1 u v),[(0,va),(1,vb),(5,vI ↑p)],[],D,a.length-p)) (0,h0) ?_ ?_
 · exact⟨mle,by omega,λu v h=>by omega⟩
 rintro⟨p,D⟩ ⟨am,ay,H⟩
 refine yQ ?_;refine gc9 (λM=>?_) λM=>?_
 ·
  refine uQ ?_;refine gcL (ι:=Nat×Mem) (λ(q,O)=>(MLe D O/\(q<=b.length/\∀v,v<q->¬dR a b 0 1 p v),[(0,va),(1,vb),(5,vI ↑p),(6,vI ↑q)],[],O,b.length-q)) (0,D) ?_ ?_
  · exact⟨mle,by omega,λv h=>by omega⟩
  rintro⟨q,O⟩ ⟨ak,ax,G⟩
  refine yQ ?_;refine gc9 (λJ=>?_) λJ=>?_
  ·
   refine go5 ?_;refine zK 26 _ [] (zai 0 24 [(24,.c),(25,.q)]) yC nX (wV zot) nX (λr hr=>hr) (go2 ?_);refine wX I (xI zT p underlying46 zO ra) λaw aj=>(wX I (xA zO aj) λav ai=>(go4 ?_));refine w_q I (λh' L' hh hR=>uX underlying46 I (ra.up.mono hh)) I (wK I (λ_ _=>wO I I oM oM) I (wX I (xI zT ((p+1)%a.length) underlying46 zO ra (hi:=by exact zcu _ oM)) λau ah=>(wX I (xA zO ah) λar ae=>(go2 ?_))));refine wX I (xI zT q underlying46 zO rb) λaq ad=>(wX I (xA zO ad) λap ac=>(go4 ?_));refine w_q I (λh' L' hh hR=>uX underlying46 I (rb.up.mono hh)) I (wK I (λ_ _=>wO I I oM oM) I (wX I (xI zT ((q+1)%b.length) underlying46 zO rb (hi:=by exact zcu _ oM)) λao ab=>(wX I (xA zO ab) λan aa=>?_)));refine w_c I (sC (ev4 I I I I) call194 (λw hs=>zEF hs ai ae ac aa oM) λU h1 az Z=>?_);obtain rfl:U=vI (mA (pr (a.getD p zT) 0 1) (pr (a.getD ((p+1)%a.length) zT) 0 1) (pr (b.getD q zT) 0 1) (pr (b.getD ((q+1)%b.length) zT) 0 1)):=Z;refine gc3 (λC=>?_) λC=>?_
   ·
    refine iV ?_;refine zD I I ?_;exact(xR ⟨p,q,by omega,by omega,(zWR.1 C)⟩).symm
   refine go8 ?_;refine gqL ((q+1),h1) ?_ ?_
   · exact⟨mle,by omega,zT1 (n:=0) (Q:=dR a b 0 1) G (λe=>C (zWR.2 e))⟩
   omega
  refine qG ?_;refine gqL ((p+1),O) ?_ ?_
  · exact⟨mle,by omega,zRE H G oM⟩
  omega
 refine qG ?_;refine zD I I ?_;exact(yV (λ⟨u,v,h1,h2,h3⟩=>H u v oM h2 h3)).symm
theorem zKS{k:Nat}{vp:Value}{p:Tq}(rp:(tPt k).Is h0 vp p){vq:Value}{q:Tq}(rq:(tPt k).Is h0 vq q)(hcd0:k<=100000):
 Calls prog 196 #[vp,vq] w0 (Ret w0 h0 (λh r=>(tPt (2*k+2)).Is h r (T3.mk (zBS p.x q.x) (zBS p.y q.y) (0:Rat)))):=by
 refine cb2 16 vp vq func196 hs ?_;refine go2 ?_;refine nB rp λb2 ap M=>(nB rq λb3 ao J=>(nA (ρ:=(tPt (2*k+2))) (X:=zT) yM (xE (yE oM)) λb4 an O=>(go3 ?_)));refine zK 11 _ [] (zai 0 4 (zai 5 4 [(4,.c),(9,.c),(10,.q),(11,.t)])) yC nX (wV zot) nX (λr hr=>hr) (go1 ?_);refine wX I (xB yI (y2e pH) M) λv6 r6=>(go1 ?_);refine wX I (xB yI (y2e pH) J) λv8 r8=>(go1 ?_);refine wX I (xB yI (y3i pH) M) λaj ab=>(go1 ?_);refine wX I (xB yI (y3i pH) J) λai aa=>?_;refine w_c I (sC (ev2 I I) call38 (λw hs=>zEC hs r6 r8 oM) λv9 h1 am U=>?_);replace U:=Rp.Is.le U (Le.q (l:=2*k+2) oM);refine w_c I (sC (ev2 I I) call38 (λw hs=>zEC hs ab.up aa.up oM) λah h2 ak C=>?_);replace C:=Rp.Is.le C (Le.q (l:=2*k+2) oM);refine wX I (xV (ρ:=(tPt (2*k+2))) (wL (ps':=[(0,_),(1,_)]) underlying53 yM I I sizeOf26 e4z I (xE (yE oM)) (zC I (y2e (y1u _)) U.up (zC I (y3i (y1u _)) C zN)))) λae Z=>(yJ (A:=[]) I (uB sizeOf53 pH O Z) λac H=>(go3 ?_));refine xW (jA (t:=4) zO mh0 I H) ?_;intro ad D G;refine yG (λE S=>zQ I D E S) ?_;exact G
theorem zCI{k:Nat}{va:Value}{a:(List Tq)}(ra:(tLs k).Is h0 va a){vb:Value}{b:(List Tq)}(rb:(tLs k).Is h0 vb b)(hcd0:k<=2000)(hcd1:a.length<=1000)(hcd2:b.length<=1000):
 Calls prog 172 #[va,vb] w0 (Ret w0 h0 (λ_ r=>r=vI (wiZ a b 0 1))):=by
 refine cb2 32 va vb func172 hs ?_;refine oO ?_;refine gcL (ι:=Nat×Mem) (λ(m,ma)=>(MLe h0 ma/\(m<=b.length),[(0,va),(1,vb),(5,vI (rO a b 0 1 m)),(6,vI ↑m)],[],ma,b.length-m)) (0,h0) ?_ ?_
 · exact⟨mle,oM⟩
 rintro⟨m,ma⟩ ⟨ab,D⟩
 refine yQ ?_;have ak:=D;have aj:=nY a b 0 1 m;refine gc9 (λG=>?_) λG=>?_
 ·
  refine go5 ?_;refine zK 16 _ [] (zai 0 13 [(13,.c),(14,.c),(15,.q)]) yC nX (wV zot) nX (λr hr=>hr) (go3 ?_);refine wX I (xI zT m underlying46 zO rb) λai aa=>(wX I (xA zO aa) λah Z=>(go4 ?_));refine w_q I (λh' L' hh hR=>uX underlying46 I (rb.up.mono hh)) I (wK I (λ_ _=>wO I I oM oM) I (wX I (xI zT ((m+1)%b.length) underlying46 zO rb (hi:=by exact zcu _ oM)) λae U=>(wX I (xA zO U) λad O=>?_)));refine w_c I (sC (ev2 I I) call196 (λw hs=>zKS hs Z O oM) λac h1 an M=>?_);refine w_c I (sC (ev2 I I) call195 (λw hs=>zKT hs (ra.up.le (Le.s (Le.t (Le.q (l:=2*k+2) oM)))) M oM oM) λH h2 am J=>?_);obtain rfl:H=vI (w8 a (pr (T3.mk (zBS (b.getD m zT).x (b.getD ((m+1)%b.length) zT).x) (zBS (b.getD m zT).y (b.getD ((m+1)%b.length) zT).y) (0:Rat)) 0 1) 0 1):=J;refine gc3 (λC=>?_) λC=>?_
  ·
   refine uV ?_;refine gqL ((m+1),h2) ?_ ?_ (he:=⟨I,I,zbi (λz=>some (vI z)) (yBC (yAO _ _) C),I,y1i⟩)
   · exact⟨mle,oM⟩
   omega
  refine go8 ?_;refine gqL ((m+1),h2) ?_ ?_ (he:=⟨I,I,zbi (λz=>some (vI z)) (yBD (yAO _ _) C),I,y1i⟩)
  · exact⟨mle,oM⟩
  omega
 refine uV ?_;refine zD I I ?_;have em:m=b.length:=by omega
 subst em
 rfl
theorem zKR{k:Nat}{vL:Value}{L:(List (List Tq))}(rL:(tLL k).Is h0 vL L){f:Nat}(hcd0:f<L.length)(hcd1:L.length<=16)(hcd2:k<=2000)(hcd3:∀u,u<L.length->¬64<(gl L u).length):
 Calls prog 171 #[vL,vI ↑f] w0 (Ret w0 h0 (λ_ r=>r=vI (tD L 0 1 f L.length))):=by
 have M:=hcd3;refine cb2 55 vL (vI ↑f) func171 hs ?_;refine oO ?_;refine gcL (ι:=Nat×Mem) (λ(g,ma)=>(MLe h0 ma/\(g<=L.length),[(0,vL),(1,vI ↑f),(5,vI (tD L 0 1 f g)),(6,vI ↑g)],[],ma,L.length-g)) (0,h0) ?_ ?_
 · exact⟨mle,oM⟩
 rintro⟨g,ma⟩ ⟨ba,bx⟩
 refine yQ ?_;have bq:=zBL L 0 1 f g;refine gc9 (λJ=>?_) λJ=>?_
 ·
  refine go6 ?_;refine zK 24 _ [] (zai 0 4 ((4,.c)::(5,.c)::zai 6 10 (zai 17 5 [(16,.c),(22,.q),(23,.q)]))) yC nX (wV zot) nX (λr hr=>hr) (go2 ?_);refine wX I (xI [] g underlying115 uS rL) λbp aw=>(wX I (xA uS aw) λbo av=>?_);refine w_c I (sC (ev1 I) call170 (λw hs=>rM hs av oM (by first|omega|exact zci (z0e.1 (M _ oM)) dC|exact zci (hF _ oM) dC)) λbn h1 bw au=>?_);refine w_c I (sC (ev1 I) call17 (λw hs=>uK hs au dC) λZ h2 bv ar=>?_);obtain rfl:Z=vI (yW (uG (L.getD g []) 0 1 (L.getD g []).length)):=ar;have ay:=wB (uG (L.getD g []) 0 1 (L.getD g []).length);refine go2 ?_;refine fL ((yW (uG (L.getD g []) 0 1 (L.getD g []).length))<=(0:Int)) (λG=>?_) (λG=>?_)
  ·
   rw[xR G];refine rN ?_;refine w_c I (s4 I I I I (sN ?_));refine gqL ((g+1),h2) ?_ ?_ (he:=⟨I,I,zbi (λz=>some (vI z)) ((zae (λe=>absurd e.1.1 (Int.not_lt.2 zo3))).symm),I,y1i⟩)
   · exact⟨mle,oM⟩
   omega
  rw[yV G];refine yU I I I (λh' L' hh hR=>yY I) I (yU I I I (λh' L' hh hR=>yY I) I (oX I (xI [] g underlying115 uS rL) λbm aq=>(oX I (xA uS aq) λbl ap=>(yU I I I (λh' L' hh hR=>yY I) I (yU I I I (λh' L' hh hR=>yY I) I (oX I (xI [] f underlying115 uS rL) λbk ao=>(oX I (xA uS ao) λbj an=>(yU I I I (λh' L' hh hR=>yY I) I (yU I I I (λh' L' hh hR=>yY I) I (oX I (xI [] f underlying115 uS rL) λbi ak=>(oX I (xA uS ak) λbh aj=>(yU I I I (λh' L' hh hR=>uX underlying46 I (aj.mono hh)) I ?_))))))))))));refine w_c I (bH I I (sC (ev2 I I) call172 (λw hs=>zCI hs ap an oM (by first|omega|exact zci (z0e.1 (M _ oM)) dC|exact zci (hF _ oM) dC) (by first|omega|exact zci (z0e.1 (M _ oM)) dC|exact zci (hF _ oM) dC)) λU h3 bu am=>?_));obtain rfl:U=vI (wiZ (L.getD g []) (L.getD f []) 0 1):=am;have ax:=nY (L.getD g []) (L.getD f []) 0 1 (L.getD f []).length;refine gc4 (λC=>?_) λC=>?_
  ·
   refine go9 ?_;refine gqL ((g+1),h3) ?_ ?_ (he:=⟨I,I,zbi (λz=>some (vI z)) ((zae (λe=>C e.1.2)).symm),I,y1i⟩)
   · exact⟨mle,oM⟩
   omega
  refine go3 ?_;refine zK 16 _ [] (zai 0 7 (zai 8 4 [(7,.c),(12,.c),(13,.c),(14,.q),(15,.q)])) yC nX (wV zot) nX (λr hr=>hr) (go3 ?_);refine fL ((tD L 0 1 f g)<(0:Int)) (λD=>?_) (λD=>?_)
  ·
   rw[xR D];refine go8 ?_;refine w_c I (s4 I I I I ?_);refine w_c I (s4 I I I I ?_);refine w_c I (s4 I I I I (zBY ?_));refine gqL ((g+1),h3) ?_ ?_ (he:=⟨I,I,zbi (λz=>some (vI z)) ((zau ⟨⟨yui.1 zo3,zdi C⟩,.inl zo3⟩).symm),I,y1i⟩)
   · exact⟨mle,oM⟩
   omega
  rw[yV D];refine yU I I I (λh' L' hh hR=>yY I) I (yU I I I (λh' L' hh hR=>yY I) I (oX I (xI [] g underlying115 uS rL) λbg ai=>(oX I (xA uS ai) λbf ah=>(yU I I I (λh' L' hh hR=>yY I) I (yU I I I (λh' L' hh hR=>yY I) I (oX I (xI [] ((tD L 0 1 f g).toNat) underlying115 uS rL) λbd ad=>(oX I (xA uS ad) λbc ac=>?_)))))));refine w_c I (bH I I (sC (ev1 I) call170 (λw hs=>rM hs ah oM (by first|omega|exact zci (z0e.1 (M _ oM)) dC|exact zci (hF _ oM) dC)) λbe h4 bt ae=>?_));refine w_c I (bH I I (sC (ev1 I) call170 (λw hs=>rM hs ac.up oM (by first|omega|exact zci (z0e.1 (M _ oM)) dC|exact zci (hF _ oM) dC)) λbb h5 bs ab=>?_));refine w_c I (bH I I (sC (ev2 I I) call18 (λw hs=>fQ hs ae.up ab dC) λO h6 br aa=>?_));obtain rfl:O=vI (wQ (uG (L.getD g []) 0 1 (L.getD g []).length) (uG (L.getD ((tD L 0 1 f g).toNat) []) 0 1 (L.getD ((tD L 0 1 f g).toNat) []).length)):=aa;have az:=kR (uG (L.getD g []) 0 1 (L.getD g []).length) (uG (L.getD ((tD L 0 1 f g).toNat) []) 0 1 (L.getD ((tD L 0 1 f g).toNat) []).length);refine gc4 (λH=>?_) λH=>?_
  ·
   refine qG ?_;refine gqL ((g+1),h6) ?_ ?_ (he:=⟨I,I,zbi (λz=>some (vI z)) ((zau ⟨⟨yui.1 zo3,zdi C⟩,.inr H⟩).symm),I,y1i⟩)
   · exact⟨mle,oM⟩
   omega
  refine go8 ?_;refine gqL ((g+1),h6) ?_ ?_ (he:=⟨I,I,zbi (λz=>some (vI z)) ((zae (λe=>e.2.elim (λh=>absurd h zo3) H)).symm),I,y1i⟩)
  · exact⟨mle,oM⟩
  omega
 refine uV ?_;refine zD I I ?_;have eg:g=L.length:=by omega
 rw[eg]
end
set_option maxHeartbeats 2000000 in
theorem zGX{w0:World}{h0:Mem}(hs:MLe h0 (mem w0)){k:Nat}{vL:Value}{L:(List (List Tq))}(rL:(tLL k).Is h0 vL L)(hcd0:k<=2000)(hcd1:∀x,x∈L->pK x):
 Calls prog 123 #[vL] w0 (Ret w0 h0 (λh r=>∃u0,r=.tuple #[u0,vI (vS L 0 1)]/\(rpS rpI).Is h u0 (tK L 0 1))):=by
 have hF:=hcd1;refine cb1 133 vL func123 hs ?_;refine sN ?_;refine cnd (λbv=>?_) λbv=>?_
 ·
  refine go8 ?_;refine uA I I I ?_;refine⟨_,?_,(Rp.Is.cast (aC _) (by exact(show vS L 0 1=2/\tK L 0 1=[] from zIV (.inl oM)).2.symm))⟩;rw[(show vS L 0 1=2/\tK L 0 1=[] from zIV (.inl oM)).1]
 refine go9 ?_;refine gcL (ι:=Nat×Mem) (λ(q,ma)=>(MLe h0 ma/\(q<=L.length/\∀u,u<q->¬64<(gl L u).length),[(0,vL),(4,vI ↑q)],[],ma,L.length-q)) (0,h0) ?_ ?_
 · exact⟨mle,by omega,λu h=>by omega⟩
 rintro⟨q,ma⟩ ⟨ec,fc,bg⟩
 refine yQ ?_;refine gc9 (λbu=>?_) λbu=>?_
 ·
  refine go8 ?_;refine lX (xI [] q underlying115 uS rL) λeu da=>(lX (xA uS da) λes ev=>(gc4 (λbt=>?_) λbt=>?_))
  ·
   refine uV ?_;refine uA I I I ?_;refine⟨_,?_,(Rp.Is.cast (aC _) (by exact(show vS L 0 1=2/\tK L 0 1=[] from zIV (.inr ⟨q,by omega,(by show 64<(L.getD q []).length;omega)⟩)).2.symm))⟩;rw[(show vS L 0 1=2/\tK L 0 1=[] from zIV (.inr ⟨q,by omega,(by show 64<(L.getD q []).length;omega)⟩)).1]
  refine go8 ?_;refine gqL ((q+1),ma) ?_ ?_
  · exact⟨mle,by omega,qA (Q:=λu=>¬64<(gl L u).length) bg (by show ¬64<(L.getD q []).length;omega)⟩
  omega
 have D:∀u,u<L.length->¬64<(gl L u).length:=λu hu=>bg u oM;refine uV ?_;refine gcL (ι:=Nat×Mem) (λ(s,ms)=>(MLe ma ms/\(s<=L.length/\∀u,u<s->bG (gl L u) 0 1),[(0,vL),(5,vI ↑s)],[],ms,L.length-s)) (0,ma) ?_ ?_
 · exact⟨mle,by omega,λu h=>by omega⟩
 rintro⟨s,ms⟩ ⟨dx,fb,bf⟩
 refine yQ ?_;refine gc9 (λbs=>?_) λbs=>?_
 ·
  refine go8 ?_;refine lX (xI [] s underlying115 uS rL) λer cz=>(lX (xA uS cz) λeq cy=>(cL (ev1 I) call168 (λw hs=>zKQ hs cy oM (by first|omega|assumption|exact zci (z0e.1 (D _ oM)) dC)) λce h1 M cw=>?_));obtain rfl:ce=vB (bG (L.getD s []) 0 1):=cw;refine gc3 (λaa=>?_) λaa=>?_
  ·
   refine uV ?_;refine uA I I I ?_;refine⟨_,?_,(Rp.Is.cast (aC _) (by exact(show vS L 0 1=8/\tK L 0 1=[] from zU7 oM D ⟨s,by omega,aa⟩).2.symm))⟩;rw[(show vS L 0 1=8/\tK L 0 1=[] from zU7 oM D ⟨s,by omega,aa⟩).1]
  refine go8 ?_;refine gqL ((s+1),h1) ?_ ?_
  · exact⟨mle,by omega,qA (Q:=λu=>bG (gl L u) 0 1) bf (zdi aa)⟩
  omega
 have hS:∀u,u<L.length->bG (gl L u) 0 1:=λu hu=>bf u oM;refine uV ?_;refine gcL (ι:=Nat×Mem) (λ(c,mc)=>(MLe ms mc/\(c<=L.length/\∀u v,v<c->u<v->¬gA (gl L u) (gl L v) 0 1),[(0,vL),(6,vI ↑c)],[],mc,L.length-c)) (0,ms) ?_ ?_
 · exact⟨mle,by omega,λu v h=>by omega⟩
 rintro⟨c,mc⟩ ⟨eb,ed,ak⟩
 refine yQ ?_;refine gc9 (λbr=>?_) λbr=>?_
 ·
  refine uQ ?_;refine gcL (ι:=Nat×Mem) (λ(d,md)=>(MLe mc md/\(d<=c/\∀u,u<d->¬gA (gl L u) (gl L c) 0 1),[(0,vL),(6,vI ↑c),(7,vI ↑d)],[],md,c-d)) (0,mc) ?_ ?_
  · exact⟨mle,by omega,λu h=>by omega⟩
  rintro⟨d,md⟩ ⟨ea,ff,bl⟩
  refine yQ ?_;refine gc8 (λbq=>?_) λbq=>?_
  ·
   refine go5 ?_;refine zK 9 _ [] (zai 0 8 [(8,.c)]) yC nX zot nX (λr hr=>hr) (go2 ?_);refine wX I (xI [] c underlying115 uS rL) λep cu=>(wX I (xA uS cu) λeo ct=>(go2 ?_));refine wX I (xI [] d underlying115 uS rL) λen cq=>(wX I (xA uS cq) λem cp=>?_);refine w_c I (sC (ev2 I I) call169 (λw hs=>zIJ hs ct cp oM (by first|omega|assumption|exact zci (z0e.1 (D _ oM)) dC) (by first|omega|assumption|exact zci (z0e.1 (D _ oM)) dC)) λcd h1 M co=>?_);obtain rfl:cd=vB (gA (L.getD c []) (L.getD d []) 0 1):=co;refine gc2 (λZ=>?_) λZ=>?_
   ·
    refine zBY ?_;refine uA I I I ?_;refine⟨_,?_,(Rp.Is.cast (aC _) (by exact(show vS L 0 1=32/\tK L 0 1=[] from zPP oM D hS ⟨d,c,by omega,by omega,mW Z⟩).2.symm))⟩;rw[(show vS L 0 1=32/\tK L 0 1=[] from zPP oM D hS ⟨d,c,by omega,by omega,mW Z⟩).1]
   refine go8 ?_;refine gqL ((d+1),h1) ?_ ?_
   · exact⟨mle,by omega,qA (Q:=λu=>¬gA (gl L u) (gl L c) 0 1) bl (λe=>Z (mW e))⟩
   omega
  refine qG ?_;refine gqL ((c+1),md) ?_ ?_
  · exact⟨mle,by omega,zSZ ak bl oM⟩
  omega
 have hX:∀a b,b<L.length->a<b->¬gA (gl L a) (gl L b) 0 1:=λa b hb ha=>ak a b oM ha;refine oO ?_;refine xC 3 1 ?_;have au:=RL.nil (ρ:=rpI) (h:=mc);refine gcL (ι:=Nat×List Int×Value×List Value×Mem) (λ(f,H,C,G,mf)=>(MLe mc mf/\(RL rpI mf G H/\(f<=L.length/\H.length=f)/\∀u,u<f->H.getD u (0:Int)=pZ L 0 1 u),[(0,vL),(8,C),(9,vI ↑f)],[.gs 3 1 C H.length G],mf,L.length-f)) (0,([]:List Int),(.slice none 0 0),[],mc) ?_ ?_
 · exact⟨mle,au,⟨by omega,I⟩,λu h=>by omega⟩
 rintro⟨f,H,C,G,mf⟩ ⟨dz,J,⟨fe,bk⟩,ao⟩
 refine yQ ?_;refine gc9 (λbp=>?_) λbp=>?_
 ·
  refine go9 ?_;refine qK (ι:=Int×Mem) (λ(p,mp)=>MLe mf mp/\((-1<=p/\p<9223372036854775808)/\p=pZ L 0 1 f)) (λ(p,mp)=>[(0,vL),(8,C),(9,vI ↑f),(10,vI p)]) (λ(p,mp)=>[.gs 3 1 C H.length G]) (λ(p,mp)=>mp) ?_ ?_
  ·
   refine go4 ?_;refine lX (xI [] f underlying115 uS rL) λel cn=>(lX (xA uS cn) λek cm=>(cL (ev1 I) call170 (λw hs=>rM hs cm oM (by first|omega|assumption|exact zci (z0e.1 (D _ oM)) dC)) λej h1 M cl=>(cL (ev1 I) call17 (λw hs=>uK hs cl dC) λcc h2 an ck=>?_)));obtain rfl:cc=vI (yW (uG (L.getD f []) 0 1 (L.getD f []).length)):=ck;have dh:=wB (uG (L.getD f []) 0 1 (L.getD f []).length);refine gc3 (λae=>?_) λae=>?_
   ·
    refine go3 ?_;refine cL (ev2 I I) call171 (λw hs=>zKR (f:=f) hs rL.up (by first|omega|assumption|exact zci (z0e.1 (D _ oM)) dC) (by first|omega|assumption|exact zci (z0e.1 (D _ oM)) dC) oM (by first|omega|assumption|exact zci (z0e.1 (D _ oM)) dC)) λcb h3 bj cj=>?_;obtain rfl:cb=vI (tD L 0 1 f L.length):=cj;have di:=zBL L 0 1 f L.length;refine go2 ?_;refine zS ((tD L 0 1 f L.length),h3) ?_ e4z I I;refine⟨((M.trans an).trans bj),?_⟩;exact⟨⟨by omega,by omega⟩,yC9 ae⟩
   refine go1 ?_;refine zS ((-1:Int),h2) ?_ e4z I I;refine⟨(M.trans an),?_⟩;exact⟨⟨by omega,by omega⟩,yC8 hF (hS f oM) ae⟩
  rintro⟨p,mp⟩ ⟨dy,bm⟩
  refine yQ ?_;obtain⟨fd,bh⟩:=bm;refine go3 ?_;refine zF (zL (ρ:=rpI) (m:=1) (xs:=[p]) (ps':=[(0,_)]) underlying32 jJ I I I wN e2z (zC I (y1e (y1u _) (0:Int) 0 dC) (wA oM oM) zN) zoj nP) I I I ?_
  rintro ei ey ⟨ee,rfl,aw⟩
  refine zW (A:=[]) (ρ:=rpI) aw ?_;intro h1 M ar;refine xL (A:=[]) (yA (ρ:=rpI) (bytes:=8) underlying32 jJ I I I I nP I I J.up ar bO bO) I I I ?_
  rintro ca ew ⟨bw,rfl,av⟩
  refine go9 ?_;refine gqL ((f+1),(H++[p]),ca,bw,h1) ?_ ?_
  · exact⟨mle,av,⟨by omega,(zHH bk ao bh).1⟩,(zHH bk ao bh).2⟩
  omega
 have hO:∀u,u<L.length->H.getD u (0:Int)=pZ L 0 1 u:=λu hu=>ao u oM;have bi:H.length=L.length:=by omega
 refine uV ?_;refine gcL (ι:=Nat×Mem) (λ(v,am)=>(MLe mf am/\(v<=L.length/\∀a,a<v->¬oG L 0 1 a/\∀b,b<L.length->¬zBE L 0 1 a b),[(0,vL),(8,C),(11,vI ↑v)],[.gs 3 1 C H.length G],am,L.length-v)) (0,mf) ?_ ?_
 · exact⟨mle,by omega,λa h=>by omega⟩
 rintro⟨v,am⟩ ⟨dj,fa,ai⟩
 refine yQ ?_;refine gc9 (λbo=>?_) λbo=>?_
 ·
  refine go9 ?_;refine lX (xI [] v underlying115 uS rL) λeh ci=>(lX (xA uS ci) λeg ch=>(cL (ev1 I) call170 (λw hs=>rM hs ch oM (by first|omega|assumption|exact zci (z0e.1 (D _ oM)) dC)) λef h1 M cg=>(cL (ev1 I) call17 (λw hs=>uK hs cg dC) λbz h2 an cf=>?_)));obtain rfl:bz=vI (yW (uG (L.getD v []) 0 1 (L.getD v []).length)):=cf;have df:=wB (uG (L.getD v []) 0 1 (L.getD v []).length);refine gc3 (λU=>?_) λU=>?_
  ·
   refine go9 ?_;refine gqL ((v+1),h2) ?_ ?_
   · exact⟨mle,by omega,qA (Q:=λa=>¬oG L 0 1 a/\∀b,b<L.length->¬zBE L 0 1 a b) ai (yDG (yEI hF (hS v oM) U))⟩
   omega
  refine go8 ?_;refine gcL (ι:=Nat×Mem) (λ(w,mw)=>(MLe h2 mw/\((w<=L.length/\(0<w->¬oG L 0 1 v))/\∀b,b<w->¬zBE L 0 1 v b),[(0,vL),(8,C),(11,vI ↑v),(12,vI ↑w)],[.gs 3 1 C H.length G],mw,L.length-w)) (0,h2) ?_ ?_
  · exact⟨mle,⟨by omega,λh=>by omega⟩,λb h=>by omega⟩
  rintro⟨w,mw⟩ ⟨dw,⟨ez,db⟩,ah⟩
  refine yQ ?_;refine gc9 (λbn=>?_) λbn=>?_
  ·
   refine go5 ?_;refine zK 33 _ [] (zai 0 29 [(29,.c),(30,.q),(31,.q),(32,.q)]) yC nX (wV zot) nX (λr hr=>hr) (go2 ?_);refine w_q I (λh' L' hh hR=>(yZ v (hR _ mh0) underlying32 sizeOf3 I I I bO nP).cv (show _=zM 1 C ((v*1+0)) from zbi (zM 1 C) zo0)) I (lJ (F:=λv_=>rpI.Is mw v_ (H.getD v (0:Int))) I (vH ty3 (y1e (y1u _) (0:Int) v bO) I nP I J.up I) (sL mh0) I ?_);intro dv be;obtain⟨rfl,dm,de⟩:=kF be;refine go2 ?_;refine fL ((H.getD v (0:Int))<(0:Int)) (λad=>?_) (λad=>?_)
   ·
    rw[xR ad];refine go23 ?_;refine w_c I (yCZ I I I (go22 ?_));refine uA I I I ?_;refine⟨_,?_,(Rp.Is.cast (aC _) (by exact(show vS L 0 1=33/\tK L 0 1=[] from zC6 oM D hS hX (.inl ⟨v,by omega,zP4 U (hO v oM) zo3⟩)).2.symm))⟩;rw[(show vS L 0 1=33/\tK L 0 1=[] from zC6 oM D hS hX (.inl ⟨v,by omega,zP4 U (hO v oM) zo3⟩)).1]
   rw[yV ad];refine yU I I I (λh' L' hh hR=>yY I) I (yU I I I (λh' L' hh hR=>yY I) I (go1 ?_));refine yU I I I (λh' L' hh hR=>yY I) I ?_;refine fL ((↑w:Int)≠(↑v:Int)) (λac=>?_) (λac=>?_)
   ·
    rw[xR ac];refine yU I I I (λh' L' hh hR=>yY I) I (yU I I I (λh' L' hh hR=>yY I) I (yU I I I (λh' L' hh hR=>(yZ w (hR _ mh0) underlying32 sizeOf3 I I I bO nP).cv (show _=zM 1 C ((w*1+0)) from zbi (zM 1 C) zo0)) I (aL (F:=λv_=>rpI.Is mw v_ (H.getD w (0:Int))) I I I (vH ty3 (y1e (y1u _) (0:Int) w bO) I nP I J.up I) (sL mh0) I ?_)));intro du bd;obtain⟨rfl,dl,dd⟩:=kF bd;refine yU I I I (λh' L' hh hR=>yY I) I (yU I I I (λh' L' hh hR=>yY I) I (yU I I I (λh' L' hh hR=>(yZ v (hR _ mh0) underlying32 sizeOf3 I I I bO nP).cv (show _=zM 1 C ((v*1+0)) from zbi (zM 1 C) zo0)) I (aL (F:=λv_=>rpI.Is mw v_ (H.getD v (0:Int))) I I I (vH ty3 (y1e (y1u _) (0:Int) v bO) I nP I J.up I) (sL mh0) I ?_)));intro dt bc;obtain⟨rfl,dk,dc⟩:=kF bc;refine go2 ?_;refine yU I I I (λh' L' hh hR=>yY I) I ?_;refine fL ((H.getD w (0:Int))=(H.getD v (0:Int))) (λab=>?_) (λab=>?_)
    ·
     rw[xR ab];refine yU I I I (λh' L' hh hR=>yY I) I (yU I I I (λh' L' hh hR=>yY I) I (oX I (xI [] w underlying115 uS rL) λdr bb=>(oX I (xA uS bb) λdq ba=>(yU I I I (λh' L' hh hR=>yY I) I (yU I I I (λh' L' hh hR=>yY I) I (oX I (xI [] v underlying115 uS rL) λdp az=>(oX I (xA uS az) λdn ay=>?_)))))));refine w_c I (bH I I (sC (ev2 I I) call172 (λw hs=>zCI hs ba ay oM (by first|omega|assumption|exact zci (z0e.1 (D _ oM)) dC) (by first|omega|assumption|exact zci (z0e.1 (D _ oM)) dC)) λap h3 bj ax=>?_));obtain rfl:ap=vI (wiZ (L.getD w []) (L.getD v []) 0 1):=ax;have bx:=nY (L.getD w []) (L.getD v []) 0 1 (L.getD v []).length;refine gc5 (λO=>?_) λO=>?_
     ·
      have aj:zBE L 0 1 v w:=⟨⟨⟨by omega,by have:=zAI (hO v oM) zo3;rw[<-hO v oM];omega⟩,by rw[<-hO w oM,<-hO v oM];assumption⟩,O⟩;refine zBY ?_;refine uA I I I ?_;refine⟨_,?_,(Rp.Is.cast (aC _) (by exact(show vS L 0 1=33/\tK L 0 1=[] from zC6 oM D hS hX (.inr ⟨v,w,by omega,by omega,aj⟩)).2.symm))⟩;rw[(show vS L 0 1=33/\tK L 0 1=[] from zC6 oM D hS hX (.inr ⟨v,w,by omega,by omega,aj⟩)).1]
     refine go8 ?_;refine gqL ((w+1),h3) ?_ ?_
     · exact⟨mle,⟨by omega,λ_=>zAI (hO v oM) zo3⟩,qA (Q:=λb=>¬zBE L 0 1 v b) ah (λe=>O e.2)⟩
     omega
    rw[yV ab];refine go8 ?_;refine w_c I (s4 I I I I (sN ?_));refine gqL ((w+1),mw) ?_ ?_
    · exact⟨mle,⟨by omega,λ_=>zAI (hO v oM) zo3⟩,qA (Q:=λb=>¬zBE L 0 1 v b) ah (λe=>absurd e.1.2 (by rw[<-hO w oM,<-hO v oM];assumption))⟩
    omega
   rw[yV ac];refine uQ ?_;refine yU I I I (λh' L' hh hR=>yY I) I (go8 ?_);refine w_c I (s4 I I I I (sN ?_));refine gqL ((w+1),mw) ?_ ?_
   · exact⟨mle,⟨by omega,λ_=>zAI (hO v oM) zo3⟩,qA (Q:=λb=>¬zBE L 0 1 v b) ah (λe=>absurd e.1.1.1 oM)⟩
   omega
  refine qG ?_;refine gqL ((v+1),mw) ?_ ?_
  · exact⟨mle,by omega,qA (Q:=λa=>¬oG L 0 1 a/\∀b,b<L.length->¬zBE L 0 1 a b) ai ⟨db oM,λb hb=>ah b oM⟩⟩
  omega
 have hB:∀a b,a<L.length->b<L.length->¬zBE L 0 1 a b:=λa b ha hb=>(ai a oM).2 b hb;have hL:∀a,a<L.length->¬oG L 0 1 a:=λa ha=>(ai a oM).1;refine rN ?_;refine xP (A:=[]) (ρ:=rpI) J.up ?_;intro h1 M aq;refine uA I I I ?_;refine⟨_,?_,(Rp.Is.cast aq (by exact(show vS L 0 1=0/\tK L 0 1=H from zU8 oM D hS hX hL hB bi hO).2.symm))⟩;rw[(show vS L 0 1=0/\tK L 0 1=H from zU8 oM D hS hX hL hB bi hO).1]
end Go.Proofs.YtboaboflnckgoaaGreat
namespace Bk
open Classical
def ag(x p y q:Rat)(u:PI):P2:=(x+p*(u.1:Rat),y+q*(u.2:Rat))
theorem zHP{x p:Rat}{u v:Int}(hp:0<p):x+p*(u:Rat)<x+p*(v:Rat)↔u<v:=by
 constructor
 · intro h
   refine yui.1 λe=>?_;have h1:(v:Rat)<=(u:Rat):=Rat.intCast_le_intCast.2 e;have h2:=Rat.mul_le_mul_of_nonneg_left h1 (Rat.le_of_lt hp);grind
 · intro h
   have h1:(u:Rat)<(v:Rat):=yce.2 h;have h2:=Rat.mul_lt_mul_of_pos_left h1 hp;grind
theorem zO1{x p:Rat}{u v:Int}(hp:0<p):x+p*(u:Rat)=x+p*(v:Rat)↔u=v:=by
 constructor
 · intro h
   rcases Int.lt_trichotomy u v with h1|h1|h1
   · have:=(zHP (x:=x) hp).2 h1;grind
   · exact h1
   · have:=(zHP (x:=x) hp).2 h1;grind
 · rintro rfl;rfl
variable {x p y q:Rat}
theorem yA6(u v w:PI):cr (ag x p y q u) (ag x p y q v) (ag x p y q w)=p*q*((crI u v w:Int):Rat):=by
 unfold cr ag crI;simp only[z7i,zsu];grind
theorem tM(hp:0<p)(hq:0<q):0<p*q:=by
 have:=Rat.mul_lt_mul_of_pos_left hq hp;grind
theorem zXH(hp:0<p)(hq:0<q)(u v w:PI):orZ (ag x p y q u) (ag x p y q v) (ag x p y q w)=orI u v w:=by
 unfold orZ orI;rw[yA6,oW (tM hp hq),t6]
 rfl
theorem yA4(hp:0<p)(hq:0<q)(u v:PI):lx (ag x p y q u) (ag x p y q v)↔lxI u v=true:=by
 unfold lx lxI;rw[zhi];unfold ag;simp only[zHP hp,zHP hq,zO1 hp]
theorem yA5(hp:0<p)(hq:0<q)(u v:PI):ag x p y q u=ag x p y q v↔u=v:=by
 obtain⟨D,C⟩:=u;obtain⟨v1,v2⟩:=v;unfold ag;rw[Prod.mk.injEq,Prod.mk.injEq,zO1 hp,zO1 hq]
theorem yA7{a b c d:Int}(hp:0<p):jQ (x+p*(a:Rat)) (x+p*(b:Rat)) (x+p*(c:Rat)) (x+p*(d:Rat))↔apI a b c d=true:=by
 unfold jQ apI;rw[zhi];simp only[zHP hp]
theorem zXJ{c:Prop} [Decidable c](u v:PI):(if c then ag x p y q u else ag x p y q v)=ag x p y q (if c then u else v):=by split<;>rfl
theorem yGZ(hp:0<p)(hq:0<q)(a b c d:PI):oB (ag x p y q a) (ag x p y q b) (ag x p y q c) (ag x p y q d)=alS a b c d:=by
 unfold oB alS;simp only[yA4 hp hq,zXJ,yA5 hp hq]
theorem zL6(hp:0<p)(hq:0<q)(a b c d:PI):fH (ag x p y q a) (ag x p y q b) (ag x p y q c) (ag x p y q d)=toI a b c d:=by
 have D:jQ (ag x p y q a).1 (ag x p y q b).1 (ag x p y q c).1 (ag x p y q d).1↔apI a.1 b.1 c.1 d.1=true:=yA7 hp;have C:jQ (ag x p y q a).2 (ag x p y q b).2 (ag x p y q c).2 (ag x p y q d).2↔apI a.2 b.2 c.2 d.2=true:=yA7 hq;unfold fH toI aK alI lo2 hi2;simp only[zXH hp hq,D,C,yA4 hp hq,zXJ,yGZ hp hq]
def gI(s:List PI)(m:Nat):PI:=s.getD m (0,0)
def zQ4(s:List PI):Bool:=decide (3<=s.length)&&(List.range s.length).all λb=>(List.range b).all λa=>!decide (gI s a=gI s b)&&decide (toI (gI s a) (gI s ((a+1)%s.length)) (gI s b) (gI s ((b+1)%s.length))=waI s.length a b)
theorem zD4(hp:0<p)(hq:0<q){l:List Pt}{s:List PI}(hl:l.length=s.length)(h:∀m,m<s.length->pr (gp l m) 0 1=ag x p y q (gI s m))(hb:zQ4 s=true):bG l 0 1:=by
 unfold zQ4 at hb;rw[zbu,zhi,zob] at hb;obtain⟨h3,hb⟩:=hb;have g:∀a b,a<b->b<s.length->¬gI s a=gI s b/\toI (gI s a) (gI s ((a+1)%s.length)) (gI s b) (gI s ((b+1)%s.length))=waI s.length a b:=λa b C D=>by
  have h1:=zob.1 (hb b (zog.2 D)) a (zog.2 C);rw[zbu,zje,zgu,zhi] at h1;exact h1
 refine⟨by omega,λa b H C G=>?_,λa b H C G=>?_⟩
 · show ¬pr (gp l a) 0 1=pr (gp l b) 0 1
   rw[h a zos,h b zos,yA5 hp hq];exact(g a b C zos).1
 · show fH (kQ l 0 1 a) (kP l 0 1 a) (kQ l 0 1 b) (kP l 0 1 b)=zGB l.length a b
   unfold kQ kP;rw[hl,h a zos,h b zos,h _ (zcu _ zos),h _ (zcu _ zos),zL6 hp hq];exact(g a b C zos).2
theorem zEP{P:List Pt}(hs:bG P 0 1)(hl:P.length<=64)(ha:0<yW (arZ P 0 1)):vS [P] 0 1=0:=by
 have D:∀m,m<[P].length->gl [P] m=P:=λm C=>by
  rw[show m=0 by rw[zju] at C;omega];rfl
 unfold vS;rw[zae (λe=>by
  rcases e with e|⟨m,C,e⟩
  · rw[zju] at e;omega
  · rw[D m C] at e;omega),zae (λe=>by
  obtain⟨m,C,e⟩:=e;rw[D m C] at e;exact e hs),zae (λe=>by
  obtain⟨a,b,G,hb,_⟩:=e;rw[zju] at hb;omega),zae (λe=>by
  rcases e with⟨k,hk,e⟩|⟨a,b,ha',hb',e⟩
  · rw[oG,D k hk] at e;exact e.1 ha
  · rw[zju] at ha' hb'
    exact e.1.1.1 zos)]
variable {x y X Y:Rat}
def oneI(p:Prop):Int:=if p then 1 else 0
variable {l1 h1 l2 h2 l3 h3:Rat}
def zHX(p q:Pt):Prop:=p.x=q.x/\p.y=q.y
def iW(B:List Pt)(p:Pt):Nat->Int
  |0=>-1
  |j+1=>if zHX (B.getD j zT) p then(j:Int) else iW B p j
theorem zFA(B:List Pt)(p:Pt):∀j,-1<=iW B p j/\iW B p j<j\/(j=0/\iW B p j= -1)
  |0=>.inr ⟨rfl,rfl⟩
  |j+1=>by
   have h:=zFA B p j;unfold iW
   split
   · exact .inl zos
   · exact .inl zos
theorem fd_t{B:List Pt}{p:Pt}{j:Nat}(h:zHX (B.getD j zT) p):(j:Int)=iW B p (j+1):=(zau h).symm
theorem yEL{B:List Pt}{p:Pt}{j:Nat}(h:¬zHX (B.getD j zT) p):iW B p j=iW B p (j+1):=(zae h).symm
def fdZ(B:List Pt)(p:Pt):Int:=iW B p B.length
def adB(B:List Pt)(p:Pt):List Pt:=if fdZ B p<0 then B++[p] else B
def adN(B:List Pt)(p:Pt):Int:=if fdZ B p<0 then(B.length:Int) else fdZ B p
def plB(B:List Pt)(x:List Pt):Nat->List Pt
  |0=>B
  |k+1=>adB (plB B x k) (x.getD k zT)
def plN(B:List Pt)(x:List Pt):Nat->List Int:=uD λk=>adN (plB B x k) (x.getD k zT)
def ptB(L:List (List Pt)):Nat->List Pt
  |0=>[]
  |i+1=>plB (ptB L i) (L.getD i []) (L.getD i []).length
def ptN(L:List (List Pt)):Nat->List (List Int):=uD λi=>plN (ptB L i) (L.getD i []) (L.getD i []).length
def oP(L:List (List Pt)):Nat->Nat
  |0=>0
  |i+1=>oP L i+(L.getD i []).length
theorem yAA(B:List Pt)(p:Pt):(adB B p).length<=B.length+1:=by
 unfold adB;split
 · rw[lAz,zju];exact zbe _
 · omega
theorem zH7(B x:List Pt):∀k,(plB B x k).length<=B.length+k
  |0=>zbe _
  |k+1=>by
   have h1:=zH7 B x k;have h2:=yAA (plB B x k) (x.getD k zT)
   show(adB _ _).length<=_
   omega
theorem zH5(L:List (List Pt)):∀i,(ptB L i).length<=oP L i
  |0=>zbe _
  |i+1=>by
   have h1:=zH5 L i;have h2:=zH7 (ptB L i) (L.getD i []) (L.getD i []).length
   show(plB _ _ _).length<=oP L i+_
   omega
theorem zWL{L:List (List Pt)}(h:∀m,m<L.length->(L.getD m []).length<=64):∀i,i<=L.length->oP L i<=64*i
  |0,_=>zbe _
  |i+1,hi=>by
   have h1:=zWL h i zos;have h2:=h i zos
   show oP L i+_<=_
   omega
theorem zY3{L:List (List Pt)}(h:vS L 0 1=0):L.length<=16/\∀m,m<L.length->(L.getD m []).length<=64:=by
 unfold vS at h
 split at h
 · omega
 · rename_i h1
   exact⟨z0e.1 λe=>h1 (.inl e),λm C=>z0e.1 λe=>h1 (.inr ⟨m,C,e⟩)⟩
section
variable (L:List (List Pt))(lo hi:Rat)
def bsZ:List Pt:=ptB L L.length
def bxZ:List (List Int):=ptN L L.length
def zRG:Nat->List Pt:=uD λi=>T3.mk ((bsZ L).getD (i%(bsZ L).length) zT).x ((bsZ L).getD (i%(bsZ L).length) zT).y (if((bsZ L).length:Int)<=(i:Int) then hi else lo)
def ppZ:List Pt:=zRG L lo hi (2*(bsZ L).length)
def zW5:Nat->List (List Int):=uD λi=>zJ3 ((bxZ L).getD i []) ((bxZ L).getD i []).length
def tpL(i:Nat):Nat->List Int:=uD λk=>((bxZ L).getD i []).getD k 0+((bsZ L).length:Int)
def zS2:Nat->List (List Int):=uD λi=>tpL L i ((bxZ L).getD i []).length
def nmS(i k:Nat):List Nat:=[115]++qF (((i:Int):Int):Rat)++[46]++qF (((k:Int):Int):Rat)
def sdA(i k:Nat):Int:=((bxZ L).getD i []).getD k 0
def sdB(i k:Nat):Int:=((bxZ L).getD i []).getD ((k+1)%((bxZ L).getD i []).length) 0
def sdN(i k:Nat):Pt:=T3.mk (((ppZ L lo hi).getD (sdB L i k).toNat zT).y-((ppZ L lo hi).getD (sdA L i k).toNat zT).y) (-(((ppZ L lo hi).getD (sdB L i k).toNat zT).x-((ppZ L lo hi).getD (sdA L i k).toNat zT).x)) (0:Rat)
def sdF(i k:Nat):Fc:=((sdN L lo hi i k,vZ (sdN L lo hi i k) ((ppZ L lo hi).getD (sdA L i k).toNat zT)),[[sdA L i k,sdB L i k,sdB L i k+((bsZ L).length:Int),sdA L i k+((bsZ L).length:Int)]],nmS i k)
def sfX(i:Nat):Nat->List Fc:=uD λk=>sdF L lo hi i k
def zJZ:Nat->List Fc:=jY λi=>sfX L lo hi i ((bxZ L).getD i []).length
def btF:Fc:=((T3.mk (0:Rat) (0:Rat) (-((1:Int):Rat)),-lo),zW5 L (bxZ L).length,[98,111,116,116,111,109])
def tpF:Fc:=((T3.mk (0:Rat) (0:Rat) ((1:Int):Rat),hi),zS2 L (bxZ L).length,[116,111,112])
def prR:Sd:=(ppZ L lo hi,zJZ L lo hi (bxZ L).length++[btF L lo,tpF L hi],[])
def prB:Prop:=512<2*(bsZ L).length\/256<oP L L.length+2
def prE:Int:=if ¬vS L 0 1=0 then vS L 0 1 else if ¬ouZ L=1 then 33 else if 0<=wQ lo hi then 9 else if prB L then 2 else 0
def prP:List Pt:=if prE L lo hi=0 then nrP (prR L lo hi) else[]
def prF:List Fc:=if prE L lo hi=0 then nrF (prR L lo hi) else[]
end
section
variable {L:List (List Pt)}{lo hi:Rat}
theorem yF3(h1:vS L 0 1=0)(h2:ouZ L=1)(h3:¬0<=wQ lo hi)(h4:¬prB L):prE L lo hi=0/\prP L lo hi=nrP (prR L lo hi)/\prF L lo hi=nrF (prR L lo hi):=by
 have e:prE L lo hi=0:=by unfold prE;rw[zae (λe=>e h1),zae (λe=>e h2),zae h3,zae h4]
 exact⟨e,zau e,zau e⟩
theorem zPF{n:Int}(h:prE L lo hi=n)(hn:¬n=0):prE L lo hi=n/\prP L lo hi=[]/\prF L lo hi=[]:=⟨h,zae (by rw[h];exact hn),zae (by rw[h];exact hn)⟩
theorem pr_1(h1:¬vS L 0 1=0):prE L lo hi=vS L 0 1/\prP L lo hi=[]/\prF L lo hi=[]:=zPF (zau h1) h1
theorem yF2(h1:vS L 0 1=0)(h2:¬ouZ L=1):prE L lo hi=33/\prP L lo hi=[]/\prF L lo hi=[]:=zPF (by unfold prE;rw[zae (λe=>e h1),zau h2]) zov
theorem pr_9(h1:vS L 0 1=0)(h2:ouZ L=1)(h3:0<=wQ lo hi):prE L lo hi=9/\prP L lo hi=[]/\prF L lo hi=[]:=zPF (by unfold prE;rw[zae (λe=>e h1),zae (λe=>e h2),zau h3]) zov
theorem pr_2(h1:vS L 0 1=0)(h2:ouZ L=1)(h3:¬0<=wQ lo hi)(h4:prB L):prE L lo hi=2/\prP L lo hi=[]/\prF L lo hi=[]:=zPF (by unfold prE;rw[zae (λe=>e h1),zae (λe=>e h2),zae h3,zau h4]) zov
theorem zSP(B:List Pt)(p:Pt):0<=adN B p/\adN B p<(adB B p).length:=by
 have h:=zFA B p B.length;unfold adN adB fdZ
 split
 · rw[lAz,zju];omega
 · omega
theorem yFI(B:List Pt)(p:Pt):B.length<=(adB B p).length:=by
 unfold adB;split
 · rw[lAz];omega
 · omega
theorem zUI(B x:List Pt){k n:Nat}(h:k<=n):(plB B x k).length<=(plB B x n).length:=by
 induction n with
 |zero=>rw[show k=0 by omega];exact zbe _
 |succ n ih=>
  rcases ztu k (n+1) with h1|h1
  · exact zci (ih zos) (yFI _ _)
  · rw[show k=n+1 by omega];exact zbe _
theorem yC6{i n:Nat}(h:i<=n):(ptB L i).length<=(ptB L n).length:=by
 induction n with
 |zero=>rw[show i=0 by omega];exact zbe _
 |succ n ih=>
  rcases ztu i (n+1) with h1|h1
  · exact zci (ih zos) (zUI (ptB L n) (L.getD n []) (k:=0) (zqe _))
  · rw[show i=n+1 by omega];exact zbe _
theorem yE5:(bxZ L).length=L.length:=xH _ _
theorem zWY{i:Nat}(h:i<L.length):(bxZ L).getD i []=plN (ptB L i) (L.getD i []) (L.getD i []).length:=kA _ _ h
theorem zJE{i:Nat}(h:i<L.length):((bxZ L).getD i []).length=(L.getD i []).length:=by rw[zWY h];exact xH _ _
theorem zL3{i k:Nat}(h:i<L.length)(hk:k<((bxZ L).getD i []).length):0<=((bxZ L).getD i []).getD k 0/\((bxZ L).getD i []).getD k 0<↑(bsZ L).length:=by
 rw[zJE h] at hk;rw[zWY h];unfold plN;rw[kA _ _ hk];obtain⟨h1,h2⟩:=zSP (plB (ptB L i) (L.getD i []) k) ((L.getD i []).getD k zT);have h3:=zUI (ptB L i) (L.getD i []) (show k+1<=(L.getD i []).length from hk);have H:=yC6 (L:=L) (show i+1<=L.length from h);have G:(plB (ptB L i) (L.getD i []) (k+1)).length=(adB (plB (ptB L i) (L.getD i []) k) ((L.getD i []).getD k zT)).length:=I;have D:(ptB L (i+1)).length=(plB (ptB L i) (L.getD i []) (L.getD i []).length).length:=I;have C:(bsZ L).length=(ptB L L.length).length:=I;exact⟨h1,by omega⟩
theorem zM1:(ppZ L lo hi).length=2*(bsZ L).length:=xH _ _
theorem zTI{n:Nat}(hn:n<=L.length):(zJZ L lo hi n).length=oP L n:=by
 induction n with
 |zero=>rfl
 |succ n ih=>
  show List.length (zJZ L lo hi n++sfX L lo hi n ((bxZ L).getD n []).length)=oP L n+_
  rw[lAz,ih zos,show(sfX L lo hi n ((bxZ L).getD n []).length).length=_ from xH _ _,zJE zos]
end
def oS{α:Type}(f:α->α)(d:α)(A:List α):Nat->List α
  |0=>A
  |k+1=>(oS f d A k).set k (f ((oS f d A k).getD k d))
theorem iD{α:Type}(f:α->α)(d:α)(A:List α):∀k,(oS f d A k).length=A.length
  |0=>rfl
  |k+1=>by
   show List.length (List.set _ _ _)=_
   rw[lS];exact iD f d A k
theorem zDL{α:Type}(f:α->α)(d:α)(A:List α):∀k i,i<A.length->(oS f d A k).getD i d=if i<k then f (A.getD i d) else A.getD i d
  |0,i,_=>rfl
  |k+1,i,h=>by
   show(List.set _ k _).getD i d=_
   rw[zoa,ypu]
   split
   · rename_i e
     subst e;rw[zau (by rw[iD];exact h),zau zos,zDL f d A k k h,zae zos];rfl
   · rename_i e
     rw[<-zoa,zDL f d A k i h]
     by_cases h1:i<k
     · rw[zau h1,zau zos]
     · rw[zae h1,zae zos]
theorem zXQ{α:Type}(f:α->α)(d:α)(A:List α):oS f d A A.length=A.map f:=by
 refine yre (by rw[iD,zde]) λi h1 h2=>?_;rw[iD] at h1;have:=zDL f d A A.length i h1;rw[zau h1,zoa,zoc (by rw[iD];exact h1)] at this;rw[zoa,zoc h1] at this;rw[List.getElem_map];exact this
def rnN(n:List Nat):List Nat:=if n=[98,111,116,116,111,109] then[122,48] else if n=[116,111,112] then[122,49] else if n=[115,48,46,48] then[121,48] else if n=[115,48,46,49] then[120,49] else if n=[115,48,46,50] then[121,49] else if n=[115,48,46,51] then[120,48] else n
def rnF(f:Fc):Fc:=(f.1,(f.2.1,rnN f.2.2))
theorem zMF{F F0:List Fc}{i:Nat}{nm:List Nat}(hF:F=oS rnF zA F0 i)(h:rnN (F.getD i zA).2.2=nm):F.set i ((F.getD i zA).1,((F.getD i zA).2.1,nm))=oS rnF zA F0 (i+1):=by
 subst hF;subst h;rfl
theorem yFN{F F0:List Fc}{i:Nat}(hF:F=oS rnF zA F0 i)(h:rnN (F.getD i zA).2.2=(F.getD i zA).2.2)(hi:i<F.length):F=oS rnF zA F0 (i+1):=by
 rw[<-zMF hF h]
 show F=F.set i (F.getD i zA)
 rw[zoa,zoc hi];exact(List.set_getElem_self hi).symm
section
variable (a b:Pt)
def oQ:Prop:=∀u,u<3->¬0<=wQ (a.at u) (b.at u)
def blL:List (List Pt):=[[T3.mk a.x a.y (0:Rat),T3.mk b.x a.y (0:Rat),T3.mk b.x b.y (0:Rat),T3.mk a.x b.y (0:Rat)]]
def blG:List Fc:=oS rnF zA (prF (blL a b) a.z b.z) (prF (blL a b) a.z b.z).length
def blS:Sd:=(prP (blL a b) a.z b.z,blG a b,[])
def blP:List Pt:=if oQ a b then nrP (blS a b) else[]
def blF:List Fc:=if oQ a b then nrF (blS a b) else[]
def blE:Int:=if oQ a b then prE (blL a b) a.z b.z else 9
def blH:Prop:=(∀x,x∈blL a b->pK x)/\(prE (blL a b) a.z b.z=0->okS (prR (blL a b) a.z b.z))/\okS (blS a b)
end
theorem zYS{L:List (List Pt)}{lo hi:Rat}(h:prE L lo hi=0->okS (prR L lo hi)):(prF L lo hi).length<=1000:=by
 unfold prF
 split
 · rename_i h0
   unfold nrF
   split
   · rw[zNZ];exact(h h0).1.1.2
   · exact zqe _
 · exact zqe _
theorem bl_9{a b:Pt}(h:¬oQ a b):blE a b=9/\blP a b=[]/\blF a b=[]:=⟨zae h,zae h,zae h⟩
theorem zZ4{a b:Pt}(h:oQ a b):blE a b=prE (blL a b) a.z b.z/\blP a b=nrP (blS a b)/\blF a b=nrF (blS a b):=⟨zau h,zau h,zau h⟩
theorem zQA{B:List Pt}{p:Pt}:∀j,(∀i,i<j->¬zHX (B.getD i zT) p)->iW B p j= -1
  |0,_=>rfl
  |j+1,h=>by
   rw[<-yEL (h j zos)];exact zQA j λi hi=>h i zos
theorem yFH{B:List Pt}{p:Pt}(h:∀i,i<B.length->¬zHX (B.getD i zT) p):adB B p=B++[p]/\adN B p=(B.length:Int):=by
 have h1:fdZ B p<0:=by unfold fdZ;rw[zQA _ h];decide
 exact⟨zau h1,zau h1⟩
def rgI:Nat->List Int:=uD λi=>(i:Int)
theorem zQY{l:List Pt}{i k:Nat}(h:i<k):(l.take k).getD i zT=l.getD i zT:=by
 rw[zoa,zoa,zmu,zau h]
def zLT(l:List Pt):Prop:=∀i j,i<j->j<l.length->¬zHX (l.getD i zT) (l.getD j zT)
theorem zM4{l:List Pt}(hd:zLT l):∀k,k<=l.length->plB [] l k=l.take k/\plN [] l k=rgI k
  |0,_=>⟨rfl,rfl⟩
  |k+1,hk=>by
   obtain⟨h1,h2⟩:=zM4 hd k zos;have hl:(l.take k).length=k:=by rw[zei];omega
   have C:∀i,i<(l.take k).length->¬zHX ((l.take k).getD i zT) (l.getD k zT):=λi hi=>by
    rw[hl] at hi;rw[zQY hi];exact hd i k hi zos
   obtain⟨h3,D⟩:=yFH C;refine⟨?_,?_⟩
   · show adB (plB [] l k) (l.getD k zT)=_
     rw[h1,h3];rw[zoa,zoc (show k<l.length by omega),z2u (show k<l.length by omega)];rfl
   · show plN [] l k++[adN (plB [] l k) (l.getD k zT)]=rgI k++[(k:Int)]
     rw[h2,h1,D,hl]
theorem zJF{l:List Pt}(hd:zLT l):bsZ [l]=l:=by
 have h:=(zM4 hd l.length (zbe _)).1;rw[zze] at h;exact h
theorem yE1{l:List Pt}(hd:zLT l):bxZ [l]=[rgI l.length]:=zbi (λz=>[z]) (zM4 hd l.length (zbe _)).2
theorem zNE{P:List Pt}(ha:0<yW (arZ P 0 1)):ouZ [P]=1:=zau ha
theorem zYV{l:List Pt}{lo hi:Rat}(hd:zLT l)(hs:bG l 0 1)(hl:l.length<=64)(ha:0<yW (arZ l 0 1))(hlh:lo<hi):prE [l] lo hi=0:=by
 unfold prE;rw[zae (λe=>e (zEP hs hl ha)),zae (λe=>e (zNE ha)),zae (λe=>by unfold wQ at e;grind),zae];unfold prB;rw[zJF hd];have h1:oP [l] [l].length=0+l.length:=I;rw[h1];omega
section
variable {a b:Pt}
def bB(a b:Pt):List Pt:=[T3.mk a.x a.y (0:Rat),T3.mk b.x a.y (0:Rat),T3.mk b.x b.y (0:Rat),T3.mk a.x b.y (0:Rat)]
theorem zQQ(h:oQ a b):a.x<b.x/\a.y<b.y/\a.z<b.z:=by
 have g:∀{u v:Rat},¬0<=wQ u v->u<v:=λ{u v} h=>Rat.not_le.1 λe=>h (by unfold wQ;grind);exact⟨g (h 0 zov),g (h 1 zov),g (h 2 zov)⟩
theorem zA3(hx:a.x<b.x)(hy:a.y<b.y):zLT (bB a b):=by
 intro i j G D;have C:j<4:=D;have:(i=0/\(j=1\/j=2\/j=3))\/(i=1/\(j=2\/j=3))\/(i=2/\j=3):=by omega
 rcases this with⟨rfl,rfl|rfl|rfl⟩|⟨rfl,rfl|rfl⟩|⟨rfl,rfl⟩<;>(intro e;have J:=e.1;have H:=e.2;simp only[bB,zxu,z0i] at J H;grind)
def uI:List PI:=[(0,0),(1,0),(1,1),(0,1)]
theorem yGX:∀m,m<uI.length->pr (gp (bB a b) m) 0 1=ag a.x (b.x-a.x) a.y (b.y-a.y) (gI uI m):=by
 intro m C;have G:m<4:=C;have e0:((0:Int):Rat)=0:=I;have D:((1:Int):Rat)=1:=I;have:m=0\/m=1\/m=2\/m=3:=by omega
 rcases this with rfl|rfl|rfl|rfl<;>(unfold ag;refine Prod.ext ?_ ?_<;>simp[pr,gp,bB,gI,uI,T3.at,e0,D]<;>grind)
theorem yFC(hx:a.x<b.x)(hy:a.y<b.y):bG (bB a b) 0 1:=zD4 (x:=a.x) (p:=b.x-a.x) (y:=a.y) (q:=b.y-a.y) (s:=uI) zo2 zo2 rfl yGX (by decide +kernel)
theorem zZ7:arZ (bB a b) 0 1=2*((b.x-a.x)*(b.y-a.y)):=by
 unfold arZ;simp[uG,gp,bB,T3.at];grind
theorem zXC(hx:a.x<b.x)(hy:a.y<b.y):0<yW (arZ (bB a b) 0 1):=by
 rw[zZ7,iG];have:=tM (p:=b.x-a.x) (q:=b.y-a.y) zo2 zo2;grind
theorem yE6(h:oQ a b):blE a b=0:=by
 obtain⟨hx,hy,hz⟩:=zQQ h;rw[(zZ4 h).1];exact zYV (zA3 hx hy) (yFC hx hy) (show 4<=64 by decide) (zXC hx hy) hz
def cB(a b:Pt)(x y z:Bool):Pt:=T3.mk (if x then b.x else a.x) (if y then b.y else a.y) (if z then b.z else a.z)
def pB0(a b:Pt):List Pt:=[cB a b false false false,cB a b true false false,cB a b true true false,cB a b false true false,cB a b false false true,cB a b true false true,cB a b true true true,cB a b false true true]
theorem zD6(hx:a.x<b.x)(hy:a.y<b.y):ppZ (blL a b) a.z b.z=pB0 a b:=by
 have h:bsZ (blL a b)=bB a b:=zJF (zA3 hx hy);unfold ppZ zRG;rw[h]
 show uD _ 8=_
 have G:(bB a b).length=4:=I;have C:∀i:Nat,4<=i->(if((4:Nat):Int)<=(i:Int) then b.z else a.z)=b.z:=λi hi=>zau zos;have D:∀i:Nat,i<4->(if((4:Nat):Int)<=(i:Int) then b.z else a.z)=a.z:=λi hi=>zae zos;simp only[uD,zhu,zie,G];rw[D 0 zov,D 1 zov,D 2 zov,D 3 zov,C 4 zov,C 5 zov,C 6 zov,C 7 zov]
 rfl
theorem zL4(hx:a.x<b.x)(hy:a.y<b.y):bxZ (blL a b)=[[0,1,2,3]]:=yE1 (zA3 hx hy)
def sF(A B:Pt)(i j:Int)(nm:List Nat):Fc:=((T3.mk (B.y-A.y) (-(B.x-A.x)) (0:Rat),vZ (T3.mk (B.y-A.y) (-(B.x-A.x)) (0:Rat)) A),[[i,j,j+4,i+4]],nm)
def bF0(a b:Pt):Fc:=((T3.mk (0:Rat) (0:Rat) (-((1:Int):Rat)),-a.z),[[3,2,1,0]],[98,111,116,116,111,109])
def tF0(a b:Pt):Fc:=((T3.mk (0:Rat) (0:Rat) ((1:Int):Rat),b.z),[[4,5,6,7]],[116,111,112])
def fB0(a b:Pt):List Fc:=[sF (cB a b false false false) (cB a b true false false) 0 1 (nmS 0 0),sF (cB a b true false false) (cB a b true true false) 1 2 (nmS 0 1),sF (cB a b true true false) (cB a b false true false) 2 3 (nmS 0 2),sF (cB a b false true false) (cB a b false false false) 3 0 (nmS 0 3),bF0 a b,tF0 a b]
theorem s3(hx:a.x<b.x)(hy:a.y<b.y){k:Nat}(hk:k<4):sdF (blL a b) a.z b.z 0 k=sF ((pB0 a b).getD k zT) ((pB0 a b).getD ((k+1)%4) zT) (k:Int) (((k+1)%4:Nat):Int) (nmS 0 k):=by
 have hb:=zL4 hx hy;have G:((bsZ (blL a b)).length:Int)=4:=by rw[show bsZ (blL a b)=bB a b from zJF (zA3 hx hy)];rfl
 have D:sdA (blL a b) 0 k=(k:Int):=by
  unfold sdA;rw[hb];have:k=0\/k=1\/k=2\/k=3:=by omega
  rcases this with rfl|rfl|rfl|rfl<;>rfl
 have C:sdB (blL a b) 0 k=(((k+1)%4:Nat):Int):=by
  unfold sdB;rw[hb];have:k=0\/k=1\/k=2\/k=3:=by omega
  rcases this with rfl|rfl|rfl|rfl<;>rfl
 have H:sdN (blL a b) a.z b.z 0 k=T3.mk (((pB0 a b).getD ((k+1)%4) zT).y-((pB0 a b).getD k zT).y) (-(((pB0 a b).getD ((k+1)%4) zT).x-((pB0 a b).getD k zT).x)) (0:Rat):=by
  unfold sdN;rw[zD6 hx hy,D,C,z6u,z6u]
 unfold sdF;rw[H,zD6 hx hy,D,C,G,z6u]
 rfl
theorem zKC(hx:a.x<b.x)(hy:a.y<b.y):prR (blL a b) a.z b.z=(pB0 a b,fB0 a b,[]):=by
 have hb:=zL4 hx hy;have C:((bsZ (blL a b)).length:Int)=4:=by rw[show bsZ (blL a b)=bB a b from zJF (zA3 hx hy)];rfl
 unfold prR;rw[zD6 hx hy];refine zbi (λz=>(pB0 a b,z,([]:List En))) ?_;have H:zJZ (blL a b) a.z b.z (bxZ (blL a b)).length=[sdF (blL a b) a.z b.z 0 0,sdF (blL a b) a.z b.z 0 1,sdF (blL a b) a.z b.z 0 2,sdF (blL a b) a.z b.z 0 3]:=by
  rw[hb]
  show[]++sfX (blL a b) a.z b.z 0 ((bxZ (blL a b)).getD 0 []).length=_
  rw[hb];rfl
 have G:btF (blL a b) a.z=bF0 a b:=by
  unfold btF bF0 zW5;rw[hb];rfl
 have D:tpF (blL a b) b.z=tF0 a b:=by
  unfold tpF tF0 zS2 tpL;rw[hb,C];rfl
 rw[H,G,D,s3 hx hy zov,s3 hx hy zov,s3 hx hy zov,s3 hx hy zov]
 rfl
theorem nZ{n:Nat}(h:n<10):qF (((n:Int):Int):Rat)=[48+n]:=by
 unfold qF;rw[Rat.num_intCast,Rat.den_intCast,zae zos,zau cY,Int.natAbs_natCast]
 by_cases h0:n=0
 · subst h0;rfl
 · rw[zXT h0 h];rfl
theorem yDH{k:Nat}(h:k<10):nmS 0 k=[115,48,46,48+k]:=by
 unfold nmS;rw[nZ (n:=0) zov,nZ h];rfl
end
def zCN(p:Nat->Bool):Nat->Nat
  |0=>0
  |k+1=>if p k then zCN p k else k+1
theorem zA2{P:Nat->Prop}{p:Nat->Bool}:∀n,(∀k,k<n->(P k↔p k=true))->bS P n=zCN p n
  |0,_=>rfl
  |n+1,h=>by
   have ih:=zA2 n λk hk=>h k zos;have h1:=h n zos;unfold bS zCN;rw[ih]
   by_cases hp:P n
   · rw[zau hp,zau (h1.1 hp)]
   · rw[zae hp,zae (λe=>hp (h1.2 e))]
def usB(E:List E5)(i:Nat):Bool:=E.any λe=>decide (e.1=(i:Int))
theorem zSX(E:List E5)(i:Nat):zHR E E.length i↔usB E i=true:=by
 unfold usB;rw[List.any_eq_true];constructor
 · rintro⟨q,C,h⟩
   exact⟨_,kO C,decide_eq_true h⟩
 · rintro⟨e,D,h⟩
   obtain⟨q,C,rfl⟩:=ygu D;refine⟨q,C,?_⟩;rw[zoa,zoc C];exact yau h
def orB(E:List E5)(lt:Nat->Nat->Bool):Nat->List Int
  |0=>[]
  |i+1=>if usB E i then eS (orB E lt i) (zCN (λk=>lt i ((orB E lt i).getD k 0).toNat) (orB E lt i).length) (i:Int) else orB E lt i
theorem zNH{s:Sd}{lt:Nat->Nat->Bool}{n:Nat}(h:∀i k,i<n->k<n->(lsP (gp s.1 i) (gp s.1 k)↔lt i k=true)):∀i,i<=n->bK s i=orB (edZ (vT s)) lt i
  |0,_=>rfl
  |i+1,hi=>by
   have ih:=zNH h i zos;unfold bK orB;have hb:bS (zRM s (bK s i) i) (bK s i).length=zCN (λk=>lt i ((orB (edZ (vT s)) lt i).getD k 0).toNat) (orB (edZ (vT s)) lt i).length:=by
    rw[<-ih];refine zA2 _ λk C=>?_;have:=mG C;exact h i _ zos zos
   rw[hb,ih]
   by_cases hu:zHR (edZ (vT s)) (edZ (vT s)).length i
   · rw[zau hu,zau ((zSX _ _).1 hu)]
   · rw[zae hu,zae (λe=>hu ((zSX _ _).2 e))]
abbrev B3:=Bool×Bool×Bool
def lt3(u v:B3):Bool:=(!u.1&&v.1)||(u.1==v.1&&((!u.2.1&&v.2.1)||(u.2.1==v.2.1&&(!u.2.2&&v.2.2))))
def cU(a b:Pt)(u:B3):Pt:=cB a b u.1 u.2.1 u.2.2
variable {a b:Pt}
theorem zR4(hx:a.x<b.x)(hy:a.y<b.y)(hz:a.z<b.z)(u v:B3):lsP (cU a b u) (cU a b v)↔lt3 u v=true:=by
 obtain⟨D,C,u3⟩:=u;obtain⟨v1,v2,v3⟩:=v
 cases D<;>cases C<;>cases u3<;>cases v1<;>cases v2<;>cases v3<;>simp[lsP,cU,cB,lt3]<;>grind
theorem yEY(hx:a.x<b.x)(hy:a.y<b.y)(hz:a.z<b.z){u v:B3}(h:cU a b u=cU a b v):u=v:=by
 obtain⟨D,C,u3⟩:=u;obtain⟨v1,v2,v3⟩:=v;have h1:=zbi T3.x h;have h2:=zbi T3.y h;have h3:=zbi T3.z h
 cases D<;>cases C<;>cases u3<;>cases v1<;>cases v2<;>cases v3<;>first|rfl|(exfalso;simp[cU,cB] at h1 h2 h3;grind)
def uB0:List B3:=[(false,false,false),(true,false,false),(true,true,false),(false,true,false),(false,false,true),(true,false,true),(true,true,true),(false,true,true)]
theorem mE:pB0 a b=uB0.map (cU a b):=rfl
theorem dL{l:List B3}{i:Nat}(h:i<l.length):gp (l.map (cU a b)) i=cU a b (l.getD i (false,false,false)):=by
 unfold gp;rw[zoa,zoa,z0u,zoc h];rfl
theorem zGT(hx:a.x<b.x)(hy:a.y<b.y)(hz:a.z<b.z){l:List B3}{F:List Fc}{E:List En}:gX (l.map (cU a b),F,E)=orB (edZ (vT (l.map (cU a b),F,E))) (λi k=>lt3 (l.getD i (false,false,false)) (l.getD k (false,false,false))) l.length:=by
 unfold gX;rw[show(l.map (cU a b),F,E).1.length=l.length from zde _];refine zNH (n:=l.length) (λi k hi C=>?_) _ (zbe _)
 show lsP (gp (l.map (cU a b)) i) (gp (l.map (cU a b)) k)↔_
 rw[dL hi,dL C];exact zR4 hx hy hz _ _
theorem eR:vT (pB0 a b,fB0 a b,[])=[[[0,1,5,4]],[[1,2,6,5]],[[2,3,7,6]],[[3,0,4,7]],[[3,2,1,0]],[[4,5,6,7]]]:=rfl
theorem zKL(hx:a.x<b.x)(hy:a.y<b.y)(hz:a.z<b.z):gX (pB0 a b,fB0 a b,[])=[0,4,3,7,1,5,2,6]:=by
 rw[mE,zGT hx hy hz,<-mE,eR]
 decide +kernel
theorem cF{α:Type}{p:Nat->Prop}{g:Nat->α}:∀{n},(∀i,i<n->¬p i)->pG p g n=[]
  |0,_=>rfl
  |n+1,h=>by
   rw[<-s2 (h n zos)];exact cF λi hi=>h i zos
theorem zB0{α:Type}{g:Nat->List α}:∀{n},(∀i,i<n->g i=[])->jY g n=[]
  |0,_=>rfl
  |n+1,h=>by
   show jY g n++g n=[]
   rw[h n zos,zB0 λi hi=>h i zos];rfl
def tmB(E:List E5)(a b:Int):Nat->Int
  |0=>0
  |m+1=>if(E.getD m ((0:Int),(0:Int),(0:Int),(0:Int),(0:Int))).1=a/\(E.getD m ((0:Int),(0:Int),(0:Int),(0:Int),(0:Int))).2.1=b then tmB E a b m+1 else tmB E a b m
theorem zMG(E:List E5)(a b:Int):∀m,j6 E a b m=tmB E a b m
  |0=>rfl
  |m+1=>by
   unfold j6 tmB;rw[zMG E a b m]
   by_cases h:zZY (E.getD m ((0:Int),(0:Int),(0:Int),(0:Int),(0:Int))) a b
   · rw[zau h];exact(zau h).symm
   · rw[zae h];exact(zae h).symm
def clB(E:List E5):Bool:=(List.range E.length).all λi=>!decide (tmB E (E.getD i ((0:Int),(0:Int),(0:Int),(0:Int),(0:Int))).2.1 (E.getD i ((0:Int),(0:Int),(0:Int),(0:Int),(0:Int))).1 E.length<tmB E (E.getD i ((0:Int),(0:Int),(0:Int),(0:Int),(0:Int))).1 (E.getD i ((0:Int),(0:Int),(0:Int),(0:Int),(0:Int))).2.1 E.length)
theorem yAY{F:List (List (List Int))}(hv:vaP F)(h:clB (edZ F)=true):clZ F=[]:=by
 unfold clZ;rw[zau hv];unfold yEU;refine cF λi hi=>?_;have h1:=zob.1 h i (zog.2 hi);rw[zje,zgu] at h1;unfold yGN tmZ;rw[zMG,zMG];exact h1
theorem yAF{s:Sd}(hb:¬zOW s)(hf:∀f,f<s.2.1.length->vfP (s.2.1.getD f zA).2.1/\nmP s f):szZ s=[]:=by
 unfold szZ;rw[zae hb];exact cF λf C e=>by
  rcases e with e|e
  · exact e (hf f C).1
  · exact e (hf f C).2
theorem yAD{s:Sd}(h:∀i k,k<i->i<s.1.length->¬gp s.1 i=gp s.1 k):zQV s s.1.length=[]:=cF λi hi e=>by
 obtain⟨k,hk,e⟩:=e;exact h i k hk hi e
theorem yAJ{s:Sd}(hz:∀f,f<s.2.1.length->¬(s.2.1.getD f zA).1.1=zT)(ho:∀f,f<s.2.1.length->∀l,l<(gB s f).length->∀k,k<(gl (gB s f) l).length->sdZ (s.2.1.getD f zA).1 (gp (gl (gB s f) l) k)=0):plZ s=[]:=by
 have h1:zSR s s.2.1.length=[]:=cF λf C e=>hz f C e;have h2:zNJ s s.2.1.length=[]:=zB0 λf C=>zB0 λl D=>cF λk G e=>e (ho f C l D k G);unfold plZ;rw[h1,h2];rfl
theorem yAL{s:Sd}(h:∀f,f<s.2.1.length->vS (tQ s f) 0 1=0/\ouZ (tQ s f)=1):neZ s=[]:=by
 have h1:zW3 s s.2.1.length=[]:=cF λf C e=>e (h f C).1;have h2:yDJ s s.2.1.length=[]:=cF λf C e=>e (h f C).2;unfold neZ;rw[h1,h2];rfl
theorem zO5{s:Sd}(h1:szZ s=[])(h2:zQV s s.1.length=[])(h3:plZ s=[])(h4:neZ s=[])(h5:clZ (vT s)=[]):oU s:=by
 unfold oU zZ3;rw[h1,h2,h3,h4,h5];rfl
theorem yGS{s:Sd}{f:Nat}{i j k l:Int}(hf:f<s.2.1.length)(hn:nmP s f)(hl:(s.2.1.getD f zA).2.1=[[i,j,k,l]]):gB s f=[[gp s.1 i.toNat,gp s.1 j.toNat,gp s.1 k.toNat,gp s.1 l.toNat]]:=by
 rw[zOQ hf hn,hl];unfold zJC;rw[hl];rfl
theorem zWC{s:Sd}{f:Nat}{A B C D:Pt}(h:gB s f=[[A,B,C,D]]):tQ s f=[[gY (s.2.1.getD f zA).1 A,gY (s.2.1.getD f zA).1 B,gY (s.2.1.getD f zA).1 C,gY (s.2.1.getD f zA).1 D]]:=by
 unfold tQ;rw[h];rfl
theorem yC1{x p y q:Rat}(hp:0<p)(hq:0<q){l:List Pt}{t:List PI}(ht:t=[(0,0),(1,0),(1,1),(0,1)]\/t=[(1,0),(1,1),(0,1),(0,0)]\/t=[(1,1),(0,1),(0,0),(1,0)]\/t=[(0,1),(0,0),(1,0),(1,1)])
    (hl:l=t.map λu=>T3.mk (x+p*(u.1:Rat)) (y+q*(u.2:Rat)) (0:Rat)):vS [l] 0 1=0/\ouZ [l]=1:=by
 have U:t.length=4:=by rcases ht with rfl|rfl|rfl|rfl<;>rfl
 have D:l.length=t.length:=by rw[hl,zde]
 have J:∀m,m<t.length->pr (gp l m) 0 1=ag x p y q (gI t m):=λm H=>by
  rw[hl];unfold gp gI;rw[zoa,zoa,z0u,zoc H]
  rfl
 have G:bG l 0 1:=zD4 hp hq D J (by rcases ht with rfl|rfl|rfl|rfl<;>decide +kernel);have e0:((0:Int):Rat)=0:=I;have O:((1:Int):Rat)=1:=I;have M:arZ l 0 1=2*(p*q):=by
  unfold arZ
  rcases ht with rfl|rfl|rfl|rfl<;>(subst hl;simp[uG,gp,T3.at,e0,O];grind)
 have C:0<yW (arZ l 0 1):=by
  rw[M,iG];have:=tM hp hq;grind
 exact⟨zEP G zos C,zNE C⟩
abbrev Dir:=Nat×Bool
def dI:Dir->Nat
  |(2,true)=>0|(2,false)=>1|(1,true)=>2|(1,false)=>0|(_,true)=>1|(_,false)=>2
def dJ:Dir->Nat
  |(2,true)=>1|(2,false)=>0|(1,true)=>0|(1,false)=>2|(_,true)=>2|(_,false)=>1
def dN(d:Dir)(c:Rat):Pt:=(zT).set d.1 (if d.2 then c else -c)
def zSN(u:B3):Nat->Bool
  |0=>u.1|1=>u.2.1|_=>u.2.2
def bI(x:Bool):Int:=if x then 1 else 0
def pI2(d:Dir)(u:B3):PI:=(bI (zSN u (dI d)),bI (zSN u (dJ d)))
variable {a b:Pt}
theorem yAZ(u:B3)(i:Nat):(cU a b u).at i=if zSN u i then b.at i else a.at i:=by
 obtain⟨D,C,u3⟩:=u
 match i with
 |0=>rfl
 |1=>rfl
 |n+2=>rfl
theorem zWW(u:B3)(i:Nat):(cU a b u).at i=a.at i+(b.at i-a.at i)*((bI (zSN u i):Int):Rat):=by
 rw[yAZ];have e0:((0:Int):Rat)=0:=I;have C:((1:Int):Rat)=1:=I;unfold bI
 split
 · rw[C];grind
 · rw[e0];grind
theorem zOY{d:Dir}{c:Rat}(hd:d.1<3)(hc:0<c):axI (dN d c)=dI d/\axJ (dN d c)=dJ d/\¬dN d c=zT:=by
 obtain⟨C,D⟩:=d;have h3:C=0\/C=1\/C=2:=by have:C<3:=hd;omega
 have H:¬dN (C,D) c=zT:=λe=>by
  have h1:=zbi T3.x e;have h2:=zbi T3.y e;have G:=zbi T3.z e
  rcases h3 with rfl|rfl|rfl<;>cases D<;>simp[dN,T3.set] at h1 h2 G<;>grind
 refine⟨?_,?_,H⟩
 · rcases h3 with rfl|rfl|rfl<;>cases D<;>simp[dN,T3.set,axI,dI]<;>grind
 · rcases h3 with rfl|rfl|rfl<;>cases D<;>simp[dN,T3.set,axJ,dJ]<;>grind
def zJO(d:Dir)(us:List B3):Bool:=(us.all λu=>zSN u d.1==d.2)&&(decide (us.map (pI2 d)=[(0,0),(1,0),(1,1),(0,1)])||decide (us.map (pI2 d)=[(1,0),(1,1),(0,1),(0,0)])||decide (us.map (pI2 d)=[(1,1),(0,1),(0,0),(1,0)])||decide (us.map (pI2 d)=[(0,1),(0,0),(1,0),(1,1)]))
theorem zZS{d:Dir}{c o:Rat}(hd:d.1<3)(hc:0<c)(u:B3):gY (dN d c,o) (cU a b u)=T3.mk (a.at (dI d)+(b.at (dI d)-a.at (dI d))*(((pI2 d u).1:Int):Rat)) (a.at (dJ d)+(b.at (dJ d)-a.at (dJ d))*(((pI2 d u).2:Int):Rat)) (0:Rat):=by
 unfold gY;rw[(zOY hd hc).1,(zOY hd hc).2.1,zWW,zWW];rfl
theorem zHI{d:Dir}{c o:Rat}(hd:d.1<3)(hc:0<c)(h:∀i,a.at i<b.at i){us:List B3}(ht:zJO d us=true):vS [us.map λu=>gY (dN d c,o) (cU a b u)] 0 1=0/\ouZ [us.map λu=>gY (dN d c,o) (cU a b u)]=1:=by
 unfold zJO at ht;simp only[zbu,zwe,zhi] at ht;refine yC1 (x:=a.at (dI d)) (p:=b.at (dI d)-a.at (dI d)) (y:=a.at (dJ d)) (q:=b.at (dJ d)-a.at (dJ d)) (t:=us.map (pI2 d)) (by have:=h (dI d);grind) (by have:=h (dJ d);grind) ?_ ?_
 · rcases ht.2 with((h1|h1)|h1)|h1
   · exact .inl h1
   · exact .inr (.inl h1)
   · exact .inr (.inr (.inl h1))
   · exact .inr (.inr (.inr h1))
 · rw[y0i]
   exact ywi λu _=>zZS hd hc u
theorem zSC{d:Dir}{c:Rat}(hd:d.1<3){u:B3}(hu:zSN u d.1=d.2):sdZ (dN d c,(if d.2 then c else -c)*(if d.2 then b.at d.1 else a.at d.1)) (cU a b u)=0:=by
 unfold sdZ hgt;have e:=yAZ (a:=a) (b:=b) u d.1;rw[hu] at e;obtain⟨C,D⟩:=d;have h3:C=0\/C=1\/C=2:=by have:C<3:=hd;omega
 have h0:vZ (dN (C,D) c) (cU a b u)=(if D then c else -c)*(cU a b u).at C:=by
  rcases h3 with rfl|rfl|rfl<;>(simp only[vZ,dN,T3.set,T3.at];grind)
 rw[h0,e];refine zau ?_
 show _*_-_*_=(0:Rat)
 grind
abbrev u0:B3:=(false,false,false)
def mZ(a b:Pt)(us:List B3)(d:Dir)(f:Fc):Prop:=
 d.1<3/\∃c,0<c/\f.1=(dN d c,(if d.2 then c else -c)*(if d.2 then b.at d.1 else a.at d.1))/\∃i j k l:Nat,f.2.1=[[(i:Int),(j:Int),(k:Int),(l:Int)]]/\(i<us.length/\j<us.length/\k<us.length/\l<us.length)/\zJO d [us.getD i u0,us.getD j u0,us.getD k u0,us.getD l u0]=true
section
variable {us:List B3}{F:List Fc}
theorem zW1{d:Dir}{f:Nat}(h:mZ a b us d (F.getD f zA)):nmP (us.map (cU a b),F,[]) f:=by
 obtain⟨_,c,_,_,i,j,k,l,O,⟨h1,h2,h3,U⟩,_⟩:=h;intro m M q J
 show 0<=_/\_<(((us.map (cU a b)).length:Nat):Int)
 rw[zde];have D:m<((F.getD f zA).2.1).length:=M;have C:q<(((F.getD f zA).2.1).getD m []).length:=J
 show 0<=(((F.getD f zA).2.1).getD m []).getD q 0/\(((F.getD f zA).2.1).getD m []).getD q 0<_
 rw[O] at D C ⊢;have G:m=0:=by have:m<1:=D;omega
 subst G;have H:q<4:=C;have:q=0\/q=1\/q=2\/q=3:=by omega
 rcases this with rfl|rfl|rfl|rfl
 · show 0<=(i:Int)/\(i:Int)<_;omega
 · show 0<=(j:Int)/\(j:Int)<_;omega
 · show 0<=(k:Int)/\(k:Int)<_;omega
 · show 0<=(l:Int)/\(l:Int)<_;omega
theorem zDI{d:Dir}{f:Nat}(hf:f<F.length)(h:mZ a b us d (F.getD f zA)):∃vs:List B3,zJO d vs=true/\vs.length=4/\gB (us.map (cU a b),F,[]) f=[vs.map (cU a b)]:=by
 have D:=zW1 h;obtain⟨_,c,_,_,i,j,k,l,G,⟨h1,h2,h3,H⟩,C⟩:=h;refine⟨[us.getD i u0,us.getD j u0,us.getD k u0,us.getD l u0],C,I,?_⟩;rw[yGS (s:=(us.map (cU a b),F,[])) hf D G]
 show[[gp (us.map (cU a b)) _,gp (us.map (cU a b)) _,gp (us.map (cU a b)) _,gp (us.map (cU a b)) _]]=_
 rw[z6u,z6u,z6u,z6u,dL h1,dL h2,dL h3,dL H];rfl
theorem zQP(h:a.x<b.x/\a.y<b.y/\a.z<b.z)(hn:∀i k,k<i->i<us.length->¬us.getD i u0=us.getD k u0)(hu:us.length<=512/\F.length<=256)(hF:∀f,f<F.length->∃d,mZ a b us d (F.getD f zA))(hv:∀f,f<F.length->vfP (F.getD f zA).2.1)
    (hva:vaP (vT (us.map (cU a b),F,[])))(hc:clB (edZ (vT (us.map (cU a b),F,[])))=true):oU (us.map (cU a b),F,[]):=by
 have ae:∀i,a.at i<b.at i:=λi=>match i with
  |0=>h.1|1=>h.2.1|_+2=>h.2.2
 have ab:(us.map (cU a b)).length=us.length:=zde _;refine zO5 (yAF (λe=>?_) λf D=>?_) (yAD λi k ad hi e=>?_) (yAJ (λf D=>?_) λf D l hl k hk=>?_) (yAL λf D=>?_) (yAY hva hc)
 · rcases e with(e|e)|e
   · have U:512<(us.map (cU a b)).length:=e
     omega
   · have U:256<F.length:=e
     omega
   · have U:1024<([]:List En).length:=e
     simp at U
 · obtain⟨d,M⟩:=hF f D
   exact⟨hv f D,zW1 M⟩
 · have aa:i<us.length:=by rw[<-ab];exact hi
   have U:gp (us.map (cU a b)) i=gp (us.map (cU a b)) k:=e;rw[dL aa,dL zos] at U;exact hn i k ad aa (yEY h.1 h.2.1 h.2.2 U)
 · obtain⟨d,C,c,G,hp,_⟩:=hF f D
   show ¬(F.getD f zA).1.1=zT
   rw[hp];exact(zOY C G).2.2
 · obtain⟨d,M⟩:=hF f D
   obtain⟨H,Z,h4,O⟩:=zDI D M;obtain⟨C,c,G,hp,_⟩:=M;rw[O] at hl hk ⊢;have ac:l=0:=by have:l<1:=hl;omega
   subst ac;have J:k<(H.map (cU a b)).length:=hk;rw[zde] at J
   show sdZ (F.getD f zA).1 (gp (H.map (cU a b)) k)=0
   rw[hp,dL J];refine zSC C ?_;unfold zJO at Z;simp only[zbu] at Z;have h9:=zob.1 Z.1 (H.getD k u0) (kO J);exact eq_of_beq h9
 · obtain⟨d,M⟩:=hF f D
   obtain⟨H,Z,h4,O⟩:=zDI D M;obtain⟨C,c,G,hp,_⟩:=M;have e:tQ (us.map (cU a b),F,[]) f=[H.map λu=>gY (F.getD f zA).1 (cU a b u)]:=by
    obtain⟨v1,v2,v3,v4,rfl⟩:∃v1 v2 v3 v4,H=[v1,v2,v3,v4]:=by
     match H,h4 with
     |[v1,v2,v3,v4],_=>exact⟨_,_,_,_,rfl⟩
    exact zWC O
   rw[e,hp];exact zHI C G ae Z
end
instance decLp(x:List Int):Decidable (lpP x):=by unfold lpP;exact inferInstance
instance decVf(L:List (List Int)):Decidable (vfP L):=by unfold vfP;exact inferInstance
instance decVa(F:List (List (List Int))):Decidable (vaP F):=by unfold vaP;exact inferInstance
variable {a b:Pt}
theorem zGQ{N M:Pt}{o r:Rat}(h1:N=M)(h2:o=r):(N,o)=(M,r):=by rw[h1,h2]
theorem zQD(h:a.x<b.x/\a.y<b.y/\a.z<b.z):mZ a b uB0 (1,false) ((fB0 a b).getD 0 zA)/\mZ a b uB0 (0,true) ((fB0 a b).getD 1 zA)/\mZ a b uB0 (1,true) ((fB0 a b).getD 2 zA)/\mZ a b uB0 (0,false) ((fB0 a b).getD 3 zA)/\mZ a b uB0 (2,false) ((fB0 a b).getD 4 zA)/\mZ a b uB0 (2,true) ((fB0 a b).getD 5 zA):=by
 obtain⟨hx,hy,hz⟩:=h;refine⟨?_,?_,?_,?_,?_,?_⟩
 · refine⟨by decide,b.x-a.x,by grind,zGQ ?_ ?_,0,1,5,4,I,by decide,by decide⟩
   · show T3.mk (a.y-a.y) (-(b.x-a.x)) (0:Rat)=T3.mk 0 (-(b.x-a.x)) 0
     rw[oE];refine⟨?_,I,I⟩;show a.y-a.y=0;grind
   · show vZ (T3.mk (a.y-a.y) (-(b.x-a.x)) (0:Rat)) (T3.mk a.x a.y a.z)= -(b.x-a.x)*a.y
     unfold vZ;simp only;grind
 · refine⟨by decide,b.y-a.y,by grind,zGQ ?_ ?_,1,2,6,5,I,by decide,by decide⟩
   · show T3.mk (b.y-a.y) (-(b.x-b.x)) (0:Rat)=T3.mk (b.y-a.y) 0 0
     rw[oE];refine⟨I,?_,I⟩;show -(b.x-b.x)=0;grind
   · show vZ (T3.mk (b.y-a.y) (-(b.x-b.x)) (0:Rat)) (T3.mk b.x a.y a.z)=(b.y-a.y)*b.x
     unfold vZ;simp only;grind
 · refine⟨by decide,b.x-a.x,by grind,zGQ ?_ ?_,2,3,7,6,I,by decide,by decide⟩
   · show T3.mk (b.y-b.y) (-(a.x-b.x)) (0:Rat)=T3.mk 0 (b.x-a.x) 0
     rw[oE];refine⟨?_,?_,I⟩
     · show b.y-b.y=0;grind
     · show -(a.x-b.x)=b.x-a.x;grind
   · show vZ (T3.mk (b.y-b.y) (-(a.x-b.x)) (0:Rat)) (T3.mk b.x b.y a.z)=(b.x-a.x)*b.y
     unfold vZ;simp only;grind
 · refine⟨by decide,b.y-a.y,by grind,zGQ ?_ ?_,3,0,4,7,I,by decide,by decide⟩
   · show T3.mk (a.y-b.y) (-(a.x-a.x)) (0:Rat)=T3.mk (-(b.y-a.y)) 0 0
     rw[oE];refine⟨?_,?_,I⟩
     · show a.y-b.y= -(b.y-a.y);grind
     · show -(a.x-a.x)=0;grind
   · show vZ (T3.mk (a.y-b.y) (-(a.x-a.x)) (0:Rat)) (T3.mk a.x b.y a.z)= -(b.y-a.y)*a.x
     unfold vZ;simp only;grind
 · refine⟨by decide,1,by decide,zGQ I ?_,3,2,1,0,I,by decide,by decide⟩
   show -a.z= -1*a.z
   grind
 · refine⟨by decide,1,by decide,zGQ I ?_,4,5,6,7,I,by decide,by decide⟩
   show b.z=1*b.z
   grind
theorem zQE(h:a.x<b.x/\a.y<b.y/\a.z<b.z):∀f,f<(fB0 a b).length->∃d,mZ a b uB0 d ((fB0 a b).getD f zA):=by
 intro f D;have C:f<6:=D;obtain⟨h0,h1,h2,h3,H,G⟩:=zQD h;have:f=0\/f=1\/f=2\/f=3\/f=4\/f=5:=by omega
 rcases this with rfl|rfl|rfl|rfl|rfl|rfl
 · exact⟨_,h0⟩
 · exact⟨_,h1⟩
 · exact⟨_,h2⟩
 · exact⟨_,h3⟩
 · exact⟨_,H⟩
 · exact⟨_,G⟩
theorem zGI(h:a.x<b.x/\a.y<b.y/\a.z<b.z):oU (pB0 a b,fB0 a b,[]):=by
 have g:∀i,i<uB0.length->∀k,k<i->¬uB0.getD i u0=uB0.getD k u0:=by decide +kernel
 rw[mE];refine zQP h (λi k C hi=>g i hi k C) ⟨by decide,show 6<=256 by decide⟩ (zQE h) (λf G=>?_) ?_ ?_
 · have D:f<6:=G
   have:f=0\/f=1\/f=2\/f=3\/f=4\/f=5:=by omega
   rcases this with rfl|rfl|rfl|rfl|rfl|rfl
   · show vfP [[0,1,5,4]];decide +kernel
   · show vfP [[1,2,6,5]];decide +kernel
   · show vfP [[2,3,7,6]];decide +kernel
   · show vfP [[3,0,4,7]];decide +kernel
   · show vfP [[3,2,1,0]];decide +kernel
   · show vfP [[4,5,6,7]];decide +kernel
 · rw[<-mE,eR];decide +kernel
 · rw[<-mE,eR];decide +kernel
variable {a b:Pt}
def ixB(o:List Int)(n:Nat):Nat->List Int
  |0=>List.replicate n (0:Int)
  |i+1=>(ixB o n i).set (o.getD i 0).toNat (i:Int)
theorem zOH{s:Sd}{o:List Int}(h:gX s=o):∀i,zF6 s i=ixB o s.1.length i
  |0=>rfl
  |i+1=>by unfold zF6 ixB;rw[zOH h i,h]
theorem zVZ(h:a.x<b.x/\a.y<b.y/\a.z<b.z):ixZ (pB0 a b,fB0 a b,[])=[0,4,6,2,1,5,7,3]:=by
 have C:=zKL h.1 h.2.1 h.2.2;unfold ixZ;rw[zOH C,C]
 show ixB _ 8 8=_
 decide
def uB1:List B3:=[(false,false,false),(false,false,true),(false,true,false),(false,true,true),(true,false,false),(true,false,true),(true,true,false),(true,true,true)]
theorem zU1(h:a.x<b.x/\a.y<b.y/\a.z<b.z):nrP (pB0 a b,fB0 a b,[])=uB1.map (cU a b):=by
 have C:=zKL h.1 h.2.1 h.2.2;unfold nrP;rw[zau (zGI h)];unfold zU2;rw[C];rfl
theorem zPG(h:a.x<b.x/\a.y<b.y/\a.z<b.z){us:List B3}{F:List Fc}{f:Nat}(hf:f<F.length){d:Dir}(hd:mZ a b us d (F.getD f zA)):zCU (us.map (cU a b),F,[]) f 0:=by
 have H:∀i,a.at i<b.at i:=λi=>match i with
  |0=>h.1|1=>h.2.1|_+2=>h.2.2
 obtain⟨J,O,h4,D⟩:=zDI hf hd;obtain⟨C,c,G,U,_⟩:=hd;obtain⟨v1,v2,v3,v4,rfl⟩:∃v1 v2 v3 v4,J=[v1,v2,v3,v4]:=by
  match J,h4 with
  |[v1,v2,v3,v4],_=>exact⟨_,_,_,_,rfl⟩
 have e:tQ (us.map (cU a b),F,[]) f=[[v1,v2,v3,v4].map λu=>gY (F.getD f zA).1 (cU a b u)]:=zWC D;have M:=(zHI (o:=(F.getD f zA).1.2) C G H O).2;unfold zCU;rw[e];have e2:(F.getD f zA).1=(dN d c,(F.getD f zA).1.2):=by rw[U]
 rw[e2];refine zdu λZ=>?_;have h0:ouZ [[v1,v2,v3,v4].map λu=>gY (dN d c,(F.getD f zA).1.2) (cU a b u)]=0:=zae Z;rw[h0] at M;exact absurd M zov
theorem yCX{d:Dir}{c r:Rat}(hd:d.1<3)(hc:0<c):scZ (dN d c,(if d.2 then c else -c)*r)=(dN d 1,(if d.2 then 1 else -1)*r):=by
 obtain⟨G,J⟩:=d;have h3:G=0\/G=1\/G=2:=by have:G<3:=hd;omega
 have H:∀{x:Rat},x≠0->¬yW x=0:=λ{x} hx e=>by unfold yW at e;rw[zae hx] at e;split at e<;>omega
 have hz:yW 0=0:=zau I;have D:c≠0:=by grind
 have C:-c≠0:=by grind
 have U:ivA c*c=1/\ivA (-c)*c=1:=by
  have Z:((1:Int):Rat)=1:=I;have O:¬c.num<0:=Int.not_lt.2 (ywu.2 (Rat.le_of_lt hc));have M:(-c).num<0:=yui.1 λe=>by have:=ywu.1 e;grind
  have a1:eZ c=c:=zae O;have a2:eZ (-c)=c:=by
   have:eZ (-c)= - -c:=zau M;rw[this];grind
  unfold ivA;rw[a1,a2,zae D,Z];grind
 rcases h3 with rfl|rfl|rfl<;>cases J<;>simp[scZ,dN,T3.set,hz,H D,H C,scW]<;>grind
variable {a b:Pt}
def plD(a b:Pt)(d:Dir):Pl:=(dN d 1,(if d.2 then 1 else -1)*(if d.2 then b.at d.1 else a.at d.1))
theorem bE(h:a.x<b.x/\a.y<b.y/\a.z<b.z){us:List B3}{F:List Fc}{f:Nat}(hf:f<F.length){d:Dir}(hd:mZ a b us d (F.getD f zA))(ix:List Int){x:List Int}(hx:(F.getD f zA).2.1=[x]):
 nfF (us.map (cU a b),F,[]) ix f=(plD a b d,[zRB (uD (λq=>ix.getD (x.getD q 0).toNat 0) x.length)],(F.getD f zA).2.2):=by
 have H:=zPG h hf hd;obtain⟨D,c,G,C,_⟩:=hd;unfold nfF
 show(scZ (F.getD f zA).1,ouL (us.map (cU a b),F,[]) ix f ((F.getD f zA).2.1).length++w9 (us.map (cU a b),F,[]) ix f ((F.getD f zA).2.1).length,(F.getD f zA).2.2)=_
 rw[C,yCX D G,hx];have O:ouL (us.map (cU a b),F,[]) ix f 1=[nfL (us.map (cU a b),F,[]) ix f 0]:=by
  unfold ouL;rw[<-s1 H];rfl
 have M:w9 (us.map (cU a b),F,[]) ix f 1=[]:=zau H
 show(_,ouL _ ix f 1++w9 _ ix f 1,_)=_
 rw[O,M];have J:nfL (us.map (cU a b),F,[]) ix f 0=zRB (uD (λq=>ix.getD (x.getD q 0).toNat 0) x.length):=by
  unfold nfL nwL
  show zRB (uD (λq=>ix.getD ((((F.getD f zA).2.1).getD 0 []).getD q 0).toNat 0) (((F.getD f zA).2.1).getD 0 []).length)=_
  rw[hx];rfl
 rw[J];rfl
theorem zU3(h:a.x<b.x/\a.y<b.y/\a.z<b.z)(ix:List Int)(hix:ix=[0,4,6,2,1,5,7,3]):
 nfF (pB0 a b,fB0 a b,[]) ix 0=(plD a b (1,false),[[0,4,5,1]],nmS 0 0)/\nfF (pB0 a b,fB0 a b,[]) ix 1=(plD a b (0,true),[[4,6,7,5]],nmS 0 1)/\nfF (pB0 a b,fB0 a b,[]) ix 2=(plD a b (1,true),[[2,3,7,6]],nmS 0 2)/\
 nfF (pB0 a b,fB0 a b,[]) ix 3=(plD a b (0,false),[[0,1,3,2]],nmS 0 3)/\nfF (pB0 a b,fB0 a b,[]) ix 4=(plD a b (2,false),[[0,2,6,4]],[98,111,116,116,111,109])/\nfF (pB0 a b,fB0 a b,[]) ix 5=(plD a b (2,true),[[1,5,7,3]],[116,111,112]):=by
 subst hix;have g:=zQD h;rw[mE];refine⟨?_,?_,?_,?_,?_,?_⟩
 · rw[bE h (F:=fB0 a b) (f:=0) (show 0<6 by decide) g.1 _ (x:=[0,1,5,4]) I];rfl
 · rw[bE h (F:=fB0 a b) (f:=1) (show 1<6 by decide) g.2.1 _ (x:=[1,2,6,5]) I];rfl
 · rw[bE h (F:=fB0 a b) (f:=2) (show 2<6 by decide) g.2.2.1 _ (x:=[2,3,7,6]) I];rfl
 · rw[bE h (F:=fB0 a b) (f:=3) (show 3<6 by decide) g.2.2.2.1 _ (x:=[3,0,4,7]) I];rfl
 · rw[bE h (F:=fB0 a b) (f:=4) (show 4<6 by decide) g.2.2.2.2.1 _ (x:=[3,2,1,0]) I];rfl
 · rw[bE h (F:=fB0 a b) (f:=5) (show 5<6 by decide) g.2.2.2.2.2 _ (x:=[4,5,6,7]) I];rfl
def lsB:List Nat->List Nat->Bool
  |[],[]=>false
  |[],_::_=>true
  |_::_,[]=>false
  |x::a,y::b=>if x=y then lsB a b else decide (x<y)
theorem zVK:∀a b:List Nat,lsN a b↔lsB a b=true
  |[],[]=>by simp[lsN,lsB]
  |[],_::_=>by simp[lsN,lsB]
  |_::_,[]=>by simp[lsN,lsB]
  |x::a,y::b=>by
   have ih:=zVK a b
   by_cases h:x=y
   · simp[lsN,lsB,h,ih]
   · simp[lsN,lsB,h]
def nsB(nm:Nat->List Nat):Nat->List Nat
  |0=>[]
  |f+1=>eS (nsB nm f) (zCN (λk=>lsB (nm f) (nm ((nsB nm f).getD k 0))) (nsB nm f).length) f
theorem zIT(nm:Nat->List Nat):∀f x,x∈nsB nm f->x<f
  |f+1,x,h=>by
   unfold nsB eS at h
   rcases zni.1 h with h|h
   · have:=zIT nm f x (zve h);omega
   · rcases zfi.1 h with rfl|h
     · omega
     · have:=zIT nm f x (z5i h);omega
theorem zV1{α β:Type}(g:α->β)(l:List α)(k:Nat)(x:α):eS (l.map g) k (g x)=(eS l k x).map g:=by
 unfold eS;rw[z1u,zxe,List.map_take,List.map_drop]
theorem zIS{s:Sd}{nm:Nat->List Nat}{n:Nat}(hn:∀i,i<n->(nfF s (ixZ s) i).2.2=nm i)(hd:∀i,i<n->∀k,k<i->¬nm i=nm k):∀f,f<=n->w3 s f=(nsB nm f).map λi=>nfF s (ixZ s) i
  |0,_=>rfl
  |f+1,hf=>by
   have ih:=zIS hn hd f zos;unfold w3 nsB;have hb:bS (zN9 (nfF s (ixZ s) f) (w3 s f)) (w3 s f).length=zCN (λk=>lsB (nm f) (nm ((nsB nm f).getD k 0))) (nsB nm f).length:=by
    rw[ih,zde];refine zA2 _ λk C=>?_;have D:=zIT nm f _ (kO (d:=0) C);have e:((nsB nm f).map λi=>nfF s (ixZ s) i).getD k zA=nfF s (ixZ s) ((nsB nm f).getD k 0):=by
     rw[zoa,z0u,zoc C,zoa,zoc C];rfl
    unfold zN9 lsF;rw[e,hn f zos,hn _ zos,zae (hd f zos _ D)];exact zVK _ _
   rw[hb,ih,zV1]
variable {a b:Pt}
def nm0(i:Nat):List Nat:=([[115,48,46,48],[115,48,46,49],[115,48,46,50],[115,48,46,51],[98,111,116,116,111,109],[116,111,112]]:List (List Nat)).getD i []
def fB1(a b:Pt):List Fc:=[(plD a b (2,false),[[0,2,6,4]],[98,111,116,116,111,109]),(plD a b (1,false),[[0,4,5,1]],[115,48,46,48]),(plD a b (0,true),[[4,6,7,5]],[115,48,46,49]),(plD a b (1,true),[[2,3,7,6]],[115,48,46,50]),(plD a b (0,false),[[0,1,3,2]],[115,48,46,51]),(plD a b (2,true),[[1,5,7,3]],[116,111,112])]
theorem zU0(h:a.x<b.x/\a.y<b.y/\a.z<b.z):nrF (pB0 a b,fB0 a b,[])=fB1 a b:=by
 have C:=zVZ h;obtain⟨h0,h1,h2,h3,G,D⟩:=zU3 h _ C;rw[yDH zov] at h0 h1 h2 h3;have H:∀i,i<6->(nfF (pB0 a b,fB0 a b,[]) (ixZ (pB0 a b,fB0 a b,[])) i).2.2=nm0 i:=λi hi=>by
  have:i=0\/i=1\/i=2\/i=3\/i=4\/i=5:=by omega
  rcases this with rfl|rfl|rfl|rfl|rfl|rfl
  · rw[h0];rfl
  · rw[h1];rfl
  · rw[h2];rfl
  · rw[h3];rfl
  · rw[G];rfl
  · rw[D];rfl
 have J:∀i,i<6->∀k,k<i->¬nm0 i=nm0 k:=by decide
 unfold nrF;rw[zau (zGI h)]
 show w3 _ 6=_
 rw[zIS H J 6 (zbe _),show nsB nm0 6=[4,0,1,2,3,5] by decide];simp only[zxe,yoe];rw[h0,h1,h2,h3,G,D]
 rfl
variable {a b:Pt}
def fB2(a b:Pt):List Fc:=[(plD a b (2,false),[[0,2,6,4]],[122,48]),(plD a b (1,false),[[0,4,5,1]],[121,48]),(plD a b (0,true),[[4,6,7,5]],[120,49]),(plD a b (1,true),[[2,3,7,6]],[121,49]),(plD a b (0,false),[[0,1,3,2]],[120,48]),(plD a b (2,true),[[1,5,7,3]],[122,49])]
theorem zYT(h:oQ a b):prP (blL a b) a.z b.z=uB1.map (cU a b)/\prF (blL a b) a.z b.z=fB1 a b:=by
 have C:=zQQ h;have D:=yE6 h;rw[(zZ4 h).1] at D;unfold prP prF;rw[zau D,zau D,zKC C.1 C.2.1];exact⟨zU1 C,zU0 C⟩
theorem zQT(h:oQ a b):blS a b=(uB1.map (cU a b),fB2 a b,[]):=by
 obtain⟨h1,h2⟩:=zYT h;unfold blS blG;rw[zXQ,h1,h2];refine zbi (λz=>(uB1.map (cU a b),z,([]:List En))) ?_;simp only[fB1,fB2,zxe,yoe,rnF];simp[rnN]
variable {a b:Pt}
theorem zJB:mZ a b uB1 (2,false) ((fB2 a b).getD 0 zA)/\mZ a b uB1 (1,false) ((fB2 a b).getD 1 zA)/\mZ a b uB1 (0,true) ((fB2 a b).getD 2 zA)/\mZ a b uB1 (1,true) ((fB2 a b).getD 3 zA)/\mZ a b uB1 (0,false) ((fB2 a b).getD 4 zA)/\mZ a b uB1 (2,true) ((fB2 a b).getD 5 zA):=
 ⟨⟨by decide,1,by decide,rfl,0,2,6,4,rfl,by decide,by decide⟩,⟨by decide,1,by decide,rfl,0,4,5,1,rfl,by decide,by decide⟩,⟨by decide,1,by decide,rfl,4,6,7,5,rfl,by decide,by decide⟩,⟨by decide,1,by decide,rfl,2,3,7,6,rfl,by decide,by decide⟩,⟨by decide,1,by decide,rfl,0,1,3,2,rfl,by decide,by decide⟩,⟨by decide,1,by decide,rfl,1,5,7,3,rfl,by decide,by decide⟩⟩
theorem w5:vT (uB1.map (cU a b),fB2 a b,[])=[[[0,2,6,4]],[[0,4,5,1]],[[4,6,7,5]],[[2,3,7,6]],[[0,1,3,2]],[[1,5,7,3]]]:=rfl
theorem zTC(h:a.x<b.x/\a.y<b.y/\a.z<b.z):oU (uB1.map (cU a b),fB2 a b,[]):=by
 have g:∀i,i<uB1.length->∀k,k<i->¬uB1.getD i u0=uB1.getD k u0:=by decide +kernel
 obtain⟨h0,h1,h2,h3,J,H⟩:=zJB (a:=a) (b:=b);refine zQP h (λi k G hi=>g i hi k G) ⟨by decide,show 6<=256 by decide⟩ (λf D=>?_) (λf D=>?_) ?_ ?_
 · have C:f<6:=D
   have:f=0\/f=1\/f=2\/f=3\/f=4\/f=5:=by omega
   rcases this with rfl|rfl|rfl|rfl|rfl|rfl
   · exact⟨_,h0⟩
   · exact⟨_,h1⟩
   · exact⟨_,h2⟩
   · exact⟨_,h3⟩
   · exact⟨_,J⟩
   · exact⟨_,H⟩
 · have C:f<6:=D
   have:f=0\/f=1\/f=2\/f=3\/f=4\/f=5:=by omega
   rcases this with rfl|rfl|rfl|rfl|rfl|rfl
   · show vfP [[0,2,6,4]];decide +kernel
   · show vfP [[0,4,5,1]];decide +kernel
   · show vfP [[4,6,7,5]];decide +kernel
   · show vfP [[2,3,7,6]];decide +kernel
   · show vfP [[0,1,3,2]];decide +kernel
   · show vfP [[1,5,7,3]];decide +kernel
 · rw[w5];decide +kernel
 · rw[w5];decide +kernel
variable {a b:Pt}
theorem zPJ(h:a.x<b.x/\a.y<b.y/\a.z<b.z):gX (uB1.map (cU a b),fB2 a b,[])=[0,1,2,3,4,5,6,7]:=by
 rw[zGT h.1 h.2.1 h.2.2,w5]
 decide +kernel
theorem zZJ(h:a.x<b.x/\a.y<b.y/\a.z<b.z):ixZ (uB1.map (cU a b),fB2 a b,[])=[0,1,2,3,4,5,6,7]:=by
 have C:=zPJ h;unfold ixZ;rw[zOH C,C]
 show ixB _ 8 8=_
 decide
def fB3(a b:Pt):List Fc:=[(plD a b (0,false),[[0,1,3,2]],[120,48]),(plD a b (0,true),[[4,6,7,5]],[120,49]),(plD a b (1,false),[[0,4,5,1]],[121,48]),(plD a b (1,true),[[2,3,7,6]],[121,49]),(plD a b (2,false),[[0,2,6,4]],[122,48]),(plD a b (2,true),[[1,5,7,3]],[122,49])]
def nm1(i:Nat):List Nat:=([[122,48],[121,48],[120,49],[121,49],[120,48],[122,49]]:List (List Nat)).getD i []
theorem zY2(h:a.x<b.x/\a.y<b.y/\a.z<b.z)(ix:List Int)(hix:ix=[0,1,2,3,4,5,6,7]):∀i,i<6->nfF (uB1.map (cU a b),fB2 a b,[]) ix i=(fB2 a b).getD i zA:=by
 subst hix;obtain⟨h0,h1,h2,h3,D,C⟩:=zJB (a:=a) (b:=b);intro i hi;have:i=0\/i=1\/i=2\/i=3\/i=4\/i=5:=by omega
 rcases this with rfl|rfl|rfl|rfl|rfl|rfl
 · rw[bE h (F:=fB2 a b) (f:=0) (show 0<6 by decide) h0 _ (x:=[0,2,6,4]) I];rfl
 · rw[bE h (F:=fB2 a b) (f:=1) (show 1<6 by decide) h1 _ (x:=[0,4,5,1]) I];rfl
 · rw[bE h (F:=fB2 a b) (f:=2) (show 2<6 by decide) h2 _ (x:=[4,6,7,5]) I];rfl
 · rw[bE h (F:=fB2 a b) (f:=3) (show 3<6 by decide) h3 _ (x:=[2,3,7,6]) I];rfl
 · rw[bE h (F:=fB2 a b) (f:=4) (show 4<6 by decide) D _ (x:=[0,1,3,2]) I];rfl
 · rw[bE h (F:=fB2 a b) (f:=5) (show 5<6 by decide) C _ (x:=[1,5,7,3]) I];rfl
theorem zOU(h:oQ a b):blP a b=uB1.map (cU a b)/\blF a b=fB3 a b:=by
 have D:=zQQ h;obtain⟨_,U,O⟩:=zZ4 h;rw[U,O,zQT h];have H:=zTC D;have J:=zPJ D;have G:=zZJ D;refine⟨?_,?_⟩
 · unfold nrP
   rw[zau H];unfold zU2;rw[J];rfl
 · have C:=zY2 D _ G
   have M:∀i,i<6->(nfF (uB1.map (cU a b),fB2 a b,[]) (ixZ (uB1.map (cU a b),fB2 a b,[])) i).2.2=nm1 i:=λi hi=>by
    rw[C i hi];have:i=0\/i=1\/i=2\/i=3\/i=4\/i=5:=by omega
    rcases this with rfl|rfl|rfl|rfl|rfl|rfl<;>rfl
   unfold nrF;rw[zau H]
   show w3 _ 6=_
   rw[zIS M zov 6 (zbe _),show nsB nm1 6=[4,2,1,3,0,5] by decide];simp only[zxe,yoe];rw[C 0 zov,C 1 zov,C 2 zov,C 3 zov,C 4 zov,C 5 zov]
   rfl
variable {a b:Pt}
theorem zKD{P:List Pt}(h:0<yW (arZ P 0 1)):pK P:=zB1 λe=>by
 have:arZ P 0 1=0:=e;rw[this] at h;exact absurd h zov
theorem zW0(h:a.x<b.x/\a.y<b.y/\a.z<b.z){us:List B3}{F:List Fc}(hu:us.length<=512/\F.length<=256)(hF:∀f,f<F.length->∃d,mZ a b us d (F.getD f zA)):okS (us.map (cU a b),F,[]):=by
 refine⟨⟨⟨?_,?_⟩,zqe _⟩,λf C=>?_,λf C x hx=>?_⟩
 · show(us.map (cU a b)).length<=1000
   rw[zde];omega
 · show F.length<=1000
   omega
 · obtain⟨d,_,c,_,_,i,j,k,l,U,_⟩:=hF f C
   show(F.getD f zA).2.1.length<=16/\∀l,l<(F.getD f zA).2.1.length->((F.getD f zA).2.1.getD l []).length<=64
   rw[U];refine⟨show 1<=16 by decide,λm O=>?_⟩;have G:m=0:=by have:m<1:=O;omega
   subst G
   show 4<=64
   decide
 · obtain⟨d,M⟩:=hF f C
   have D:=zPG h C M;obtain⟨J,ht,Z,H⟩:=zDI C M;obtain⟨v1,v2,v3,v4,rfl⟩:∃v1 v2 v3 v4,J=[v1,v2,v3,v4]:=by
    match J,Z with
    |[v1,v2,v3,v4],_=>exact⟨_,_,_,_,rfl⟩
   have e:tQ (us.map (cU a b),F,[]) f=[[v1,v2,v3,v4].map λu=>gY (F.getD f zA).1 (cU a b u)]:=zWC H;unfold zCU at D;rw[e] at D hx;rw[zne.1 hx];exact zKD D
theorem zW4(h:oQ a b):blH a b:=by
 have C:=zQQ h;refine⟨λx hx=>?_,λ_=>?_,?_⟩
 · have:x=bB a b:=zne.1 hx
   rw[this];exact zKD (zXC C.1 C.2.1)
 · rw[zKC C.1 C.2.1,mE]
   exact zW0 C ⟨by decide,show 6<=256 by decide⟩ (zQE C)
 · rw[zQT h]
   obtain⟨h0,h1,h2,h3,J,H⟩:=zJB (a:=a) (b:=b);refine zW0 C ⟨by decide,show 6<=256 by decide⟩ λf G=>?_;have D:f<6:=G;have:f=0\/f=1\/f=2\/f=3\/f=4\/f=5:=by omega
   rcases this with rfl|rfl|rfl|rfl|rfl|rfl
   · exact⟨_,h0⟩
   · exact⟨_,h1⟩
   · exact⟨_,h2⟩
   · exact⟨_,h3⟩
   · exact⟨_,J⟩
   · exact⟨_,H⟩
def zK7(r:Rat)(n:Int):Prop:=¬((yW r<0\/n<0)\/64<n)
def eP(r:Rat)(n:Int):Rat:=if zK7 r n then gS r n else 0
def eQ(r:Rat)(n:Int):Rat:=if zK7 r n then zBF r n else 0
theorem zVA{r:Rat}{n:Int}(h:(yW r<0\/n<0)\/64<n):eP r n=0/\eQ r n=0/\¬zK7 r n:=⟨zae λe=>e h,zae λe=>e h,λe=>e h⟩
theorem zEQ{r:Rat}{n:Int}(h:¬((yW r<0\/n<0)\/64<n)):eP r n=gS r n/\eQ r n=zBF r n/\¬r<0/\zK7 r n:=⟨zau h,zau h,λe=>h (.inl (.inl (qW.2 e))),h⟩
theorem yGI{r:Rat}{n:Int}(h:¬((yW r<0\/n<0)\/64<n)):(↑(kN n):Int)=n/\kN n<=64:=by unfold kN;omega
theorem u5{a b:Rat}:0<=wQ a b↔b<=a:=by unfold wQ;grind
theorem zTU{r:Rat}{n:Int}(h0:¬r<0)(h:gS r n*gS r n=r):gS r n=zBF r n:=zYF h0 (by rw[h];exact Rat.lt_irrefl)
theorem zVG{r:Rat}(h:¬r<0):nL r 0=r:=by unfold nL;grind
theorem yGA{a:Rat}(n:Int)(h:¬a<0):zQ6 a a n=gS a n:=by unfold zQ6;rw[zae h,zVG h]
abbrev Tri:=T3 Pt
def pnA(s:Sd)(i:Int):Pt:=s.1.getD i.toNat zT
def inR(s:Sd)(i:Int):Prop:=0<=i/\i<s.1.length
def cnT(s:Sd)(l:List Int):Tri:=T3.mk (pnA s (l.getD 0 0)) (pnA s (l.getD 1 0)) (pnA s (l.getD 2 0))
def yGU(s:Sd)(l:List Int):Nat->Tri
  |0=>T3.mk zT zT zT
  |i+1=>(yGU s l i).set i (pnA s (l.getD i 0))
def yGM(s:Sd)(l:List Int)(q:Nat):Tri:=T3.mk (pnA s (l.getD 0 0)) (pnA s (l.getD (q+1) 0)) (pnA s (l.getD (q+2) 0))
def zLQ(s:Sd)(l:List Int):Nat->List Tri:=uD (yGM s l)
def kZ(s:Sd)(ls:List (List Int)):Nat->List Tri:=jY λi=>zLQ s (ls.getD i []) ((ls.getD i []).length-2)
theorem zWH{s:Sd}{l:List Int}{kq:Nat}(h:2<=kq):zLQ s l (kq-2)++[cnT s [l.getD 0 0,l.getD (kq-1) 0,l.getD kq 0]]=zLQ s l (kq+1-2):=by
 obtain⟨q,rfl⟩:∃q,kq=q+2:=⟨kq-2,by omega⟩;rw[show q+2+1-2=q+1 by omega,z8e,show q+2-1=q+1 by omega]
 rfl
theorem zWI{s:Sd}{ls:List (List Int)}{i kq:Nat}(h:kq-2=(ls.getD i []).length-2):kZ s ls i++zLQ s (ls.getD i []) (kq-2)=kZ s ls (i+1):=by
 rw[h];rfl
theorem zQC{s:Sd}{ls:List (List Int)}(h:∀u,u<ls.length->(ls.getD u []).length<=1000):∀i,i<=ls.length->(kZ s ls i).length<=1000*i
  |0,_=>zqe _
  |i+1,hi=>by
   have h1:=zQC (s:=s) h i zos;have h2:=h i zos;have h3:(zLQ s (ls.getD i []) ((ls.getD i []).length-2)).length=(ls.getD i []).length-2:=xH _ _
   show(kZ s ls i++zLQ s (ls.getD i []) ((ls.getD i []).length-2)).length<=_
   rw[lAz];omega
theorem lK{α:Type}{l:List α}{i:Nat}(d:α)(h:i<l.length):l.take i++[l.getD i d]=l.take (i+1):=by
 rw[zoa,zoc h,z2u h];rfl
def bF(s:Sd)(F:List Fc):Nat->List Tri:=jY λf=>kZ s (F.getD f zA).2.1 (F.getD f zA).2.1.length
def smT(t:Tri):Pt:=rD (rD t.x t.y) t.z
def scT(q:Rat)(p:Pt):Pt:=T3.mk (q*p.x) (q*p.y) (q*p.z)
def dW(l:List Tri):Rat:=l.foldl (λa t=>a+lH t.x t.y t.z) 0
def zHY(l:List Tri):Pt:=l.foldl (λa t=>rD a (scT (lH t.x t.y t.z) (smT t))) zT
def j7(l:List Tri):Pt:=l.foldl (λa t=>rD a (uC (kT t.y t.x) (kT t.z t.x))) zT
theorem zGF(l:List Tri)(t:Tri):dW l+lH t.x t.y t.z=dW (l++[t]):=by unfold dW;rw[yze];rfl
theorem zQ0(l:List Tri)(t:Tri):rD (zHY l) (scT (lH t.x t.y t.z) (smT t))=zHY (l++[t]):=by unfold zHY;rw[yze];rfl
theorem zQZ(l:List Tri)(t:Tri):rD (j7 l) (uC (kT t.y t.x) (kT t.z t.x))=j7 (l++[t]):=by unfold j7;rw[yze];rfl
def zCS(s:Sd):Rat:=dW (bF s s.2.1 s.2.1.length)
def yEX(s:Sd):Pt:=zHY (bF s s.2.1 s.2.1.length)
def arV(s:Sd)(f:Fc):Pt:=scT (1/2) (j7 (kZ s f.2.1 f.2.1.length))
def lqP(k:Nat)(p:Pt):Prop:=lq p.x<=k/\lq p.y<=k/\lq p.z<=k
theorem zEX{k:Nat}(h:1<=k):lqP k zT:=by
 have:=rX;exact⟨by show lq 0<=k;omega,by show lq 0<=k;omega,by show lq 0<=k;omega⟩
theorem zDB{a b:Pt}{k l:Nat}(ha:lqP k a)(hb:lqP l b):lqP (k+l+1) (rD a b):=by
 obtain⟨M,J,H⟩:=ha;obtain⟨G,D,C⟩:=hb;have h1:=jX a.x b.x;have h2:=jX a.y b.y;have h3:=jX a.z b.z;exact⟨by show lq (a.x+b.x)<=_;omega,by show lq (a.y+b.y)<=_;omega,by show lq (a.z+b.z)<=_;omega⟩
theorem zP2{a b:Pt}{k l:Nat}(ha:lqP k a)(hb:lqP l b):lqP (k+l+1) (kT a b):=by
 obtain⟨M,J,H⟩:=ha;obtain⟨G,D,C⟩:=hb;have h1:=mN a.x b.x;have h2:=mN a.y b.y;have h3:=mN a.z b.z;exact⟨by show lq (a.x-b.x)<=_;omega,by show lq (a.y-b.y)<=_;omega,by show lq (a.z-b.z)<=_;omega⟩
theorem zR6{q:Rat}{b:Pt}{k l:Nat}(ha:lq q<=k)(hb:lqP l b):lqP (k+l) (scT q b):=by
 obtain⟨G,D,C⟩:=hb;have h1:=rA q b.x;have h2:=rA q b.y;have h3:=rA q b.z;exact⟨by show lq (q*b.x)<=_;omega,by show lq (q*b.y)<=_;omega,by show lq (q*b.z)<=_;omega⟩
theorem zG8{a b:Pt}{k l:Nat}(ha:lqP k a)(hb:lqP l b):lqP (2*k+2*l+1) (uC a b):=by
 obtain⟨M,J,H⟩:=ha;obtain⟨G,D,C⟩:=hb;have m:∀x y z w:Rat,lq x<=k->lq y<=l->lq z<=k->lq w<=l->lq (x*y-z*w)<=2*k+2*l+1:=λx y z w h1 h2 h3 O=>by
  have:=mN (x*y) (z*w);have:=rA x y;have:=rA z w;omega
 exact⟨m _ _ _ _ J C H D,m _ _ _ _ H G M C,m _ _ _ _ M D J G⟩
theorem zZE{a b:Pt}{k l:Nat}(ha:lqP k a)(hb:lqP l b):lq (vZ a b)<=3*k+3*l+2:=by
 obtain⟨U,O,M⟩:=ha;obtain⟨J,H,G⟩:=hb;have h1:=rA a.x b.x;have h2:=rA a.y b.y;have h3:=rA a.z b.z;have D:=jX (a.x*b.x) (a.y*b.y);have C:=jX (a.x*b.x+a.y*b.y) (a.z*b.z);unfold vZ;omega
theorem zP3{a b c:Pt}{k:Nat}(ha:lqP k a)(hb:lqP k b)(hc:lqP k c):lq (lH a b c)<=15*k+5:=by
 have:=zZE ha (zG8 hb hc);unfold lH;omega
def lqT(k:Nat)(t:Tri):Prop:=lqP k t.x/\lqP k t.y/\lqP k t.z
theorem zPX{k:Nat}:∀(l:List Tri) (a:Rat),(∀t,t∈l->lqT k t)->lq (l.foldl (λa t=>a+lH t.x t.y t.z) a)<=lq a+l.length*(15*k+6)
  |[],a,_=>by simp
  |t::l,a,h=>by
   obtain⟨h1,h2,h3⟩:=h t (.head _);have hd:=zP3 h1 h2 h3;have ha:=jX a (lH t.x t.y t.z);have ih:=zPX l (a+lH t.x t.y t.z) (λu hu=>h u (.tail _ hu));rw[zxi,lC,yfe];omega
theorem yDY{k:Nat}{t:Tri}(h:lqT k t):lqP (3*k+2) (smT t):=by
 have:=zDB (zDB h.1 h.2.1) h.2.2;rw[show k+k+1+k+1=3*k+2 by omega] at this;exact this
theorem zAM{k l:Nat}{p:Pt}(h:lqP k p)(hkl:k<=l):lqP l p:=⟨zci h.1 hkl,zci h.2.1 hkl,zci h.2.2 hkl⟩
theorem zPY{k:Nat}:∀(l:List Tri) (a:Pt) (m:Nat),lqP m a->(∀t,t∈l->lqT k t)->lqP (m+l.length*(18*k+8)) (l.foldl (λa t=>rD a (scT (lH t.x t.y t.z) (smT t))) a)
  |[],a,m,ha,_=>by simpa using ha
  |t::l,a,m,ha,h=>by
   have ht:=h t (.head _);have hd:=zP3 ht.1 ht.2.1 ht.2.2;have hs:=zR6 hd (yDY ht);have ih:=zPY l _ _ (zDB ha hs) (λu hu=>h u (.tail _ hu));rw[zxi,lC,yfe];exact zAM ih zos
theorem zPW{k:Nat}:∀(l:List Tri) (a:Pt) (m:Nat),lqP m a->(∀t,t∈l->lqT k t)->lqP (m+l.length*(8*k+6)) (l.foldl (λa t=>rD a (uC (kT t.y t.x) (kT t.z t.x))) a)
  |[],a,m,ha,_=>by simpa using ha
  |t::l,a,m,ha,h=>by
   have ht:=h t (.head _);have hs:=zG8 (zP2 ht.2.1 ht.1) (zP2 ht.2.2 ht.1);have ih:=zPW l _ _ (zDB ha hs) (λu hu=>h u (.tail _ hu));rw[zxi,lC,yfe];exact zAM ih zos
theorem zTS{β:Type}{h:Mem}{v:Go.Value}{k:Nat}{σ:Rp β}{x:List Pt×β}(r:(rpP (rpS (rpT (rpQ k))) σ).Is h v x):∀i,i<x.1.length->lqP k (x.1.getD i zT):=by
 obtain⟨cs,⟨a,b,rfl,⟨D,ds,rfl,h1,C⟩,_⟩,_⟩:=r;intro i hi;have:=C.get (zoc hi);obtain⟨_,_,_,⟨_,hx⟩,_,_,_,⟨_,hy⟩,⟨_,hz⟩⟩:=this;rw[zoa,zoc hi];exact⟨hx,hy,hz⟩
theorem zRF{h:Mem}{cs:List Go.Value}{a b:Pt}{k l:Nat}(r:(rpT (rpQ k)).R h cs a)(e:a=b)(hl:lqP l b):(rpT (rpQ l)).R h cs b:=by
 subst e;obtain⟨x,_,rfl,⟨G,_⟩,y,z,rfl,⟨D,_⟩,⟨C,_⟩⟩:=r;exact⟨x,_,I,⟨G,hl.1⟩,y,z,I,⟨D,hl.2.1⟩,⟨C,hl.2.2⟩⟩
def zOM(s:Sd)(f:Fc):Prop:=(∀u v,u<f.2.1.length->v<(f.2.1.getD u []).length->inR s ((f.2.1.getD u []).getD v 0))/\(∀u,u<f.2.1.length->(f.2.1.getD u []).length<=1000)/\f.2.1.length<=1000
def zOK(s:Sd)(F:List Fc):Prop:=(∀i,i<F.length->zOM s (F.getD i zA))/\F.length<=1000/\(bF s F F.length).length<=1000
theorem zON{s:Sd}{k:Nat}(hp:∀i,i<s.1.length->lqP k (s.1.getD i zT)){f:Fc}(hf:zOM s f):∀t,t∈kZ s f.2.1 f.2.1.length->lqT k t:=by
 intro t G;obtain⟨u,D,h1⟩:=eV G;obtain⟨q,H,rfl⟩:=zC9 h1;have g:∀v,v<(f.2.1.getD u []).length->lqP k (pnA s ((f.2.1.getD u []).getD v 0)):=λv C=>by
  obtain⟨h1,h2⟩:=hf.1 u v D C;exact hp _ zos
 exact⟨g 0 zos,g (q+1) zos,g (q+2) zos⟩
theorem zL5{s:Sd}{F:List Fc}{i n:Nat}(h:i<=n):(bF s F i).length<=(bF s F n).length:=by
 induction n with
 |zero=>rw[show i=0 by omega];exact zbe _
 |succ n ih=>
  rcases ztu i (n+1) with h1|h1
  · refine zci (ih zos) ?_
    show _<=(bF s F n++_).length
    rw[lAz];omega
  · rw[show i=n+1 by omega];exact zbe _
theorem zFP{s:Sd}{F:List Fc}{k:Nat}(ho:zOK s F)(hp:∀i,i<s.1.length->lqP k (s.1.getD i zT)){i q:Nat}(hi:i<F.length):
 (bF s F i++(kZ s (F.getD i zA).2.1 (F.getD i zA).2.1.length).take q).length<=1000/\∀t,t∈bF s F i++(kZ s (F.getD i zA).2.1 (F.getD i zA).2.1.length).take q->lqT k t:=by
 have h1:=zL5 (s:=s) (F:=F) (show i+1<=F.length from hi);have h2:(bF s F (i+1)).length=(bF s F i++kZ s (F.getD i zA).2.1 (F.getD i zA).2.1.length).length:=I;rw[lAz] at h2;refine⟨by rw[lAz,zei];have:=ho.2.2;omega,λt C=>?_⟩
 rcases zni.1 C with h3|h3
 · obtain⟨u,G,D⟩:=eV h3
   exact zON hp (ho.1 u zos) t D
 · exact zON hp (ho.1 i hi) t (zve h3)
theorem zFB{s:Sd}{F:List Fc}(ho:zOK s F){i:Nat}(hi:i<F.length):(kZ s (F.getD i zA).2.1 (F.getD i zA).2.1.length).length<=1000:=by
 have h1:=zL5 (s:=s) (F:=F) (show i+1<=F.length from hi);have h2:(bF s F (i+1)).length=(bF s F i++kZ s (F.getD i zA).2.1 (F.getD i zA).2.1.length).length:=I;rw[lAz] at h2;have:=ho.2.2;omega
theorem eO{n a:Nat}(h:n<=1000):n*a<=1000*a:=zfu _ h
theorem yGG{l:List Tri}{k:Nat}(h:l.length<=1000/\∀t,t∈l->lqT k t):lq (dW l)<=20000*k+100000:=by
 have h1:=zPX l 0 h.2;have h2:=eO (a:=15*k+6) h.1;have h3:=rX;unfold dW;omega
theorem lq_C{l:List Tri}{k:Nat}(h:l.length<=1000/\∀t,t∈l->lqT k t):lqP (20000*k+100000) (zHY l):=by
 have h1:=zPY l zT 1 (zEX zov) h.2;have h2:=eO (a:=18*k+8) h.1;exact zAM h1 zos
theorem lq_V{l:List Tri}{k:Nat}(h:l.length<=1000/\∀t,t∈l->lqT k t):lqP (20000*k+100000) (j7 l):=by
 have h1:=zPW l zT 1 (zEX zov) h.2;have h2:=eO (a:=8*k+6) h.1;exact zAM h1 zos
def cnS(s:Sd):Pt:=if((4:Int):Rat)*zCS s=0 then zT else scT (((1:Int):Rat)/(((4:Int):Rat)*zCS s)) (yEX s)
def cnO(s:Sd):Prop:=¬((4:Int):Rat)*zCS s=0
def arS(s:Sd)(d:Int):Nat->Rat×Rat
  |0=>(0,0)
  |i+1=>((arS s d i).1+eP (vZ (arV s (s.2.1.getD i zA)) (arV s (s.2.1.getD i zA))) d,(arS s d i).2+eQ (vZ (arV s (s.2.1.getD i zA)) (arV s (s.2.1.getD i zA))) d)
theorem yGF{a:Rat}{k:Nat}(h:lq a<=k)(n:Int):lq (eP a n)<=k+140/\lq (eQ a n)<=k+140:=by
 have h0:=rX;unfold eP eQ
 by_cases ho:zK7 a n
 · rw[zau ho,zau ho]
   exact⟨zZC h n,zZB h (zEQ (zdi (λe=>e ho))).2.2.1 n⟩
 · rw[zae ho,zae ho];omega
def yFD(s:Sd):Prop:=∀i,i<s.2.1.length->lq (vZ (arV s (s.2.1.getD i zA)) (arV s (s.2.1.getD i zA)))<=200
theorem zOC{s:Sd}(h:yFD s)(d:Int):∀i,i<=s.2.1.length->lq (arS s d i).1<=1+341*i/\lq (arS s d i).2<=1+341*i
  |0,_=>by have h0:=rX;exact⟨by show lq 0<=_;omega,by show lq 0<=_;omega⟩
  |i+1,hi=>by
   obtain⟨h1,h2⟩:=zOC h d i zos;obtain⟨h3,h4⟩:=yGF (h i zos) d;have h5:=jX (arS s d i).1 (eP (vZ (arV s (s.2.1.getD i zA)) (arV s (s.2.1.getD i zA))) d);have h6:=jX (arS s d i).2 (eQ (vZ (arV s (s.2.1.getD i zA)) (arV s (s.2.1.getD i zA))) d);exact⟨by show lq (_+_)<=_;omega,by show lq (_+_)<=_;omega⟩
theorem reb2{h:Mem}{cs:List Go.Value}{a b:Rat×Rat}{k l k' l':Nat}(r:(rpP (rpQ k) (rpQ l)).R h cs a)(e:a=b)(h1:lq b.1<=k')(h2:lq b.2<=l'):(rpP (rpQ k') (rpQ l')).R h cs b:=by
 subst e;obtain⟨x,y,rfl,⟨D,_⟩,⟨C,_⟩⟩:=r;exact⟨x,y,I,⟨D,h1⟩,⟨C,h2⟩⟩
def pI(a b c:Int):Pt:=T3.mk (a:Rat) (b:Rat) (c:Rat)
def bkS(a b:Pt):Sd:=(blP a b,blF a b,[])
def lgS(s:Sd):Prop:=∀f,f<s.2.1.length->(s.2.1.getD f zA).2.1.length<=10000/\∀l,l<(s.2.1.getD f zA).2.1.length->((s.2.1.getD f zA).2.1.getD l []).length<=10000
def yF9(s:Sd):Prop:=(nmA s/\lgS s)/\zOK s s.2.1/\yFD s
structure SaneF:Prop where
 h:oQ (pI 0 0 0) (pI 2 2 2)->blH (pI 0 0 0) (pI 2 2 2)
 ok:yF9 (bkS (pI 0 0 0) (pI 2 2 2))
 vol:zCS (bkS (pI 0 0 0) (pI 2 2 2))/((6:Int):Rat)=((8:Int):Rat)
 cen:cnS (bkS (pI 0 0 0) (pI 2 2 2))=pI 1 1 1/\cnO (bkS (pI 0 0 0) (pI 2 2 2))
 area:arS (bkS (pI 0 0 0) (pI 2 2 2)) 0 (bkS (pI 0 0 0) (pI 2 2 2)).2.1.length=(((24:Int):Rat),((24:Int):Rat))
theorem yAI:gS ((2:Int):Rat) 1=((1:Int):Rat):=by
 have h1:flN ((2:Int):Rat) (kN 1)=8:=by decide
 have h2:sqN 8=2:=zMJ zov zov;have h3:kN 1=1:=by decide
 unfold gS;rw[h1,h2,h3];unfold ovQ
 decide +kernel
theorem zN2:zK7 ((2:Int):Rat) 1/\eP ((2:Int):Rat) 1=((1:Int):Rat)/\eQ ((2:Int):Rat) 1=jS 3 2:=by
 have h0:¬((2:Int):Rat)<0:=by decide +kernel
 have H:¬((yW ((2:Int):Rat)<0\/(1:Int)<0)\/64<(1:Int)):=λe=>by
  rcases e with(e|e)|e
  · exact h0 (qW.1 e)
  · omega
  · omega
 obtain⟨G,D,M,C⟩:=zEQ H;refine⟨C,G.trans yAI,?_⟩;rw[D];unfold zBF;rw[zae h0,yAI,zau (by decide +kernel)];have h3:kN 1=1:=by decide
 have J:jS 3 2=3/2:=I;rw[h3,J];unfold ovQ
 decide +kernel
theorem yAM:zK7 (jS 9 4) 1/\eP (jS 9 4) 1=eQ (jS 9 4) 1:=by
 have C:jS 9 4=9/4:=I;have h0:¬jS 9 4<0:=by rw[C];decide +kernel
 have J:¬((yW (jS 9 4)<0\/(1:Int)<0)\/64<(1:Int)):=λe=>by
  rcases e with(e|e)|e
  · exact h0 (qW.1 e)
  · omega
  · omega
 obtain⟨H,G,M,D⟩:=zEQ J;refine⟨D,?_⟩;rw[H,G];have h1:flN (9/4:Rat) (kN 1)=9:=by decide +kernel
 have h2:sqN 9=3:=zMJ zov zov;have h3:kN 1=1:=by decide
 refine zTU h0 ?_;unfold gS;rw[C,h1,h2,h3];unfold ovQ
 decide +kernel
variable {a b:Pt}
def bxS(a b:Pt):Sd:=(uB1.map (cU a b),fB3 a b,[])
theorem zQR(h:oQ a b):bkS a b=bxS a b:=by
 obtain⟨h1,h2⟩:=zOU h;unfold bkS bxS;rw[h1,h2]
def cC(a b:Pt)(i:Nat):Pt:=cU a b (uB1.getD i u0)
theorem u4(i j k l:Nat)(hi:i<8)(hj:j<8)(hk:k<8)(hl:l<8):kZ (bxS a b) [[(i:Int),(j:Int),(k:Int),(l:Int)]] 1=[T3.mk (cC a b i) (cC a b j) (cC a b k),T3.mk (cC a b i) (cC a b k) (cC a b l)]:=by
 have g:∀m:Nat,m<8->pnA (bxS a b) (m:Int)=cC a b m:=λm C=>by
  unfold pnA;rw[z6u];exact dL (l:=uB1) C
 show[]++([]++[T3.mk (pnA (bxS a b) (i:Int)) (pnA (bxS a b) (j:Int)) (pnA (bxS a b) (k:Int))]++[T3.mk (pnA (bxS a b) (i:Int)) (pnA (bxS a b) (k:Int)) (pnA (bxS a b) (l:Int))])=_
 rw[g i hi,g j hj,g k hk,g l hl];rfl
theorem zO0:bF (bxS a b) (fB3 a b) 6=[T3.mk (cC a b 0) (cC a b 1) (cC a b 3),T3.mk (cC a b 0) (cC a b 3) (cC a b 2),T3.mk (cC a b 4) (cC a b 6) (cC a b 7),T3.mk (cC a b 4) (cC a b 7) (cC a b 5),T3.mk (cC a b 0) (cC a b 4) (cC a b 5),T3.mk (cC a b 0) (cC a b 5) (cC a b 1),T3.mk (cC a b 2) (cC a b 3) (cC a b 7),T3.mk (cC a b 2) (cC a b 7) (cC a b 6),T3.mk (cC a b 0) (cC a b 2) (cC a b 6),T3.mk (cC a b 0) (cC a b 6) (cC a b 4),T3.mk (cC a b 1) (cC a b 5) (cC a b 7),T3.mk (cC a b 1) (cC a b 7) (cC a b 3)]:=by
 show((((([]++kZ (bxS a b) [[((0:Nat):Int),((1:Nat):Int),((3:Nat):Int),((2:Nat):Int)]] 1)++kZ (bxS a b) [[((4:Nat):Int),((6:Nat):Int),((7:Nat):Int),((5:Nat):Int)]] 1)++kZ (bxS a b) [[((0:Nat):Int),((4:Nat):Int),((5:Nat):Int),((1:Nat):Int)]] 1)++kZ (bxS a b) [[((2:Nat):Int),((3:Nat):Int),((7:Nat):Int),((6:Nat):Int)]] 1)++kZ (bxS a b) [[((0:Nat):Int),((2:Nat):Int),((6:Nat):Int),((4:Nat):Int)]] 1)++kZ (bxS a b) [[((1:Nat):Int),((5:Nat):Int),((7:Nat):Int),((3:Nat):Int)]] 1=_
 rw[u4 0 1 3 2 zov zov zov zov,u4 4 6 7 5 zov zov zov zov,u4 0 4 5 1 zov zov zov zov,u4 2 3 7 6 zov zov zov zov,u4 0 2 6 4 zov zov zov zov,u4 1 5 7 3 zov zov zov zov]
 rfl
theorem zSV:zCS (bxS a b)=6*((b.x-a.x)*(b.y-a.y)*(b.z-a.z)):=by
 have e:zCS (bxS a b)=dW (bF (bxS a b) (fB3 a b) 6):=I;rw[e,zO0];simp only[dW,List.foldl,lH,vZ,uC,cC,cU,cB,uB1,zxu,z0i,if_true,z4e,if_false];generalize a.x=p;generalize a.y=q;generalize a.z=r;generalize b.x=u;generalize b.y=v;generalize b.z=w;grind
theorem yEW:yEX (bxS a b)=scT (12*((b.x-a.x)*(b.y-a.y)*(b.z-a.z))) (rD a b):=by
 have e:yEX (bxS a b)=zHY (bF (bxS a b) (fB3 a b) 6):=I;rw[e,zO0];simp only[zHY,List.foldl,lH,vZ,uC,cC,cU,cB,uB1,zxu,z0i,if_true,z4e,if_false,smT,scT,rD];generalize a.x=p;generalize a.y=q;generalize a.z=r;generalize b.x=u;generalize b.y=v;generalize b.z=w;rw[oE];refine⟨?_,?_,?_⟩<;>simp only<;>grind
def yC2(p d:Pt)(t:Rat):Pt:=rD p (scT t d)
section
variable {a b:Pt}
def sI(a b q:Pt)(v:Nat):Prop:=a.at v<q.at v/\q.at v<b.at v
def kI(a b q:Pt)(v:Nat):Prop:=a.at v<=q.at v/\q.at v<=b.at v
end
def hitE(p A B v:Pt):Prop:=if uC (kT A p) (kT B p)=zT then uC (kT B A) v=zT else lH (kT A p) (kT B p) v=0
def vK(k:Int):Pt:=T3.mk ((1:Int):Rat) (k:Rat) ((k*k:Int):Rat)
theorem zVV{q:Nat->Prop}:∀n,q n->∃k,k<=n/\q k/\∀j,j<k->¬q j:=by
 intro n
 induction n using Nat.strongRecOn with
 |_ n ih=>
  intro hn
  by_cases h:∃j,j<n/\q j
  · obtain⟨j,hj,hq⟩:=h
    obtain⟨k,h1,h2,h3⟩:=ih j hj hq;exact⟨k,by omega,h2,h3⟩
  · exact⟨n,zbe n,hn,λj hj hq=>h ⟨j,hj,hq⟩⟩
theorem zVW{q:Nat->Prop}(h:∃n,q n):∃k,q k/\∀j,j<k->¬q j:=by
 obtain⟨n,C⟩:=h;obtain⟨k,_,h2⟩:=zVV n C;exact⟨k,h2⟩
def yD2(q:Nat->Prop):Nat:=if h:∃n,q n then Classical.choose (zVW h) else 0
abbrev PIr:=Int×Int
def mmI(a b:Int):PIr:=(min a b,max a b)
def ptI(P:List Pt)(i:Int):Pt:=gp P i.toNat
def sxE(P:List Pt)(x:List Int)(S:List PIr):Nat->List PIr
  |0=>S
  |k+1=>if mmI (x.getD k 0) (x.getD ((k+1)%x.length) 0)∈sxE P x S k\/ptI P (x.getD k 0)=ptI P (x.getD ((k+1)%x.length) 0) then sxE P x S k else sxE P x S k++[mmI (x.getD k 0) (x.getD ((k+1)%x.length) 0)]
def slE(P:List Pt)(L:List (List Int))(S:List PIr):Nat->List PIr
  |0=>S
  |l+1=>sxE P (L.getD l []) (slE P L S l) (L.getD l []).length
def sfE(s:Sd):Nat->List PIr
  |0=>[]
  |f+1=>slE s.1 (s.2.1.getD f zA).2.1 (sfE s f) (s.2.1.getD f zA).2.1.length
variable {a b p d:Pt}
structure Ax(a b p d:Pt)(M:Rat)(u:Nat)(l h:Rat):Prop where
 lt:l<h
 z:d.at u=0->l= -M/\h=M
 n:d.at u≠0->(-M<l/\l<M)/\-M<h/\h<M
 s:∀t,-M<t->t<M->(sI a b (yC2 p d t) u↔l<t/\t<h)
 k:∀t,-M<t->t<M->(kI a b (yC2 p d t) u↔l<=t/\t<=h)
 pos:0<d.at u->l*d.at u=a.at u-p.at u/\h*d.at u=b.at u-p.at u
 neg:d.at u<0->l*d.at u=b.at u-p.at u/\h*d.at u=a.at u-p.at u
variable {a b p d:Pt}
section
variable {a b:Pt}
end
abbrev Fm:=Pl×List (List Pt)×Int×Int
abbrev Md:=List Fm×List (List Pt)
abbrev ed0:List Pt:=List.replicate 2 zT
abbrev fm0:Fm:=(zRI,([]:List (List Pt)),(0:Int),(0:Int))
def zMN(P:List Pt)(L:List (List Int)):Nat->List (List Pt):=uD λl=>zFV P (L.getD l []) (L.getD l []).length
def fmF(s:Sd)(f:Fc):Fm:=(f.1,zMN s.1 f.2.1 f.2.1.length,(↑(axI f.1.1):Int),(↑(axJ f.1.1):Int))
def edP(P:List Pt)(e:PIr):List Pt:=[ptI P e.1,ptI P e.2]
def fmT(s:Sd):Nat->List Fm:=uD λf=>fmF s (s.2.1.getD f zA)
def zI0(s:Sd):Md:=(fmT s s.2.1.length,(sfE s s.2.1.length).map (edP s.1))
def whM(f:Fm)(p:Pt):Int:=whZ f.2.1 (pr p f.2.2.1.toNat f.2.2.2.toNat) f.2.2.1.toNat f.2.2.2.toNat
def onM(md:Md)(p:Pt)(f:Nat):Prop:=(sdZ (md.1.getD f fm0).1 p=0/\0<(md.1.getD f fm0).2.1.length)/\0<=whM (md.1.getD f fm0) p
def onA(md:Md)(p:Pt):Prop:=∃f,f<md.1.length/\onM md p f
def cnM(f:Fm)(d:Pt):Rat:=vZ f.1.1 d
def hnM(f:Fm)(p:Pt):Rat:=f.1.2-vZ f.1.1 p
def skM(f:Fm)(p d:Pt):Prop:=yW (cnM f d)*yW (hnM f p)<=0\/f.2.1.length=0
def wrM(f:Fm)(p d:Pt):Int:=whM f (yC2 p d (hnM f p/cnM f d))
def bdM(f:Fm)(p d:Pt):Prop:=¬skM f p d/\wrM f p d=0
def crM(md:Md)(p d:Pt):Nat->Int×Int
  |0=>(0,0)
  |n+1=>if skM (md.1.getD n fm0) p d then crM md p d n else if wrM (md.1.getD n fm0) p d=1 then(if 0<cnM (md.1.getD n fm0) d then((crM md p d n).1+1,(crM md p d n).2) else((crM md p d n).1,(crM md p d n).2+1)) else crM md p d n
def nbM(md:Md)(p d:Pt):Prop:=∀f,f<md.1.length->¬bdM (md.1.getD f fm0) p d
def clM(md:Md)(p v:Pt):Prop:=∀q,q<md.2.length->¬hitE p ((md.2.getD q ed0).getD 0 zT) ((md.2.getD q ed0).getD 1 zT) v
def yGP(md:Md)(p:Pt):Nat:=yD2 λk=>clM md p (vK k)
def crA(md:Md)(p d:Pt):Int:=if nbM md p d then(crM md p d md.1.length).1 else 0
def crB(md:Md)(p d:Pt):Int:=if nbM md p d then(crM md p d md.1.length).2 else 0
section
variable {md:Md}{p d:Pt}{f:Nat}
end
def wdM(md:Md)(p:Pt):Int:=if onA md p then 0 else crA md p (vK ↑(yGP md p))-crB md p (vK ↑(yGP md p))
end Bk
namespace Bk
open Go Go.RowKit
open Classical
section
variable {P:Program}{n:Nat}{w0:World}{h0:Mem}{e:List (Nat×Value)}{L:List Res}{h:Mem}{Q:Exit->Act->World->Prop}
variable {ds:Option Tmp}{ty:TypeId}{ps:String}{af:Array Edge}{gd:Option (Nat×Bool)}
structure MapTy(P:Program)(mt kt et it:TypeId):Prop where
 m:P.underlying mt=some (.map kt et)
 k:P.underlying kt=some (.array 2 it)
 i:P.underlying it=some (.int .i64)
 sz:∀w,(Go.sizeOf it).run P w=.ok 1 w
 ag:∀w,(isAgg it).run P w=.ok false w
 z:∀w,(zeroValue et).run P w=.ok (.bool false) w
variable {mt kt et it:TypeId}
end
end Bk
namespace Bk
open Go Go.RowKit
section
variable {P:Program}{n:Nat}{w0:World}{h0:Mem}{e:List (Nat×Value)}{L:List Res}{h:Mem}{Q:Exit->Act->World->Prop}
variable {ty:TypeId}{ps:String}{af:Array Edge}
end
section
variable {α β:Type}{h:Mem}
end
end Bk
namespace Bk
open Classical
section
variable {P:List Pt}{x:List Int}{S T:List PIr}{u:Nat}
end
theorem yDQ{α:Type}(d:α){l:List α}{x:α}(h:x∈l):∃i,i<l.length/\x=l.getD i d:=by
 obtain⟨i,hi,e⟩:=List.mem_iff_getElem.1 h;refine⟨i,hi,?_⟩;rw[<-e,zoa,zoc hi]
 rfl
def inM(md:Md)(p:Pt):Int:=if onA md p then 0 else if 0<wdM md p then 1 else -1
end Bk
namespace Bk
open Go Go.RowKit
section
variable {P:Program}{n:Nat}{w0:World}{h0:Mem}{e:List (Nat×Value)}{L:List Res}{h:Mem}{Q:Exit->Act->World->Prop}
end
end Bk
namespace Go.Proofs.YtboaboflnckgoaaGreat
open Bk Go Tryz
attribute [local irreducible] GL GC GQ W OpV
section
variable{w0:World}{h0:Mem}(hs:MLe h0 (mem w0))
include hs
theorem zKM{k m n j:Nat}{vs:Value}{s:Sq}(rs:(tSd k m n j).Is h0 vs s){vf:Value}{f:(Pq×((List (List Int))×(List Nat)))}(rf:(tFc m n).Is h0 vf f)(hcd0:∀u v,u<f.2.1.length->v<(f.2.1.getD u []).length->0<=(f.2.1.getD u []).getD v 0/\(f.2.1.getD u []).getD v 0<s.1.length)(hcd1:s.1.length<=100000)(hcd2:∀u,u<f.2.1.length->(f.2.1.getD u []).length<=10000)(hcd3:f.2.1.length<=10000):
 Calls prog 136 #[vs,vf] w0 (Ret w0 h0 (λh r=>(tLL (k+1)).Is h r (zMN s.1 f.2.1 f.2.1.length))):=by
 refine cb2 39 vs vf func136 hs ?_;refine go2 ?_;refine nB rs λb2 au az=>(nB rf λb3 ar ay=>(uV ?_));refine lX (xB cD (y2u (y2i pH)) ay) λab bh=>(go5 ?_);refine xC 46 1 ?_;have ae:=RL.nil (ρ:=rpS (tPt (k+1))) (h:=h0);refine gcL (ι:=Nat×List (List Tq)×Value×List Value×Mem) (λ(l,D,C,G,ma)=>(MLe h0 ma/\(RL (tLs (k+1)) ma G D/\l<=f.2.1.length/\D=zMN s.1 f.2.1 l),[(2,vP b2 0),(5,C),(12,ab),(13,vI (↑(f.2.1).length:Int)),(14,vI ↑l)],[.gs 46 1 C D.length G,.var b3 83 ar,.var b2 50 au],ma,f.2.1.length-l)) (0,[],(.slice none 0 0),[],h0) ?_ ?_
 · exact⟨mle,ae,by omega,I⟩
 rintro⟨l,D,C,G,ma⟩ ⟨bk,O,ce,hD⟩
 refine yQ ?_;have ci:D.length=l:=by rw[hD];exact xH _ _
 refine gc6 (λao=>?_) λao=>?_
 ·
  refine go6 ?_;refine lX (xI [] l underlying81 fE bh) λbv bg=>(lX (xA fE bg) λax bf=>(oO ?_));refine xC 53 9 ?_;have ad:=RL.nil (ρ:=rpT (rpQ (k+1))) (h:=ma);refine gcL (ι:=Nat×List Tq×Value×List Value×Mem) (λ(u,E,H,J,mb)=>(MLe ma mb/\(RL (tPt (k+1)) mb J E/\u<=(f.2.1.getD l []).length/\E=zFV s.1 (f.2.1.getD l []) u),[(2,vP b2 0),(5,C),(8,H),(12,ab),(13,vI (↑(f.2.1).length:Int)),(14,vI ↑l),(18,ax),(19,vI (↑((f.2.1.getD l [])).length:Int)),(20,vI ↑u)],[.gs 53 9 H E.length J,.gs 46 1 C D.length G,.var b3 83 ar,.var b2 50 au],mb,(f.2.1.getD l []).length-u)) (0,[],(.slice none 0 0),[],ma) ?_ ?_
  · exact⟨mle,ad,by omega,I⟩
  rintro⟨u,E,H,J,mb⟩ ⟨bj,M,cb,hE⟩
  refine yQ ?_;have ch:E.length=u:=by rw[hE];exact xH _ _
  have cg:=hcd2 l oM;refine gc6 (λan=>?_) λan=>?_
  ·
   obtain⟨cd,cc⟩:=hcd0 l u oM oM;refine go6 ?_;refine lX (xI (0:Int) u underlying32 ty3 bf) λbu be=>(lX (xA ty3 be) λbt bd=>?_);obtain⟨rfl,bl,bi⟩:=kF bd;refine go6 ?_;refine lX (xB uS (y2i pH) az) λbs bc=>(go1 ?_);refine lX (xI zT (((f.2.1.getD l []).getD u 0).toNat) underlying46 zO bc) λbr bb=>(lX (xA zO bb) λbq ba=>(zF (zL (ρ:=(tPt (k+1))) (m:=1) (xs:=[(s.1.getD (((f.2.1.getD l []).getD u 0).toNat) zT)]) (ps':=[(0,_)]) underlying46 yM I I I (xE (yE oM)) e2z (zC I (y1e (y1u _) zT 0 dC) (ba.le (Le.t (Le.q (l:=k+1) oM))) zN) zok nP) I I I ?_))
   rintro bp ca ⟨bn,rfl,ak⟩
   refine zW (A:=[]) (ρ:=(tPt (k+1))) ak ?_;intro h1 am ac;refine xL (A:=[]) (yA (ρ:=(tPt (k+1))) (bytes:=168) underlying46 yM I I I I nP I I M.up ac bO bO) I I I ?_
   rintro aw bz ⟨aq,rfl,aj⟩
   refine go8 ?_;refine gqL ((u+1),(E++[(s.1.getD (((f.2.1.getD l []).getD u 0).toNat) zT)]),aw,aq,h1) ?_ ?_
   · exact⟨mle,aj,by omega,by rw[hE];rfl⟩
   omega
  have eu:u=(f.2.1.getD l []).length:=by omega
  refine go8 ?_;refine zW (A:=[]) (ρ:=(tPt (k+1))) M.up ?_;intro h1 am aa;refine zF (zL (ρ:=(tLs (k+1))) (m:=1) (xs:=[E]) (ps':=[(0,_)]) underlying115 rY I I I wJ e2z (zC I (y1e (y1u _) [] 0 dC) aa zN) zoj nP) I I I ?_
  rintro bo bx ⟨bm,rfl,ai⟩
  refine zW (A:=[]) (ρ:=(tLs (k+1))) ai ?_;intro h2 cf Z;refine xL (A:=[]) (yA (ρ:=(tLs (k+1))) (bytes:=24) underlying115 rY I I I I nP I I O.up Z bO bO) I I I ?_
  rintro av bw ⟨ap,rfl,ah⟩
  refine go8 ?_;refine gqL ((l+1),(D++[E]),av,ap,h2) ?_ ?_
  · exact⟨mle,ah,by omega,by rw[hD,hE,eu];rfl⟩
  omega
 have el:l=f.2.1.length:=by omega
 refine uV ?_;refine xP (A:=[]) (ρ:=(tLs (k+1))) O.up ?_;intro h1 am U;refine zD I I ?_;exact(Rp.Is.cast U (by rw[hD,el]))
theorem zKY{k:Nat}{vp:Value}{p:Tq}(rp:(tPt k).Is h0 vp p)(hcd0:k<=2000000000):
 Calls prog 200 #[vp] w0 (Ret w0 h0 (λh r=>(tPt (k+1)).Is h r p)):=by
 refine cb1 13 vp func200 hs ?_;refine go2 ?_;refine nB rp λb1 ak C=>(nA (ρ:=(tPt (k+1))) (X:=zT) yM (xE (yE oM)) λb2 aj J=>(go3 ?_));refine zK 10 _ [] [(0,.q),(1,.q),(3,.q),(4,.q),(6,.q),(7,.q),(2,.c),(5,.c),(8,.c),(9,.q),(10,.t)] yC nX zot nX (λr hr=>hr) (go1 ?_);refine wX I (xB yI (y2e pH) C) λv4 r4=>(go1 ?_);refine wX I (xB yI (y3i pH) C) λv7 r7=>(go1 ?_);refine wX I (xB yI (y3u pH) C) λad U=>?_;refine w_c I (sC (ev1 I) call54 (λw hs=>nI hs r4 oM) λv5 h1 ai r5=>?_);refine w_c I (sC (ev1 I) call54 (λw hs=>nI hs r7.up oM) λv8 h2 ah r8=>?_);refine w_c I (sC (ev1 I) call54 (λw hs=>nI hs U.up oM) λac h3 ae O=>(wX I (xV (ρ:=(tPt (k+1))) (wL (ps':=[(0,_),(1,_),(2,_)]) underlying53 yM I I sizeOf26 e6 I (xE (yE oM)) (zC I (y2e (y1u _)) (r5.up.le (Le.q (l:=k+1) oM)) (zC I (y3i (y1u _)) (r8.up.le (Le.q (l:=k+1) oM)) (zC I (y3u (y1u _)) (O.le (Le.q (l:=k+1) oM)) zN))))) λab M=>(yJ (A:=[]) I (uB sizeOf53 pH J M) λZ H=>(go3 ?_))));refine xW (jA (t:=2) zO mh0 I H) ?_;intro aa D G;refine yG (λE S=>zQ I D E S) ?_;exact G
theorem zIM{k:Nat}{vl:Value}{l:(List Tq)}(rl:(tLs k).Is h0 vl l)(hcd0:k<=1000000000)(hcd1:l.length<=100000):
 Calls prog 199 #[vl,vF 200 []] w0 (Ret w0 h0 (λh r=>(tLs (k+2)).Is h r l)):=by
 have az:=zYE rl;refine cb2 28 vl (vF 200 []) func199 hs ?_;refine go9 ?_;refine gv (y0 underlying46 I (zTR rl)) I (gc2 (λad=>?_) λad=>?_)
 ·
  have ab:=nil_of rl nP ad;refine go7 ?_;refine zD I I ?_;exact(Rp.Is.cast (aC _) (by exact ab.symm))
 refine go6 ?_;refine zF (iM (ρ:=(tPt (k+2))) (X:=zT) (by':=168) l.length underlying46 yM I I I I (xE (yE oM)) I I zo0 zo0 oM oM) I I I ?_
 rintro aj ay ⟨ai,rfl,Z⟩
 refine uV ?_;refine gcL (ι:=Nat×List Tq×Value×List Value×Mem) (λ(i,U,C,D,ma)=>(MLe h0 ma/\(RL (tPt (k+2)) ma D U/\(i<=l.length/\U.length=l.length)/\∀u,u<i->U.getD u zT=l.getD u zT),[(1,vF 200 []),(5,C),(13,vl),(14,vI (↑(l).length:Int)),(15,vI ↑i)],[.gs 53 9 C U.length D],ma,l.length-i)) (0,(List.replicate l.length zT),aj,ai,h0) ?_ ?_
 · exact⟨mle,Z,⟨by omega,z4i⟩,λu h=>by omega⟩
 rintro⟨i,U,C,D,ma⟩ ⟨aq,G,⟨ba,hi2⟩,ac⟩
 refine yQ ?_;refine gc6 (λae=>?_) λae=>?_
 ·
  refine go7 ?_;refine lX (xI zT i underlying46 zO rl) λax ao=>(lX (xA zO ao) λaw an=>(nA (ρ:=(tPt (k+1))) (X:=zT) yM (xE (yE oM)) λb7 bb ak=>(go1 ?_)));refine zV (A:=[]) (uB sizeOf53 pH ak (an.le (Le.t (Le.q (l:=k+1) oM)))) λar aa=>(go6 ?_);refine lX (xB zO pH aa) λav am=>(zLM (tR (vs:=[_]) call200 I ⟨I,y1i⟩) I I I (λw hs=>zKY hs am oM) ?_);intro au h1 ap M;replace M:=Rp.Is.le M (Le.t (Le.q (l:=k+2) oM));refine gv ((yZ i mh1 underlying46 sizeOf53 I I I bO nP).cv (show _=zM 1 C ((i*9+0)) from zbi (zM 1 C) zo0)) I (kM (A:=[_]) (F:=λc_=>RL (tPt (k+2)) h1 c_ (U.set i (l.getD i zT))) (sT sizeOf53 (y1e (y1u _) zT i bO) I nP I I G.up M I) ?_);intro O J;refine go7 ?_;refine uO (A:=[]) ?_;refine gqL ((i+1),(U.set i (l.getD i zT)),C,O,h1) ?_ ?_
  · exact⟨mle,J,⟨by omega,by rw[lS];exact hi2⟩,zJ0 (f:=λu=>l.getD u zT) oM ac I⟩
  omega
 have ah:=zG9 hi2 (λu hu=>ac u oM);refine uV ?_;refine xP (A:=[]) (ρ:=(tPt (k+2))) G.up ?_;intro h1 ap H;refine zD I I ?_;exact(Rp.Is.cast H (by exact ah))
theorem zIL{k:Nat}{vl:Value}{l:(List Tq)}(rl:(tLs k).Is h0 vl l)(hcd0:k<=1000000000)(hcd1:l.length<=100000):
 Calls prog 181 #[vl] w0 (Ret w0 h0 (λh r=>(tLs (k+2)).Is h r l)):=by
 refine cb1 5 vl func181 hs ?_;refine go8 ?_;refine cL (ev2 I I) call199 (λw hs=>zIM hs rl oM oM) λv4 h1 C r4=>(go4 ?_);refine zD I I ?_;exact r4
theorem zIN{k:Nat}{vl:Value}{l:(List (List Tq))}(rl:(tLL k).Is h0 vl l)(hcd0:k<=1000000000)(hcd1:l.length<=100000)(hcd2:∀x,x∈l->x.length<=100000):
 Calls prog 180 #[vl,vF 181 []] w0 (Ret w0 h0 (λh r=>(tLL (k+2)).Is h r l)):=by
 have au:=zYE rl;refine cb2 28 vl (vF 181 []) func180 hs ?_;refine go9 ?_;refine gv (y0 underlying115 I (zTR rl)) I (gc2 (λab=>?_) λab=>?_)
 ·
  have Z:=nil_of rl nP ab;refine go7 ?_;refine zD I I ?_;exact(Rp.Is.cast (aC _) (by exact Z.symm))
 refine go6 ?_;refine zF (iM (ρ:=(tLs (k+2))) (X:=[]) (by':=24) l.length underlying115 rY I I I I wJ I I zo0 zo0 oM oM) I I I ?_
 rintro ah ar ⟨ae,rfl,U⟩
 refine uV ?_;refine gcL (ι:=Nat×List (List Tq)×Value×List Value×Mem) (λ(i,O,C,D,ma)=>(MLe h0 ma/\(RL (tLs (k+2)) ma D O/\(i<=l.length/\O.length=l.length)/\∀u,u<i->O.getD u []=l.getD u []),[(1,vF 181 []),(5,C),(13,vl),(14,vI (↑(l).length:Int)),(15,vI ↑i)],[.gs 46 1 C O.length D],ma,l.length-i)) (0,(List.replicate l.length []),ah,ae,h0) ?_ ?_
 · exact⟨mle,U,⟨by omega,z4i⟩,λu h=>by omega⟩
 rintro⟨i,O,C,D,ma⟩ ⟨an,G,⟨av,hi2⟩,aa⟩
 refine yQ ?_;refine gc6 (λac=>?_) λac=>?_
 ·
  refine go7 ?_;refine lX (xI [] i underlying115 uS rl) λaq ak=>(lX (xA uS ak) λap aj=>(go9 ?_));refine zLM (tR (vs:=[_]) call181 I ⟨I,y1i⟩) I I I (λw hs=>zIL hs aj oM (by first|omega|exact(zVF oM zo3))) ?_;intro ao h1 am ai;refine gv ((yZ i mh0 underlying115 sizeOf46 I I I bO nP).cv (show _=zM 1 C ((i*1+0)) from zbi (zM 1 C) zo0)) I (kM (A:=[]) (F:=λc_=>RL (tLs (k+2)) h1 c_ (O.set i (l.getD i []))) (sT sizeOf46 (y1e (y1u _) [] i bO) I nP I I G.up ai I) ?_);intro M J;refine go7 ?_;refine gqL ((i+1),(O.set i (l.getD i [])),C,M,h1) ?_ ?_
  · exact⟨mle,J,⟨by omega,by rw[lS];exact hi2⟩,zJ0 (f:=λu=>l.getD u []) oM aa I⟩
  omega
 have ad:=zG9 hi2 (λu hu=>aa u oM);refine uV ?_;refine xP (A:=[]) (ρ:=(tLs (k+2))) G.up ?_;intro h1 am H;refine zD I I ?_;exact(Rp.Is.cast H (by exact ad))
theorem zKZ{k:Nat}{vL:Value}{L:(List (List Tq))}(rL:(tLL k).Is h0 vL L)(hcd0:k<=1000000000)(hcd1:L.length<=100000)(hcd2:∀x,x∈L->x.length<=100000):
 Calls prog 135 #[vL] w0 (Ret w0 h0 (λh r=>(tLL (k+2)).Is h r L)):=by
 refine cb1 5 vL func135 hs ?_;refine go8 ?_;refine cL (ev2 I I) call180 (λw hs=>zIN hs rL oM (by first|omega|assumption) (by first|omega|assumption)) λv4 h1 C r4=>(go4 ?_);refine zD I I ?_;exact r4
theorem zGH{v:Value}{X:Nat}(hv:Us .u32 h0 v (zB X))(hl:(zB X).length<=1000):
 Calls prog 97 #[v] w0 (Ret w0 h0 (λh r=>Us .u32 h r (zB (sqN X)))):=by
 have bp:=zAQ;have br:=zFL X;have av:=zQ2 hl;refine cb1 42 v func97 hs ?_;refine go9 ?_;refine cL (ev1 I) call94 (λw hs=>cS hs hv oM) λbl h1 bd Z=>?_
 try simp only[zE] at Z
 subst Z;refine gc3 (λJ=>?_) λJ=>?_
 ·
  refine go7 ?_;refine zD I I ?_;rw[zT2 J];exact Us.nil _ _
 have hX:X≠0:=λe=>J (by rw[e,zFM];rfl);refine go4 ?_;refine zF (gD (kd:=.u32) (p:=1) underlying22 wS I I I) I I I ?_;intro bk bn ae;obtain rfl:=ae;refine yK (by intro z hz;simp only[zne] at hz;subst hz;decide) ?_;intro h2 bc D;rw[pP] at D;refine go1 ?_;replace hv:=hv.mono (bd.trans bc);refine cL (ev1 I) call94 (λw hs=>cS hs hv oM) λbj h3 ao U=>?_
 try simp only[zE] at U
 subst U;refine go1 ?_;refine gv (lY (q:=2) I I oM oM oM) I ?_;replace D:=D.mono ao;refine cL (ev2 I I) call95 (λw hs=>nJ hs D oM oM oM) λbi h4 bb ad=>?_;obtain⟨ar,rfl,G⟩:=ad
 try simp only[zE] at G
 rw[zJV hl] at G;refine go8 ?_;refine jU (ι:=Nat×Value×Mem) (λ(x,vx,m)=>MLe h4 m/\(Us .u32 m vx (zB x)/\sqN X<=x/\0<x/\(zB x).length<=1001)) (λ(x,vx,m)=>[(0,v),(3,vx)]) (λ(x,vx,m)=>[]) (λ(x,vx,m)=>m) (λ(x,vx,m)=>x) ((2^((wH X+1)/2)),ar,h4) ?_ e2z I I ?_
 ·
  refine⟨MLe.refl _,?_⟩;exact⟨G,zIU X,zqi oM,av⟩
 rintro⟨x,vx,m⟩ ⟨ah,hx,aj,hi2,ba⟩
 refine yQ ?_;refine go5 ?_;replace hv:=hv.mono ((ao.trans bb).trans ah);refine cL (ev2 I I) call147 (λw hs=>iO hs hv hx oM oM) λbh h5 an H=>?_;obtain⟨bo,bm,rfl,aa,H⟩:=H
 try simp only[zE] at aa H ⊢
 have az:=zR (zki ((X)) ((x)));refine rN ?_;replace hx:=hx.mono an;refine cL (ev2 I I) call100 (λw hs=>aQ hs hx aa oM oM) λbg h6 am O=>?_
 try simp only[zE] at O
 have ay:=uJ ((x)) (((((X))/((x)))));have bq:=zR (zki X x);have bs:=uJ x (X/x);refine cL (vs:=[_,vI (-1)]) e2z call95 (λw hs=>nJ hs O oM oM oM) λbf h7 ak ac=>?_;obtain⟨aq,rfl,C⟩:=ac
 try simp only[zE] at C
 rw[zMO] at C;refine uV ?_;replace hx:=hx.mono (am.trans ak);refine cL (ev2 I I) call98 (λw hs=>iP hs C hx) λbe h8 ab M=>?_
 try simp only[zE] at M
 subst M;refine gc3 (λap=>?_) λap=>?_
 ·
  have au:=zK2 hi2 aj (by have:=fC (m:=(x+X/x)/2) (n:=x);omega);refine qG ?_;refine zD I I ?_;replace hx:=hx.mono ab;rw[<-au];exact hx
 refine go7 ?_;have ai:=fC.1 (show tS ((x+X/x)/2) x<0 by omega);have ax:=zR (ydi ai);have aw:=zRX (n:=X) hi2;refine qV (((x+X/x)/2),aq,h8) ?_ ?_ e2z I I
 ·
  refine⟨((((ah.trans an).trans am).trans ak).trans ab),?_⟩;replace C:=C.mono ab;refine⟨C,aw,?_,zci ax ba⟩;refine zfe λe=>?_;have:=zK1 hi2 aj e;omega
 dsimp only;exact ai
theorem zCE{q:Rat}{vn vd:Value}(hn:Us .u32 h0 vn (zB q.num.natAbs))(hd:Us .u32 h0 vd (zB (wC q.den))){K:Nat}(hK:K<=4096)(hl:lq q<=500):
 Calls prog 96 #[.agg #[vB (q.num<0),vn,vd],vI ↑K] w0 (Ret w0 h0 (λh r=>∃u,r=.tuple #[u,vB (zER q K)]/\Us .u32 h u (zB (flN q K)))):=by
 obtain⟨ar,aq,ap⟩:=dY hl hK;have aw:=wM q;have ax:=wI q;have au:=zT4 (q.num.natAbs*2^K*2^K) q.den;have av:=zR (zki (q.num.natAbs*2^K*2^K) (wC q.den));refine cb2 38 (.agg #[vB (q.num<0),vn,vd]) (vI ↑K) func96 hs ?_;refine go2 ?_;refine zF (xM (cs:=[_,_,_]) I I) I I I ?_;intro v2 r2 ak;obtain⟨b2,rfl,rfl⟩:=ak;refine zV7 ?_;refine tP (go2 ?_);refine gv (OpV.tr dC (yL (q:=2) I I)) I (qG ?_);refine cL (ev2 I I) call95 (λw hs=>nJ hs hn oM oM oM) λad h1 ao U=>?_;obtain⟨ah,rfl,H⟩:=U
 try simp only[zE] at H
 rw[zH2 _ _ hK] at H;refine go8 ?_;refine gv ((zY (q:=1) I I oM oM).cv (show _=vI (1) from I)) I (go2 ?_);refine wP (go2 ?_);refine gv (OpV.tr dC (yL (q:=2) I I)) I (qG ?_);refine cL (ev2 I I) call95 (λw hs=>nJ hs H oM oM oM) λac h2 an O=>?_;obtain⟨ae,rfl,D⟩:=O
 try simp only[zE] at D
 rw[zH2 _ _ hK] at D;refine go8 ?_;refine gv ((zY (q:=1) I I oM oM).cv (show _=vI (2) from I)) I (go2 ?_);refine wP (go2 ?_);refine gv (OpV.fa dC (yL (q:=2) I I)) I ?_;replace hd:=hd.mono (ao.trans an);refine zV7 ?_;refine cnd (λM=>?_) λM=>?_
 ·
  refine go9 ?_;refine uA I I I ?_;have e:=(mU q.den_nz).1 (zE1.1 M);rw[yV (λh=>h (by rw[e,Nat.mod_one])),show flN q K=q.num.natAbs*2^K*2^K by unfold flN;rw[e,z2i]];exact⟨_,I,D⟩
 refine go7 ?_;refine cL (ev2 I I) call147 (λw hs=>iO hs D hd oM oM) λab h3 ay G=>?_;obtain⟨aj,ai,rfl,C,G⟩:=G
 try simp only[zE] at C G ⊢
 have Z:=zR (zki ((((((((q.num.natAbs))*2^K)))*2^K))) (((wC q.den))));refine rN ?_;refine cL (ev1 I) call94 (λw hs=>cS hs G oM) λaa h4 am J=>?_
 try simp only[zE] at J
 subst J;refine go6 ?_;refine uA I I I ?_;replace C:=C.mono am;have e:wC q.den=q.den:=bQ (λh=>M (by rw[h,cY,yR];rfl));rw[show wC q.den=q.den from e] at C;refine⟨_,zbi (λz=>Value.tuple #[_,z]) (tB ?_),C⟩;rw[e,zae q.den_nz];unfold zER;have:=gJ (n:=q.num.natAbs*2^K*2^K%q.den);omega
theorem zMK{k:Nat}{vs:Value}{s:(Rat×Rat)}(rs:(rpP (rpQ k) (rpQ k)).Is h0 vs s){n:Int}(hn1:-9223372036854775808<=n)(hn2:n<9223372036854775808)(hcd0:k<=500):
 Calls prog 52 #[vs,vI n] w0 (Ret w0 h0 (λh r=>∃u0,r=.tuple #[u0,vI (rtE s.2)]/\(rpP (rpQ (k+140)) (rpQ (k+140))).Is h u0 (zQ6 s.1 s.2 n,zBF s.2 n))):=by
 have fl:=zAQ;have ba:kN n<=4096:=by unfold kN;omega
 have fm:=zH9 ba;obtain⟨bk,bj⟩:=zX1 rs;obtain⟨ed,ec⟩:=yDW bk n;obtain⟨ef,ee⟩:=zVQ bj n;obtain⟨eb,ea,dz⟩:=dY bk ba;obtain⟨dy,dx,dw⟩:=dY bj ba;have fj:=zR (zDS (flN s.2 (kN n)));have fk:=zR (zDS (flN s.1 (kN n)));refine cb2 83 vs (vI n) func52 hs ?_;refine go2 ?_;refine nB rs λb2 bw O=>(nA (ρ:=(rpP (rpQ (k+140)) (rpQ (k+140)))) (X:=((0:Rat),(0:Rat))) fS (yF (yE oM) (yE oM)) λb4 bv ad=>(go7 ?_));refine lX (xB yI (y2u pH) O) λfe dj=>(cL (ev1 I) call51 (λw hs=>y7 hs dj oM) λcy h1 bb di=>?_);obtain rfl:cy=vI (yW s.2):=di;have dl:=wB s.2;refine gc3 (λaq=>?_) λaq=>?_
 ·
  have J:=qW.1 aq;refine go2 ?_;refine lX (xV (ρ:=(rpP (rpQ 1) (rpQ 1))) (xK (ps':=[]) underlying34 fS I I (lV underlying34) trivial I (yF (yE dC) (yE dC)) zN)) λfd dh=>?_;replace ad:=ad.mono bb;refine zV (A:=[]) (uB sizeOf34 pH ad (dh.le (Le.p (Le.q (l:=k+140) oM) (Le.q (l:=k+140) oM)))) λei ca=>(go5 ?_);refine xW (jA (t:=4) zJN mh0 I ca) ?_;intro el bq bz;refine yG (λE S=>vO I bq (jE I) E S) ?_;refine⟨_,?_,(Rp.Is.cast bz (by unfold zQ6 zBF;rw[zau J,zau J]))⟩;unfold rtE;rw[zau J]
 have J:¬s.2<0:=λe=>aq (qW.2 e);refine go5 ?_;refine gv (zKG (q:=0) I I) I (gv (zUN (q:=4096) I I) I ?_);rw[show min (max n 0) 4096=(↑(kN n):Int) by unfold kN;omega];refine go5 ?_;refine zF (gD (kd:=.u32) (p:=1) underlying22 wS I I I) I I I ?_;intro fc fi cl;obtain rfl:=cl;refine yK (by intro z hz;simp only[zne] at hz;subst hz;decide) ?_;intro h2 bu ak;rw[pP] at ak;refine go1 ?_;refine cL (ev2 I I) call95 (λw hs=>nJ hs ak oM oM oM) λfb h3 bt ck=>?_;obtain⟨ai,rfl,G⟩:=ck
 try simp only[zE] at G
 rw[zH2 _ _ ba,yeu] at G;refine uV ?_;refine qK (ι:=Value×Mem) (λ(v8,m1)=>MLe h3 m1/\(Us .u32 m1 v8 (zB (loN s.1 (kN n))))) (λ(v8,m1)=>[(1,vI ↑(kN n)),(2,vP b2 0),(4,vP b4 0),(6,ai),(8,v8)]) (λ(v8,m1)=>[.var b4 34 bv,.var b2 34 bw]) (λ(v8,m1)=>m1) ?_ ?_
 ·
  refine go3 ?_;replace O:=O.mono ((bb.trans bu).trans bt);refine lX (xB yI (y2i pH) O) λfa df=>(cL (ev1 I) call51 (λw hs=>y7 hs df oM) λcw h4 Z de=>?_);obtain rfl:cw=vI (yW s.1):=de;have dk:=wB s.1;refine gc3 (λap=>?_) λap=>?_
  ·
   refine go3 ?_;replace O:=O.mono Z;refine lX (xB yI (y2i pH) O) λez dd=>(go1 ?_);obtain⟨cp,ct,ax,az,bd,cn⟩:=qN dd;subst ax;refine cL (ev2 I I) call96 (λw hs=>zCE hs az bd oM oM) λey h5 ah cj=>?_;obtain⟨fg,rfl,cd⟩:=cj;refine go9 ?_;refine cL (ev1 I) call97 (λw hs=>zGH hs cd oM) λcv h6 M ci=>(go2 ?_);refine zS (cv,h6) ?_ e5 I I;refine⟨((Z.trans ah).trans M),?_⟩;have e:loN s.1 (kN n)=sqN (flN s.1 (kN n)):=zau ap;rw[e];exact ci
  refine go1 ?_;refine zS ((.slice none 0 0),h4) ?_ e5 I I;refine⟨Z,?_⟩;have e:loN s.1 (kN n)=0:=zae ap;rw[e,yR];exact Us.nil _ _
 rintro⟨v8,m1⟩ ⟨an,av⟩
 refine yQ ?_;refine go3 ?_;replace O:=O.mono (((bb.trans bu).trans bt).trans an);refine lX (xB yI (y2u pH) O) λew dc=>(go1 ?_);obtain⟨co,cq,aw,ay,bc,cm⟩:=qN dc;subst aw;refine cL (ev2 I I) call96 (λw hs=>zCE hs ay bc oM oM) λev h4 Z ch=>?_;obtain⟨ff,rfl,ab⟩:=ch;refine uQ ?_;refine cL (ev1 I) call97 (λw hs=>zGH hs ab oM) λbx h5 ah H=>(go3 ?_);refine qK (ι:=Value×Mem) (λ(U,m2)=>MLe h5 m2/\(Us .u32 m2 U (zB (hiN s.2 (kN n))))) (λ(U,m2)=>[(4,vP b4 0),(6,ai),(8,v8),(13,U)]) (λ(U,m2)=>[.var b4 34 bv,.var b2 34 bw]) (λ(U,m2)=>m2) ?_ ?_
 ·
  refine go3 ?_;refine uZ (ι:=Mem) 8 (λm_=>MLe h5 m_) (λ_=>[(62,vB ((zER s.2 (kN n))\/((tS ((((((sqN ((flN s.2 (kN n))))))*(((sqN ((flN s.2 (kN n))))))))) (((flN s.2 (kN n)))))<(0:Int)))),(4,vP b4 0),(6,ai),(8,v8),(13,bx)]) (λ_=>[.var b4 34 bv,.var b2 34 bw]) (λm_=>m_) ?_ ?_
  ·
   refine yD (zER s.2 (kN n)) (λhg=>?_) (λhg=>?_)
   ·
    refine gT hg I (go8 ?_);refine zS h5 (MLe.refl _) ⟨?_,I,I,I,I,y1i⟩ I I;exact y0e (vV hg)
   refine gF hg I (go5 ?_);refine cL (ev2 I I) call99 (λw hs=>tE hs H H oM oM) λeu h6 M bg=>?_
   try simp only[zE] at bg
   have dn:=yH (((sqN ((flN s.2 (kN n)))))) (((sqN ((flN s.2 (kN n))))));refine go3 ?_;replace ab:=ab.mono (ah.trans M);refine cL (ev2 I I) call98 (λw hs=>iP hs bg ab) λes h7 ae bf=>?_
   try simp only[zE] at bf
   subst bf;refine go4 ?_;refine zS h7 (M.trans ae) ⟨?_,I,I,I,I,y1i⟩ I I;exact y0e (vW hg)
  intro ar D;refine sD ?_;refine gc2 (λao=>?_) λao=>?_
  ·
   refine go2 ?_;refine zF (gD (kd:=.u32) (p:=1) underlying22 wS I I I) I I I ?_;intro er fh cg;obtain rfl:=cg;refine yK (by intro z hz;simp only[zne] at hz;subst hz;decide) ?_;intro h6 M ac;rw[pP] at ac;replace H:=H.mono (D.trans M);refine cL (ev2 I I) call100 (λw hs=>aQ hs H ac oM oM) λcu h7 ae be=>?_
   try simp only[zE] at be
   have dm:=uJ (((sqN ((flN s.2 (kN n)))))) ((1));refine go2 ?_;refine zS (cu,h7) ?_ e4z I I;refine⟨((D.trans M).trans ae),?_⟩;have e:hiN s.2 (kN n)=sqN (flN s.2 (kN n))+1:=zau ao;rw[e];exact be
  refine go1 ?_;refine zS (bx,ar) ?_ e4z I I;refine⟨D,?_⟩;replace H:=H.mono D;have e:hiN s.2 (kN n)=sqN (flN s.2 (kN n)):=zae ao;rw[e];exact H
 rintro⟨U,m2⟩ ⟨am,aa⟩
 refine yQ ?_;refine go4 ?_;replace G:=G.mono (((an.trans Z).trans ah).trans am);replace av:=av.mono ((Z.trans ah).trans am);refine gv (yO (ps':=[(1,_),(2,_)]) (vs:=[.bool false,v8,ai]) underlying26 yS I (vQ underlying26) e4z (xD (A:=[_]) (B:=[_]) (C:=[_]) (cs:=[_]) (off:=1) (size:=1) I I I I av.cells (xD (A:=[_,_]) (B:=[_]) (C:=[]) (cs:=[_]) (off:=2) (size:=1) I I I I G.cells uF))) I (cL (ev1 I) call101 (λw hs=>zJ9 hs (yV (p:=False) id).symm av G oM oM) λeq h6 M cf=>?_);obtain⟨_,rfl,dt,dv,rfl,bi,bm⟩:=cf;have bs:=zP1 (False) (zB (loN s.1 (kN n))) (zB (2^kN n));rw[zPO] at bi bm bs ⊢;refine go3 ?_;refine nA (ρ:=(rpQ (k+140))) (X:=(0:Rat)) yS (yE oM) λfp ek cc=>(zV (A:=[]) (uB sizeOf26 pH cc (oN ⟨_,_,I,bi,bm⟩ oM)) λeh aj=>(go7 ?_));replace G:=G.mono M;replace aa:=aa.mono M;refine gv (yO (ps':=[(1,_),(2,_)]) (vs:=[.bool false,U,ai]) underlying26 yS I (vQ underlying26) e4z (xD (A:=[_]) (B:=[_]) (C:=[_]) (cs:=[_]) (off:=1) (size:=1) I I I I aa.cells (xD (A:=[_,_]) (B:=[_]) (C:=[]) (cs:=[_]) (off:=2) (size:=1) I I I I G.cells uF))) I (cL (ev1 I) call101 (λw hs=>zJ9 hs (yV (p:=False) id).symm aa G oM oM) λep h7 ae ce=>?_);obtain⟨_,rfl,dr,du,rfl,bh,bl⟩:=ce;have br:=zP1 (False) (zB (hiN s.2 (kN n))) (zB (2^kN n));rw[zPO] at bh bl br ⊢;refine go3 ?_;refine nA (ρ:=(rpQ (k+140))) (X:=(0:Rat)) yS (yE oM) λfo ej cb=>(zV (A:=[]) (uB sizeOf26 pH cb (oN ⟨_,_,I,bh,bl⟩ oM)) λeg bp=>(go5 ?_));replace aj:=aj.mono ae;refine lX (xB yI pH aj) λeo db=>(lX (xB yI pH bp) λen da=>(lX (xV (ρ:=(rpP (rpQ (k+140)) (rpQ (k+140)))) (xK (ps':=[(0,_),(1,_)]) underlying34 fS I I (lV underlying34) e4z I (yF (yE oM) (yE oM)) (zC I (y2i (y1u _)) db (zC I (y2u (y1u _)) da zN)))) λem cz=>?_));replace ad:=ad.mono ((((((((bb.trans bu).trans bt).trans an).trans Z).trans ah).trans am).trans M).trans ae);refine zV (A:=[_,_]) (uB sizeOf34 pH ad cz) λdp bo=>(go4 ?_);refine xW (jA (t:=4) zJN mh2 I bo) ?_;intro dq au bn;refine yG (λE S=>vO I au (jE I) E S) ?_;refine⟨_,?_,(Rp.Is.cast bn (by unfold zQ6;rw[zae J,<-yGH,yAU J]))⟩;unfold rtE;rw[zae J]
theorem zIH{k:Nat}{va:Value}{a:Rat}(ra:(rpQ k).Is h0 va a)(hcd0:k<=4000000000):
 Calls prog 53 #[va] w0 (Ret w0 h0 (λh r=>(rpP (rpQ k) (rpQ k)).Is h r (a,a))):=by
 obtain⟨G,H,rfl,C,D,J⟩:=qN ra;exact(zML hs C D oM).mono (jR λh r x=>yAR x oM oM)
theorem zNK{k l:Nat}{va:Value}{a:(Rat×Rat)}(ra:(rpP (rpQ k) (rpQ k)).Is h0 va a){vb:Value}{b:(Rat×Rat)}(rb:(rpP (rpQ l) (rpQ l)).Is h0 vb b)(hcd0:k+l<=4000000000):
 Calls prog 89 #[va,vb] w0 (Ret w0 h0 (λh r=>(rpP (rpQ (k+l+1)) (rpQ (k+l+1))).Is h r (addS a b))):=by
 obtain⟨ac,ai,ab,ah,rfl,H,U,G,O,an,am⟩:=zPK ra;obtain⟨aa,ae,Z,ad,rfl,D,M,C,J,ak,aj⟩:=zPK rb;exact(zTB hs H U G O D M C J oM oM oM oM).mono (jR λh r x=>yAR x (by have:=jX a.1 b.1;have:=jX a.2 b.2;omega) (by have:=jX a.1 b.1;have:=jX a.2 b.2;omega))
theorem eL{k:Nat}{va:Value}{a:Rat}(ra:(rpQ k).Is h0 va a){n:Int}(hn1:-9223372036854775808<=n)(hn2:n<9223372036854775808)(hcd0:k<=400):
 Calls prog 13 #[va,vI n] w0 (Ret w0 h0 (λh r=>∃u0,r=.tuple #[u0,vB (zK7 a n)]/\(rpP (rpQ (k+140)) (rpQ (k+140))).Is h u0 (eP a n,eQ a n))):=by
 refine cb2 37 va (vI n) func13 hs ?_;refine go2 ?_;refine nB ra λb2 bs ae=>(nA (ρ:=(rpP (rpQ (k+140)) (rpQ (k+140)))) (X:=((0:Rat),(0:Rat))) fS (yF (yE oM) (yE oM)) λb4 br ad=>(go6 ?_));refine lX (xB yI pH ae) λv8 r8=>(cL (ev1 I) call51 (λw hs=>y7 hs r8 oM) λv9 h1 bp r9=>?_);obtain rfl:v9=vI (yW a):=r9;have az:=wB a;refine go1 ?_;refine gU 4 14 (vB (((yW a)<(0:Int))\/(n<(0:Int)))) ?_ ?_
 ·
  refine yD ((yW a)<(0:Int)) (λH=>?_) (λH=>?_)
  ·
   refine gT H I (go4 ?_);refine gqU ?_;exact y0e (vV H)
  refine gF H I (go6 ?_);refine gqU ?_;exact y0e (vW H)
 refine gU 4 18 (vB ((((yW a)<(0:Int))\/(n<(0:Int)))\/((64:Int)<n))) ?_ ?_
 ·
  refine yD (((yW a)<(0:Int))\/(n<(0:Int))) (λH=>?_) (λH=>?_)
  ·
   refine gT H I (go4 ?_);refine gqU ?_;exact y0e (vV H)
  refine gF H I (go6 ?_);refine gqU ?_;exact y0e (vW H)
 refine gc2 (λC=>?_) λC=>?_
 ·
  refine go2 ?_;refine lX (xV (ρ:=(rpP (rpQ 1) (rpQ 1))) (xK (ps':=[]) underlying34 fS I I (lV underlying34) trivial I (yF (yE dC) (yE dC)) zN)) λbi ar=>(zV (A:=[]) (uB sizeOf34 pH ad (ar.le (Le.p (Le.q (l:=k+140) oM) (Le.q (l:=k+140) oM)))) λaw ac=>(go5 ?_));refine xW (jA (t:=4) zJN mh0 I ac) ?_;intro ay M aa;refine yG (λE S=>vO I M (jE I) E S) ?_;refine⟨_,?_,(Rp.Is.cast aa (by rw[(zVA C).1,(zVA C).2.1]))⟩;rw[yV (zVA C).2.2]
 obtain⟨y1,y2,y3,y4⟩:=zEQ C;obtain⟨bj,bk⟩:=yGI C;refine go4 ?_;refine lX (xB yI pH ae) λbh aq=>(cL (ev1 I) call53 (λw hs=>zIH hs aq oM) λbg h2 bo ap=>(go1 ?_));refine cL (ev2 I I) call52 (λw hs=>zMK hs ap oM oM oM) λbf h3 bn ao=>?_;obtain⟨U,rfl,G⟩:=ao
 change (rpP (rpQ (k+140)) (rpQ (k+140))).Is h3 U (zQ6 (a,a).1 (a,a).2 n,zBF (a,a).2 n) at G
 refine go3 ?_;refine nA (ρ:=(rpP (rpQ (k+140)) (rpQ (k+140)))) (X:=((0:Rat),(0:Rat))) fS (yF (yE oM) (yE oM)) λb6 bq ah=>(zV (A:=[]) (uB sizeOf34 pH ah G) λav D=>(zAV (λO=>?_) λO=>?_))
 · exact absurd (zae y3) O
 refine go3 ?_;refine zK 7 _ [] [(0,.q),(1,.q),(3,.q),(4,.q),(2,.c),(5,.c),(6,.q),(7,.t),(8,.t)] yC nX zot nX (λr hr=>hr) (go1 ?_);refine wX I (xB yI (y2i pH) D) λbe an=>(go1 ?_);refine wX I (xB yI (y2u pH) D) λbc ak=>?_;refine w_c I (sC (ev1 I) call54 (λw hs=>nI hs an oM) λbd h4 bm am=>?_);refine w_c I (sC (ev1 I) call54 (λw hs=>nI hs ak.up oM) λbb h5 bl aj=>(wX I (xV (ρ:=(rpP (rpQ (k+140)) (rpQ (k+140)))) (xK (ps':=[(0,_),(1,_)]) underlying34 fS I I (lV underlying34) e4z I (yF (yE oM) (yE oM)) (zC I (y2i (y1u _)) am.up (zC I (y2u (y1u _)) aj zN)))) λba ai=>(yJ (A:=[_]) I (uB sizeOf34 pH ad ai) λau ab=>(iB I (fZ I) I (go3 ?_)))));refine xW (jA (t:=4) zJN mh1 I ab) ?_;intro ax J Z;refine yG (λE S=>vO I J (jE I) E S) ?_;refine⟨_,?_,(Rp.Is.cast Z (by rw[y1,y2];exact zbi (λz=>(z,zBF a n)) (yGA n y3)))⟩;rw[xR y4]
theorem zEI{k m n j:Nat}{vs:Value}{s:Sq}(rs:(tSd k m n j).Is h0 vs s){vlz:Value}{lz:(List Int)}(rlz:(rpS rpI).Is h0 vlz lz)(hcd0:lz.length=3)(hcd1:∀u,u<3->inR s (lz.getD u 0)):
 Calls prog 113 #[vs,vlz] w0 (Ret w0 h0 (λh r=>∃u0,r=.tuple #[u0,vB (True)]/\(rpT (tPt (k+1))).Is h u0 (cnT s lz))):=by
 refine cb2 35 vs vlz func113 hs ?_;refine go2 ?_;refine nB rs λb2 aq U=>(nA (ρ:=(rpT (tPt (k+1)))) (X:=(T3.mk zT zT zT)) bN (xE (xE (yE oM))) λb4 ap ae=>(go5 ?_));refine nA (ρ:=(rpT (tPt (k+1)))) (X:=(T3.mk zT zT zT)) bN (xE (xE (yE oM))) λb6 ao ad=>(qG ?_);refine gcL (ι:=Nat×List Value×Mem) (λ(i,C,Z)=>(MLe h0 Z/\((rpT (tPt (k+1))).R Z C (yGU s lz i)/\i<=3),[(2,vP b2 0),(4,vP b4 0),(6,vP b6 0),(9,vlz),(10,vI (↑(lz).length:Int)),(11,vI ↑i)],[.var b6 108 C,.var b4 108 ap,.var b2 50 aq],Z,3-i)) (0,ao,h0) ?_ ?_
 · exact⟨mle,ad,oM⟩
 rintro⟨i,C,Z⟩ ⟨au,D,aa⟩
 refine yQ ?_;have bi:=aa;refine gc6 (λab=>?_) λab=>?_
 ·
  obtain⟨bh,bg⟩:=hcd1 i oM;refine go7 ?_;refine lX (xI (0:Int) i underlying32 ty3 rlz) λbe an=>(lX (xA ty3 an) λbd am=>?_);obtain⟨rfl,av,ar⟩:=kF am;refine go9 ?_;refine gU 7 24 (vB (((lz.getD i (0:Int))<(0:Int))\/((↑(s.1).length:Int)<=(lz.getD i (0:Int))))) ?_ ?_
  ·
   refine yD ((lz.getD i (0:Int))<(0:Int)) (λhg=>?_) (λhg=>?_)
   ·
    refine gT hg I (go7 ?_);refine gqU ?_;exact y0e (vV hg)
   refine gF hg I (go5 ?_);refine lX (xB uS (y2i pH) U) λbc bf=>(go6 ?_);refine gqU ?_;exact y0e (vW hg)
  refine gc2 (λG=>?_) λG=>?_
  · exact absurd G oM
  refine go5 ?_;refine lX (xB uS (y2i pH) U) λbb ak=>(go1 ?_);refine lX (xI zT ((lz.getD i 0).toNat) underlying46 zO ak) λba aj=>(lX (xA zO aj) λaz ai=>(gv ((wE (sz:=9) i underlying108 sizeOf53 I I oM oM).cv (show _=vP b6 ((i*9+0)) from zbi (vP b6) oM)) I (zV (A:=[]) (uB sizeOf53 (Pc.ta pH i oM) D (ai.le (Le.t (Le.q (l:=k+1) oM)))) λac O=>(go7 ?_))));refine gqL ((i+1),ac,Z) ?_ ?_
  · exact⟨mle,O,oM⟩
  omega
 have ei:i=3:=by omega
 refine go7 ?_;refine lX (xB oD pH D) λay ah=>(zV (A:=[_]) (uB sizeOf108 pH ae ah) λaw M=>(go4 ?_));refine xW (jA (t:=4) oD mh1 I M) ?_;intro ax H J;refine yG (λE S=>vO I H (jE I) E S) ?_;refine⟨_,?_,(Rp.Is.cast J (by rw[ei];rfl))⟩;rw[xR trivial]
theorem pR{k m n j:Nat}{vs:Value}{s:Sq}(rs:(tSd k m n j).Is h0 vs s){vf:Value}{f:(Pq×((List (List Int))×(List Nat)))}(rf:(tFc m n).Is h0 vf f)(hcd0:∀u v,u<f.2.1.length->v<(f.2.1.getD u []).length->inR s ((f.2.1.getD u []).getD v 0))(hcd1:∀u,u<f.2.1.length->(f.2.1.getD u []).length<=1000)(hcd2:f.2.1.length<=1000):
 Calls prog 68 #[vs,vf] w0 (Ret w0 h0 (λh r=>(rpS (rpT (tPt (k+1)))).Is h r (kZ s f.2.1 f.2.1.length))):=by
 refine cb2 49 vs vf func68 hs ?_;refine go2 ?_;refine nB rs λb2 az be=>(nB rf λb3 ay bd=>(uV ?_));refine lX (xB cD (y2u (y2i pH)) bd) λaj bp=>(go5 ?_);refine xC 108 27 ?_;have ak:=RL.nil (ρ:=rpT (tPt (k+1))) (h:=h0);refine gcL (ι:=Nat×List Tri×Value×List Value×Mem) (λ(i,OU,G,J,ma)=>(MLe h0 ma/\(RL (rpT (tPt (k+1))) ma J OU/\i<=f.2.1.length/\OU=kZ s f.2.1 i),[(2,vP b2 0),(5,G),(12,aj),(13,vI (↑(f.2.1).length:Int)),(14,vI ↑i)],[.gs 108 27 G OU.length J,.var b3 83 ay,.var b2 50 az],ma,f.2.1.length-i)) (0,[],(.slice none 0 0),[],h0) ?_ ?_
 · exact⟨mle,ak,by omega,I⟩
 rintro⟨i,OU,G,J,ma⟩ ⟨ca,O,bs,aw⟩
 refine yQ ?_;refine gc6 (λav=>?_) λav=>?_
 ·
  refine go6 ?_;refine lX (xI [] i underlying81 fE bp) λcu bo=>(lX (xA fE bo) λbb ah=>(go9 ?_));refine gcL (ι:=Nat×List Tri×Value×List Value×Mem) (λ(C,OV,D,H,mb)=>(MLe ma mb/\(RL (rpT (tPt (k+1))) mb H OV/\(2<=C/\(C<=(f.2.1.getD i []).length\/C=2))/\OV=kZ s f.2.1 i++zLQ s (f.2.1.getD i []) (C-2)),[(2,vP b2 0),(5,D),(7,bb),(8,vI ↑C),(12,aj),(13,vI (↑(f.2.1).length:Int)),(14,vI ↑i)],[.gs 108 27 D OV.length H,.var b3 83 ay,.var b2 50 az],mb,(f.2.1.getD i []).length-C)) (2,OU,G,J,ma) ?_ ?_
  · exact⟨mle,O,by omega,by rw[aw];exact(zli _).symm⟩
  rintro⟨C,OV,D,H,mb⟩ ⟨bz,M,br,ai⟩
  refine yQ ?_;have db:=hcd1 i oM;have ce:OV.length<=1000*i+1000:=by rw[ai,lAz];have h8:=zQC (s:=s) hcd1 i bs;have h9:(zLQ s (f.2.1.getD i []) (C-2)).length=C-2:=xH _ _;omega
  refine gc9 (λau=>?_) λau=>?_
  ·
   have ar:=hcd0 i 0 oM oM;have aq:=hcd0 i (C-1) oM oM;have ap:=hcd0 i C oM oM;refine go5 ?_;refine zK 21 _ [(18,(9,108,[.bool false,.slice none 0 0,.slice none 0 0,.bool false,.slice none 0 0,.slice none 0 0,.bool false,.slice none 0 0,.slice none 0 0,.bool false,.slice none 0 0,.slice none 0 0,.bool false,.slice none 0 0,.slice none 0 0,.bool false,.slice none 0 0,.slice none 0 0,.bool false,.slice none 0 0,.slice none 0 0,.bool false,.slice none 0 0,.slice none 0 0,.bool false,.slice none 0 0,.slice none 0 0]))] (zai 0 13 [(13,.c),(14,.c),(15,.q),(16,.q),(17,.q),(18,.a),(19,.c),(20,.q)]) yC (jZ.cons I I (qR bN I I) jZ.nil) (wV zot) (qU I I gM) (λr hr=>hr) (wX I (xB jH pH be) λct bn=>(go1 ?_));refine lJ (F:=λv_=>AtP rpI mb v_ ((f.2.1.getD i []).getD 0 (0:Int))) I (rT (q:=0) (0:Int) 0 underlying32 ty3 I I ah.up I oM nP) zBT I ?_;intro cq bm;refine wX I (xA ty3 bm) λcp bl=>?_;obtain⟨rfl,cd,bx⟩:=kF bl;refine go3 ?_;refine wX I (xI (0:Int) (C-1) underlying32 ty3 ah) λco bk=>(wX I (xA ty3 bk) λcn bj=>?_);obtain⟨rfl,cc,bw⟩:=kF bj;refine go2 ?_;refine wX I (xI (0:Int) C underlying32 ty3 ah) λcm bi=>(wX I (xA ty3 bi) λcl bh=>?_);obtain⟨rfl,cb,bv⟩:=kF bh;refine w_c I (qX (λX=>zL (ρ:=rpI) (m:=3) (xs:=[((f.2.1.getD i []).getD 0 (0:Int)),((f.2.1.getD i []).getD (C-1) (0:Int)),((f.2.1.getD i []).getD C (0:Int))]) (ps':=[(0,_),(1,_),(2,_)]) underlying32 jJ I I I wN e6 (zC I (y1e (y1u _) (0:Int) 0 dC) (wA oM oM) (zC I (y1e (y1u _) (0:Int) 1 dC) (wA oM oM) (zC I (y1e (y1u _) (0:Int) 2 dC) (wA oM oM) zN))) zom nP) I ?_)
   rintro ck cy ⟨cg,rfl,ao⟩
   refine w_c I (xJ (A:=[]) (ρ:=rpI) ao dK ?_);intro h1 bt ad;refine sC (ev2 I I) call113 (λw hs=>zEI hs bn.up ad (by first|rfl|omega|exactλu hu=>by match u,hu with|0,_=>exact ar|1,_=>exact aq|2,_=>exact ap) (by first|rfl|omega|exactλu hu=>by match u,hu with|0,_=>exact ar|1,_=>exact aq|2,_=>exact ap)) λcj h2 da bg=>?_;obtain⟨aa,rfl,U⟩:=bg
   change (rpT (tPt (k+1))).Is h2 aa (cnT s [((f.2.1.getD i []).getD 0 (0:Int)),((f.2.1.getD i []).getD (C-1) (0:Int)),((f.2.1.getD i []).getD C (0:Int))]) at U
   refine go3 ?_;refine w_a I I (λb9=>?_);have bc:(rpT (tPt (k+1))).R h2 [.bool false,.slice none 0 0,.slice none 0 0,.bool false,.slice none 0 0,.slice none 0 0,.bool false,.slice none 0 0,.slice none 0 0,.bool false,.slice none 0 0,.slice none 0 0,.bool false,.slice none 0 0,.slice none 0 0,.bool false,.slice none 0 0,.slice none 0 0,.bool false,.slice none 0 0,.slice none 0 0,.bool false,.slice none 0 0,.slice none 0 0,.bool false,.slice none 0 0,.slice none 0 0] (T3.mk zT zT zT):=(xE (xE (yE oM)));refine w_c I (rR (A:=[]) (uB sizeOf108 pH bc U) (xU zox) λbu ae=>(gc8 (λZ=>?_) λZ=>?_))
   ·
    refine go2 ?_;refine lX (xB oD pH ae) λci bf=>(zF (zL (ρ:=(rpT (tPt (k+1)))) (m:=1) (xs:=[cnT s [((f.2.1.getD i []).getD 0 (0:Int)),((f.2.1.getD i []).getD (C-1) (0:Int)),((f.2.1.getD i []).getD C (0:Int))]]) (ps':=[(0,_)]) underlying106 bN I I I (xE (xE (yE oM))) e2z (zC I (y1e (y1u _) (T3.mk zT zT zT) 0 dC) bf zN) (show 1*27<=16777216 from by decide) nP) I I I ?_)
    rintro ch cw ⟨cf,rfl,an⟩
    refine zW (A:=[]) (ρ:=(rpT (tPt (k+1)))) an ?_;intro h3 cz ac;refine xL (A:=[_]) (yA (ρ:=(rpT (tPt (k+1)))) (bytes:=504) underlying106 bN I I I I nP I I M.up ac bO bO) I I I ?_
    rintro ba cv ⟨ax,rfl,am⟩
    refine go9 ?_;refine uO (A:=[]) ?_;refine gqL ((C+1),(OV++[cnT s [((f.2.1.getD i []).getD 0 (0:Int)),((f.2.1.getD i []).getD (C-1) (0:Int)),((f.2.1.getD i []).getD C (0:Int))]]),ba,ax,h3) ?_ ?_
    · exact⟨mle,am,by omega,by rw[ai,zii,zWH br.1]⟩
    omega
   exact absurd trivial Z
  have bq:C-2=(f.2.1.getD i []).length-2:=by omega
  refine uQ ?_;refine gqL ((i+1),OV,D,H,mb) ?_ ?_
  · exact⟨mle,M.up,by omega,by rw[ai];exact zWI bq⟩
  omega
 have ei:i=f.2.1.length:=by omega
 refine uV ?_;refine xP (A:=[]) (ρ:=(rpT (tPt (k+1)))) O ?_;intro h1 bt ab;refine zD I I ?_;exact(Rp.Is.cast ab (by rw[aw,ei]))
theorem mK{k m n j:Nat}{vs:Value}{s:Sq}(rs:(tSd k m n j).Is h0 vs s)(hcd0:nmA s)(hcd1:∀f,f<s.2.1.length->(s.2.1.getD f zA).2.1.length<=10000/\∀l,l<(s.2.1.getD f zA).2.1.length->((s.2.1.getD f zA).2.1.getD l []).length<=10000)(hcd2:s.2.1.length<=1000):
 Calls prog 67 #[vs] w0 (Ret w0 h0 (λh r=>(rpS (tFc (m+1) (n+1))).Is h r s.2.1)):=by
 refine cb1 52 vs func67 hs ?_;refine go2 ?_;refine nB rs λb1 ad aj=>(uV ?_);refine lX (xB gK (y2u (y2i pH)) aj) λO bd=>(go5 ?_);refine xC 83 14 ?_;have ab:=RL.nil (ρ:=rpP (tPl (m+1) (n+1)) (rpP tII kD)) (h:=h0);refine gcL (ι:=Nat×List Fc×Value×List Value×Mem) (λ(i,M,C,D,ma)=>(MLe h0 ma/\(RL (tFc (m+1) (n+1)) ma D M/\i<=s.2.1.length/\M=s.2.1.take i),[(1,vP b1 0),(3,C),(12,O),(13,vI (↑(s.2.1).length:Int)),(14,vI ↑i)],[.gs 83 14 C M.length D,.var b1 50 ad],ma,s.2.1.length-i)) (0,[],(.slice none 0 0),[],h0) ?_ ?_
 · exact⟨mle,ab,by omega,I⟩
 rintro⟨i,M,C,D,ma⟩ ⟨bj,G,cc,ac⟩
 refine yQ ?_;have ce:M.length=i:=by rw[ac,zei];omega
 refine gc6 (λao=>?_) λao=>?_
 ·
  refine go6 ?_;refine lX (xI zA i underlying47 fD bd) λbt bc=>(lX (xA fD bc) λbs bb=>(nA (ρ:=(tFc 1 1)) (X:=((zT,(0:Rat)),([],([]:List Nat)))) qI (yF (yF (xE (yE dC)) (yE dC)) (yF wJ kB)) λb5 cf au=>?_));have U:=(Le.p (Le.p (Le.t (Le.q (l:=m+1) oM)) (Le.q (l:=n+1) oM)) (Le.refl _)).R au;refine zV (A:=[]) (uB sizeOf83 pH U (bb.le (Le.p (Le.p (Le.t (Le.q (l:=m+1) oM)) (Le.q (l:=n+1) oM)) (Le.refl _)))) λJ H=>(qG ?_);refine lX (xB cD (y2u (y2i pH)) H) λae ba=>(go5 ?_);refine gcL (ι:=Nat×Mem) (λ(l,mb)=>(MLe ma mb/\(l<=(s.2.1.getD i zA).2.1.length),[(1,vP b1 0),(3,C),(5,vP b5 0),(6,.bool true),(12,O),(13,vI (↑(s.2.1).length:Int)),(14,vI ↑i),(19,ae),(20,vI (↑(((s.2.1.getD i zA).2).1).length:Int)),(21,vI ↑l)],[.var b5 83 J,.gs 83 14 C M.length D,.var b1 50 ad],mb,(s.2.1.getD i zA).2.1.length-l)) (0,ma) ?_ ?_
  · exact⟨mle,oM⟩
  rintro⟨l,mb⟩ ⟨bi,ak⟩
  refine yQ ?_;have cb:=ak;have bf:=hcd1 i oM;refine gc6 (λan=>?_) λan=>?_
  ·
   refine go6 ?_;refine lX (xI [] l underlying81 fE ba) λbr az=>(lX (xA fE az) λar ay=>(qG ?_));refine gcL (ι:=Nat×Mem) (λ(u,mc)=>(MLe mb mc/\(u<=((s.2.1.getD i zA).2.1.getD l []).length),[(1,vP b1 0),(3,C),(5,vP b5 0),(6,.bool true),(12,O),(13,vI (↑(s.2.1).length:Int)),(14,vI ↑i),(19,ae),(20,vI (↑(((s.2.1.getD i zA).2).1).length:Int)),(21,vI ↑l),(25,ar),(26,vI (↑(((((s.2.1.getD i zA).2).1).getD l [])).length:Int)),(27,vI ↑u)],[.var b5 83 J,.gs 83 14 C M.length D,.var b1 50 ad],mc,((s.2.1.getD i zA).2.1.getD l []).length-u)) (0,mb) ?_ ?_
   · exact⟨mle,oM⟩
   rintro⟨u,mc⟩ ⟨bh,bx⟩
   refine yQ ?_;have cd:=bf.2 l oM;refine gc6 (λam=>?_) λam=>?_
   ·
    obtain⟨ca,bz⟩:=hcd0 i oM l oM u oM;refine go6 ?_;refine lX (xI (0:Int) u underlying32 ty3 ay) λbq ax=>(lX (xA ty3 ax) λbp aw=>?_);obtain⟨rfl,bk,bg⟩:=kF aw;refine go9 ?_;refine gv (OpV.tr oM (cM (q:=0) I I)) I (go7 ?_);refine lX (xB uS (y2i pH) aj) λbo bu=>(go3 ?_);refine gv (OpV.tr oM (yL I I)) I (go9 ?_);refine gqL ((u+1),mc) ?_ ?_
    · exact⟨mle,oM⟩
    omega
   refine uQ ?_;refine gqL ((l+1),mc) ?_ ?_
   · exact⟨mle,oM⟩
   omega
  refine rN ?_;refine lX (xB fD pH H) λbn av=>(zF (zL (ρ:=(tFc (m+1) (n+1))) (m:=1) (xs:=[(s.2.1.getD i zA)]) (ps':=[(0,_)]) underlying47 qI I I I (yF (yF (xE (yE oM)) (yE oM)) (yF wJ kB)) e2z (zC I (y1e (y1u _) zA 0 dC) av zN) zon nP) I I I ?_)
  rintro bm bw ⟨bl,rfl,ai⟩
  refine zW (A:=[]) (ρ:=(tFc (m+1) (n+1))) ai ?_;intro h1 be aa;refine xL (A:=[_]) (yA (ρ:=(tFc (m+1) (n+1))) (bytes:=264) underlying47 qI I I I I nP I I G.up aa bO bO) I I I ?_
  rintro aq bv ⟨ap,rfl,ah⟩
  refine go8 ?_;refine uO (A:=[]) ?_;refine gqL ((i+1),(M++[(s.2.1.getD i zA)]),aq,ap,h1) ?_ ?_
  · exact⟨mle,ah,by omega,by rw[ac];exact lK zA oM⟩
  omega
 have ei:i=s.2.1.length:=by omega
 refine uV ?_;refine xP (A:=[]) (ρ:=(tFc (m+1) (n+1))) G.up ?_;intro h1 be Z;refine zD I I ?_;exact(Rp.Is.cast Z (by rw[ac,ei,zze]))
theorem zY1{k:Nat}{va:Value}{a:Tq}(ra:(tPt k).Is h0 va a){vb:Value}{b:Tq}(rb:(tPt k).Is h0 vb b){vc:Value}{c:Tq}(rc:(tPt k).Is h0 vc c)(hcd0:k<=1000000):
 Calls prog 114 #[va,vb,vc] w0 (Ret w0 h0 (λh r=>(rpQ (20*k+40)).Is h r (lH a b c))):=by
 refine cb3 12 va vb vc func114 hs ?_;refine go2 ?_;refine nB ra λb3 am Z=>(nB rb λb4 ak U=>(nB rc λb5 aj O=>(nA (ρ:=(rpQ (20*k+40))) (X:=(0:Rat)) yS (yE oM) λb6 ai M=>(go3 ?_))));refine zK 5 _ [] [(0,.q),(1,.q),(2,.q),(3,.c),(4,.c),(5,.t)] yC nX zot nX (λr hr=>hr) (wX I (xB zO pH Z) λv7 r7=>(wX I (xB zO pH U) λv8 r8=>(wX I (xB zO pH O) λv9 r9=>?_)));refine w_c I (sC (ev2 I I) call132 (λw hs=>zGU hs r8 r9 oM) λad h1 ah J=>?_);replace J:=Rp.Is.le J (Le.t (Le.q (l:=4*k+3) oM));refine w_c I (sC (ev2 I I) call88 (λw hs=>zPN hs r7.up J oM) λac h2 ae H=>?_);replace H:=Rp.Is.le H (Le.q (l:=15*k+18) oM);refine yJ (A:=[]) I (uB sizeOf26 pH M (H.le (Le.q (l:=20*k+40) oM))) λaa G=>(go3 ?_);refine xW (jA (t:=6) yI mh0 I G) ?_;intro ab C D;refine yG (λE S=>zQ I C E S) ?_;exact D
theorem dF{k:Nat}{vt:Value}{t:(T3 Tq)}(rt:(rpT (tPt k)).Is h0 vt t)(hcd0:k<=1000000):
 Calls prog 69 #[vt] w0 (Ret w0 h0 (λh r=>(rpQ (20*k+40)).Is h r (lH t.x t.y t.z))):=by
 refine cb1 10 vt func69 hs ?_;refine go2 ?_;refine nB rt λb1 ac H=>(nA (ρ:=(rpQ (20*k+40))) (X:=(0:Rat)) yS (yE oM) λb2 ab J=>(go5 ?_));refine lX (xB zO (y2e pH) H) λv4 r4=>(go1 ?_);refine lX (xB zO (y3i pH) H) λv6 r6=>(go1 ?_);refine lX (xB zO (y3u pH) H) λv8 Z=>(cL (ev3 I I I) call114 (λw hs=>zY1 hs r4 r6 Z oM) λv9 h1 aa U=>(zV (A:=[]) (uB sizeOf26 pH J U) λM G=>(go3 ?_)));refine xW (jA (t:=2) yI mh0 I G) ?_;intro O C D;refine yG (λE S=>zQ I C E S) ?_;exact D
theorem zNT{k:Nat}{vt:Value}{t:(T3 Tq)}(rt:(rpT (tPt k)).Is h0 vt t)(hcd0:k<=1000000):
 Calls prog 73 #[vt] w0 (Ret w0 h0 (λh r=>(tPt (4*k+10)).Is h r (smT t))):=by
 refine cb1 11 vt func73 hs ?_;refine go2 ?_;refine nB rt λb1 ae H=>(nA (ρ:=(tPt (4*k+10))) (X:=zT) yM (xE (yE oM)) λb2 ad M=>(go3 ?_));refine zK 8 _ [] (zai 0 4 [(5,.q),(6,.q),(4,.c),(7,.c),(8,.t)]) yC nX zot nX (λr hr=>hr) (go1 ?_);refine wX I (xB zO (y2e pH) H) λv4 r4=>(go1 ?_);refine wX I (xB zO (y3i pH) H) λv6 r6=>(go1 ?_);refine wX I (xB zO (y3u pH) H) λv9 r9=>?_;refine w_c I (sC (ev2 I I) call71 (λw hs=>zC5 hs r4 r6 oM) λv7 h1 ac O=>?_);replace O:=Rp.Is.le O (Le.t (Le.q (l:=2*k+2) oM));refine w_c I (sC (ev2 I I) call71 (λw hs=>zC5 hs O r9.up oM) λaa h2 ab J=>?_);replace J:=Rp.Is.le J (Le.t (Le.q (l:=3*k+4) oM));refine yJ (A:=[]) I (uB sizeOf53 pH M (J.le (Le.t (Le.q (l:=4*k+10) oM)))) λU G=>(go3 ?_);refine xW (jA (t:=2) zO mh0 I G) ?_;intro Z C D;refine yG (λE S=>zQ I C E S) ?_;exact D
theorem zAH{k:Nat}{va:Value}{a:Rat}(ra:(rpQ k).Is h0 va a){b:Int}(hb1:-9223372036854775808<=b)(hb2:b<9223372036854775808)(hcd0:k<=1000000000)(hcd1:0<b):
 Calls prog 83 #[va,vI b] w0 (Ret w0 h0 (λh r=>(rpQ (k+4)).Is h r (a/(b:Rat)))):=by
 refine cb2 15 va (vI b) func83 hs ?_;refine go2 ?_;refine nB ra λb2 ap Z=>(nA (ρ:=(rpQ (k+4))) (X:=(0:Rat)) yS (yE oM) λb4 ao U=>(go3 ?_));refine zK 10 _ [(7,(5,26,[.bool false,.slice none 0 0,.slice none 0 0]))] [(0,.q),(1,.q),(2,.c),(3,.c),(4,.q),(5,.q),(6,.q),(7,.a),(8,.c),(9,.q)] yC (jZ.cons I I (qR yS I I) jZ.nil) zot (qU I I gM) (λr hr=>hr) (wX I (xB yI pH Z) λv8 r8=>(go1 ?_));refine w_c I (sC (ev1 I) call75 (λw hs=>iL hs oM oM) λak h1 an ac=>?_);refine w_c I (sC (ev2 I I) call74 (λw hs=>zGW hs r8.up ac oM) λaj h2 am ab=>?_);obtain⟨G,rfl,C⟩:=ab
 change (rpQ (k+2)).Is h2 G (if((b:Int):Rat)=0 then 0 else a/((b:Int):Rat)) at C
 refine go3 ?_;refine w_a I I (λb5=>?_);have O:(rpQ (k+4)).R h2 [.bool false,.slice none 0 0,.slice none 0 0] (0:Rat):=(yE oM);refine w_c I (rR (A:=[]) (uB sizeOf26 pH O (C.le (Le.q (l:=k+4) oM))) (xU zox) λae M=>(go5 ?_));refine lX (xB yI pH M) λai aa=>(zV (A:=[_]) (uB sizeOf26 pH U aa) λad J=>(go3 ?_));refine xW (jA (t:=4) yI mh1 I J) ?_;intro ah D H;refine yG (λE S=>zQ I D E S) ?_;exact(Rp.Is.cast H (by exact zae (λe=>by have:=Rat.intCast_eq_zero_iff.1 e;omega)))
end
end Go.Proofs.YtboaboflnckgoaaGreat
