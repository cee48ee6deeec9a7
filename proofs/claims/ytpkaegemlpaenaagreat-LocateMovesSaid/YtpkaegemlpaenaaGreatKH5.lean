/- Texts that the proof needs, part 5. -/
import Derived.Test.YtpkaegemlpaenaaGreatKH4
set_option linter.unusedVariables false
set_option linter.unusedSimpArgs false
noncomputable section
set_option maxRecDepth 10000
set_option maxHeartbeats 1000000
namespace Bk
open Go
abbrev y7e:List Value:=[.bool false,.slice none 0 0,.slice none 0 0,.bool false,.slice none 0 0,.slice none 0 0,.bool false,.slice none 0 0,.slice none 0 0]
end Bk
namespace Go.Proofs.YtpkaegemlpaenaaGreat
open Bk Go Tryz
attribute [local irreducible] GL GC GQ W OpV
section
variable{w0:World}{h0:Mem}(hs:MLe h0 (mem w0))
include hs
theorem bH{k:Nat}{vp:Value}{p:Tq}(rp:(tPt k).Is h0 vp p):
 y8i 185 #[vp] w0 h0 (λh r=>(tPt (k+1)).Is h r (zZ p)):=by
 refine cb1 8 vp func185 hs ?_;refine go2 ?_;refine nB rp λb1 ab J=>(nA (ρ:=(tPt (k+1))) (X:=zT) yK (yR (yE oM)) λb2 aa M=>(go5 ?_));refine lX (xB yC (y6e pH) J) λv4 r4=>(go1 ?_);refine lX (xB yC (y7i pH) J) λv6 r6=>(lX (xV (ρ:=(tPt (k+1))) (xS (ps':=[(0,_),(1,_)]) underlying31 yK I I sizeOf29 e4z I (yR (yE oM)) (zD I (y6e (y5u _)) (r4.le (Le.q (l:=k+1) oM)) (zD I (y7i (y5u _)) (r6.le (Le.q (l:=k+1) oM)) zN)))) λv7 Z=>(zP (A:=[]) (uB sizeOf31 pH M Z) λO H=>(go3 ?_)));refine wG (jG (t:=2) zK mh0 I H) ?_;intro U C D;refine yN (λE S=>zS I C E S) ?_;exact D
theorem jJ{k:Nat}{va:Value}{a:Tq}(ra:(tPt k).Is h0 va a){vb:Value}{b:Tq}(rb:(tPt k).Is h0 vb b)(H0:k<=2000000000):
 y8i 174 #[va,vb] w0 h0 (λ_ r=>r=vB ((pr a 0 1)=(pr b 0 1))):=by
 refine cb2 17 va vb func174 hs ?_;refine go2 ?_;refine nB ra λb2 ad D=>(nB rb λb3 ac C=>(go6 ?_));refine lX (xB yC (y6e pH) D) λv6 r6=>(go1 ?_);refine lX (xB yC (y6e pH) C) λv8 r8=>(cL (ev2 I I) call73 (λw hs=>sR hs r6 r8 oM) λv9 h1 ai r9=>?_);obtain rfl:v9=vB (a.x=b.x):=r9;refine qH (ι:=Mem) 7 (λm_=>MLe h1 m_) (λ_=>[(16,vB ((a.x=b.x)/\(a.y=b.y)))]) (λ_=>[.var b3 31 ac,.var b2 31 ad]) (λm_=>m_) ?_ ?_
 ·
  refine zY (a.x=b.x) (λJ=>?_) (λJ=>?_)
  ·
   refine gT J I (go3 ?_);refine lX (xB yC (y7i pH) D) λah Z=>(go3 ?_);refine lX (xB yC (y7i pH) C) λae U=>(go1 ?_);refine cL (ev2 I I) call73 (λw hs=>sR hs Z U oM) λM h2 ab O=>?_;obtain rfl:M=vB (a.y=b.y):=O;refine go2 ?_;refine zU h2 ab ⟨?_,y5i⟩ I I;exact y4e (xD J)
  refine gF J I (go7 ?_);refine zU h1 (MLe.refl _) ⟨?_,y5i⟩ I I;exact y4e (xE J)
 intro aa H;refine rA ?_;refine go4 ?_;refine zC I I ?_
 first|exact kS (by rw[zZO];exact Iff.rfl)|exact(xW (by rw[zZO];exact Iff.rfl)).symm|exact(yM (by rw[zZO];exact Iff.rfl)).symm
theorem pW{k:Nat}{va:Value}{a:Tq}(ra:(tPt k).Is h0 va a){vb:Value}{b:Tq}(rb:(tPt k).Is h0 vb b)(H0:k<=2000000000):
 y8i 200 #[va,vb] w0 h0 (λ_ r=>r=vB (lx (pr a 0 1) (pr b 0 1))):=by
 refine cb2 21 va vb func200 hs ?_;refine go2 ?_;refine nB ra λb2 ak H=>(nB rb λb3 aj D=>(go7 ?_));refine lX (xB yC (y6e pH) H) λv7 r7=>(go1 ?_);refine lX (xB yC (y6e pH) D) λv9 r9=>(cL (ev2 I I) call17 (λw hs=>tK hs r7 r9 oM) λM h1 ai aa=>?_);obtain rfl:M=vI (xZ a.x b.x):=aa;have ac:=jC a.x b.x;refine gc9 (λC=>?_) λC=>?_
 ·
  refine go9 ?_;refine zC I I ?_;exact kS (yK4 C)
 refine go5 ?_;refine lX (xB yC (y7i pH) H) λae Z=>(go1 ?_);refine lX (xB yC (y7i pH) D) λad U=>(cL (ev2 I I) call17 (λw hs=>tK hs Z U oM) λJ h2 ah O=>?_);obtain rfl:J=vI (xZ a.y b.y):=O;have ab:=jC a.y b.y;refine go5 ?_;refine zC I I ?_;exact kS (yK3 C)
theorem pX{k:Nat}{vl:Value}{l:(List Tq)}(rl:(tLs k).Is h0 vl l)(H0:k<=100000)(H1:l.length<=1000):
 y8i 131 #[vl] w0 h0 (λh r=>(rpQ 1000000000).Is h r (uV l 0 1 l.length)):=by
 refine cb1 40 vl func131 hs ?_;refine go2 ?_;refine nA (ρ:=(rpQ 1)) (X:=(0:Rat)) xU (yE dC) λb2 bj au=>(go4 ?_);refine lX (xV (ρ:=(rpQ 1)) (xN (ps':=[]) underlying29 xU I I (qG underlying29) trivial I (yE dC) zN)) λv7 r7=>(nA (ρ:=(rpQ 1)) (X:=(0:Rat)) xU (yE dC) λb3 ch ar=>(zP (A:=[]) (uB sizeOf29 pH ar r7) λao am=>(go9 ?_)));refine gcL (ι:=Nat×Nat×List Value×Mem) (λ(m,q,J,ma)=>(MLe h0 ma/\((rpQ q).R ma J (uV l 0 1 m)/\m<=l.length/\q<=(4*k+9)*m+1),[(0,vl),(2,vP b2 0),(3,vP b3 0),(4,vI ↑m)],[.var b3 29 J,.var b2 29 bj],ma,l.length-m)) (0,1,ao,h0) ?_ ?_
 · exact⟨mle,am,zot,zot⟩
 rintro⟨m,q,J,ma⟩ ⟨bl,C,cc,cb⟩
 refine yY ?_;have bf:=zsi (4*k+9) (show m<=1000 by omega);refine gc9 (λan=>?_) λan=>?_
 ·
  refine go5 ?_;refine zJ 16 _ [(12,(5,31,y7e)),(13,(6,31,y7e))] (zai 0 12 [(12,.a),(13,.a),(14,.c),(15,.c)]) zX (jD.cons I I (uM yK I I) (jD.cons I I (uM yK I I) jD.nil)) (wL zou) (uN I I (uN I I kF)) (λr hr=>hr) (go2 ?_);refine wX I (xI zT m underlying35 zK rl) λca be=>(wX I (xA zK be) λbz bd=>(go4 ?_));refine w_q I (λh' L' hh hR=>jN underlying35 I (rl.up.mono hh)) I (wZ I (λ_ _=>wI I I oM oM) I (wX I (xI zT ((m+1)%l.length) underlying35 zK rl (hi:=by exact zcu _ oM)) λbx bc=>(wX I (xA zK bc) λbw bb=>?_)));refine w_a I I (λb5=>?_);have aq:(tPt 1).R ma y7e zT:=(yR (yE dC));refine w_a I I (λb6=>?_);have ap:(tPt 1).R ma y7e zT:=(yR (yE dC));refine w_c I ?_;have ak:=(Le.t (Le.q (l:=k+1) oM)).R aq;refine bF (A:=[_]) (uB sizeOf31 pH ak (bd.le (Le.t (Le.q (l:=k+1) oM)))) (xO zoy) λbi H=>?_;refine w_c I ?_;have Z:=(Le.t (Le.q (l:=k+1) oM)).R ap;refine bF (A:=[]) (uB sizeOf31 pH Z (bb.le (Le.t (Le.q (l:=k+1) oM)))) (xO zoy) λbh D=>(go2 ?_);refine zJ 13 _ [] (zai 0 5 (zai 6 4 [(5,.c),(10,.c),(11,.c),(12,.c),(13,.t)])) zX nX (wL zou) nX (λr hr=>hr) (wX I (xB yC pH C) λbv ba=>(go1 ?_));refine wX I (xB yC (y6e pH) H) λbu az=>(go1 ?_);refine wX I (xB yC (y7i pH) D) λbt ay=>(go1 ?_);refine wX I (xB yC (y6e pH) D) λbr ax=>(go1 ?_);refine wX I (xB yC (y7i pH) H) λbq aw=>?_;refine w_c I (sC (ev2 I I) call53 (λw hs=>jA hs az ay oM) λbs h1 cg ai=>?_);replace ai:=Rp.Is.le ai (Le.q (l:=2*k+2) oM);refine w_c I (sC (ev2 I I) call53 (λw hs=>jA hs ax.up aw.up oM) λbp h2 cf ah=>?_);replace ah:=Rp.Is.le ah (Le.q (l:=2*k+2) oM);refine w_c I (sC (ev2 I I) call55 (λw hs=>tJ hs ai.up ah oM) λbo h3 ce ae=>?_);replace ae:=Rp.Is.le ae (Le.q (l:=4*k+5) oM);refine w_c I (sC (ev2 I I) call45 (λw hs=>pK hs ba.up ae oM) λbn h4 cd ad=>?_);replace ad:=Rp.Is.le ad (Le.q (l:=4*k+q+6) oM);have U:=(Le.q (l:=4*k+q+6) oM).R C;refine yG (A:=[_,_]) I (uB sizeOf29 pH U ad) λaj ac=>(go8 ?_);refine xK (A:=[]) (xK (A:=[]) ?_);refine gqL ((m+1),(q+(4*k+9)),aj,h4) ?_ ?_
  · exact⟨mle,(Rp.castR (Le.R (Le.q (l:=q+(4*k+9)) oM) ac) I),zot,by rw[Nat.mul_succ];omega⟩
  omega
 have em:m=l.length:=by omega
 have bf:=zsi (4*k+9) (show m<=1000 by omega);refine go7 ?_;refine lX (xB yC pH C) λbm av=>?_;have O:=(Le.q (l:=q+1) oM).R au;refine zP (A:=[_]) (uB sizeOf29 pH O (av.le (Le.q (l:=q+1) oM))) λbg ab=>(go3 ?_);refine wG (jG (t:=2) yC mh1 I ab) ?_;intro bk M aa;refine yN (λE S=>zS I M E S) ?_;exact(Rp.Is.cast (Rp.Is.le aa (Le.q (l:=1000000000) oM)) (by rw[em]))
theorem tY{k:Nat}{va:Value}{a:Tq}(ra:(tPt k).Is h0 va a){vb:Value}{b:Tq}(rb:(tPt k).Is h0 vb b){vc:Value}{c:Tq}(rc:(tPt k).Is h0 vc c)(H0:k<=10000):
 y8i 186 #[va,vb,vc] w0 h0 (λ_ r=>r=vI (orZ (pr a 0 1) (pr b 0 1) (pr c 0 1))):=by
 refine cb3 13 va vb vc func186 hs ?_;refine go2 ?_;refine nB ra λb3 an O=>(nB rb λb4 am M=>(nB rc λb5 ak J=>(go5 ?_)));refine lX (xB zK pH O) λv7 r7=>(lX (xB zK pH M) λv8 r8=>(lX (xB zK pH J) λv9 r9=>(zG (zL (ρ:=(tPt (k+1))) (m:=3) (xs:=[a,b,c]) (ps':=[(0,_),(1,_),(2,_)]) underlying35 yK I I I (yR (yE oM)) e6 (zD I (y5e (y5u _) zT 0 dC) (r7.le (Le.t (Le.q (l:=k+1) oM))) (zD I (y5e (y5u _) zT 1 dC) (r8.le (Le.t (Le.q (l:=k+1) oM))) (zD I (y5e (y5u _) zT 2 dC) (r9.le (Le.t (Le.q (l:=k+1) oM))) zN))) zol nP) I I I ?_)))
 rintro ad ae ⟨ab,rfl,D⟩
 refine zQ (A:=[]) (ρ:=(tPt (k+1))) D ?_;intro h1 aj C;refine cL (ev1 I) call131 (λw hs=>pX hs C oM (by first|omega|exact(by decide:3<=1000))) λac h2 ai Z=>(cL (ev1 I) call48 (λw hs=>uS hs Z dC) λH h3 ah U=>?_);obtain rfl:H=vI (yQ (uV [a,b,c] 0 1 [a,b,c].length)):=U;have aa:=xC (uV [a,b,c] 0 1 [a,b,c].length);refine go4 ?_;refine zC I I ?_;exact zbi vI (yEN a b c)
theorem oW{k:Nat}{va:Value}{a:Tq}(ra:(tPt k).Is h0 va a){vb:Value}{b:Tq}(rb:(tPt k).Is h0 vb b){vp:Value}{p:Tq}(rp:(tPt k).Is h0 vp p)(H0:k<=10000):
 y8i 184 #[va,vb,vp] w0 h0 (λ_ r=>r=vB (onS (pr a 0 1) (pr b 0 1) (pr p 0 1))):=by
 refine cb3 29 va vb vp func184 hs ?_;refine go2 ?_;refine nB ra λb3 bj aa=>(nB rb λb4 bi Z=>(nB rp λb5 am ae=>(go3 ?_)));refine jM (ι:=List Value×List Value×Mem) (λ(D,C,m1)=>MLe h0 m1/\((tPt k).R m1 D (loT a b 0 1)/\(tPt k).R m1 C (hiT a b 0 1)/\True)) (λ(D,C,m1)=>[(3,vP b3 0),(4,vP b4 0),(5,vP b5 0)]) (λ(D,C,m1)=>[.var b5 31 am,.var b4 31 C,.var b3 31 D]) (λ(D,C,m1)=>m1) ?_ ?_
 ·
  refine go2 ?_;refine lX (xB zK pH Z) λv7 r7=>(lX (xB zK pH aa) λv8 r8=>(cL (ev2 I I) call200 (λw hs=>pW hs r7 r8 oM) λv9 h1 ai r9=>?_));obtain rfl:v9=vB (lx (pr b 0 1) (pr a 0 1)):=r9;refine gc2 (λU=>?_) λU=>?_
  ·
   refine go1 ?_;refine lX (xB zK pH Z) λbt bg=>(lX (xB zK pH aa) λbs bf=>(zP (A:=[_,_]) (uB sizeOf31 pH aa bg) λak ad=>(zP (A:=[_]) (uB sizeOf31 pH Z bf) λaj ac=>(go1 ?_))));refine zU (ak,aj,h1) ?_ e3z I I;refine⟨ai,?_⟩;refine⟨(Rp.castR ad (zau U).symm),(Rp.castR ac (zau U).symm),?_⟩
   trivial
  refine go1 ?_;refine zU (bj,bi,h1) ?_ e3z I I;refine⟨ai,?_⟩;refine⟨(Rp.castR aa.up (zae U).symm),(Rp.castR Z.up (zae U).symm),?_⟩
  trivial
 rintro⟨D,C,m1⟩ ⟨bk,ab⟩
 refine yY ?_;obtain⟨J,H,ab⟩:=ab;refine go2 ?_;refine lX (xB zK pH J) λbr be=>(lX (xB zK pH H) λbq bd=>(lX (xB zK pH ae) λbp bc=>(cL (ev3 I I I) call186 (λw hs=>tY hs be bd bc oM) λau h1 ai bb=>?_)));obtain rfl:au=vI (orZ (pr (loT a b 0 1) 0 1) (pr (hiT a b 0 1) 0 1) (pr p 0 1)):=bb;have bh:=tV (pr (loT a b 0 1) 0 1) (pr (hiT a b 0 1) 0 1) (pr p 0 1);refine go1 ?_;refine qH (ι:=Mem) 6 (λm_=>MLe h1 m_) (λ_=>[(22,vB (((orZ (pr (loT a b 0 1) 0 1) (pr (hiT a b 0 1) 0 1) (pr p 0 1))=(0:Int))/\(¬(lx (pr p 0 1) (pr (loT a b 0 1) 0 1))))),(4,vP b4 0),(5,vP b5 0)]) (λ_=>[.var b5 31 am,.var b4 31 C,.var b3 31 D]) (λm_=>m_) ?_ ?_
 ·
  refine zY ((orZ (pr (loT a b 0 1) 0 1) (pr (hiT a b 0 1) 0 1) (pr p 0 1))=(0:Int)) (λO=>?_) (λO=>?_)
  ·
   refine gT O I (go1 ?_);refine lX (xB zK pH ae) λbo ba=>(go1 ?_);refine lX (xB zK pH J) λbn az=>(go1 ?_);refine cL (ev2 I I) call200 (λw hs=>pW hs ba az oM) λar h2 ah ay=>?_;obtain rfl:ar=vB (lx (pr p 0 1) (pr (loT a b 0 1) 0 1)):=ay;refine go4 ?_;refine zU h2 ah ⟨?_,I,I,y5i⟩ I I;exact y4e (xD O)
  refine gF O I (go6 ?_);refine zU h1 (MLe.refl _) ⟨?_,I,I,y5i⟩ I I;exact y4e (xE O)
 intro M ao;refine rA ?_;refine qH (ι:=Mem) 6 (λm_=>MLe M m_) (λ_=>[(28,vB ((((orZ (pr (loT a b 0 1) 0 1) (pr (hiT a b 0 1) 0 1) (pr p 0 1))=(0:Int))/\(¬(lx (pr p 0 1) (pr (loT a b 0 1) 0 1))))/\(¬(lx (pr (hiT a b 0 1) 0 1) (pr p 0 1)))))]) (λ_=>[.var b5 31 am,.var b4 31 C,.var b3 31 D]) (λm_=>m_) ?_ ?_
 ·
  refine zY (((orZ (pr (loT a b 0 1) 0 1) (pr (hiT a b 0 1) 0 1) (pr p 0 1))=(0:Int))/\(¬(lx (pr p 0 1) (pr (loT a b 0 1) 0 1)))) (λO=>?_) (λO=>?_)
  ·
   refine gT O I (go1 ?_);refine lX (xB zK pH H) λbm ax=>(go1 ?_);refine lX (xB zK pH ae) λbl aw=>(go1 ?_);refine cL (ev2 I I) call200 (λw hs=>pW hs ax aw oM) λaq h2 ah av=>?_;obtain rfl:aq=vB (lx (pr (hiT a b 0 1) 0 1) (pr p 0 1)):=av;refine go4 ?_;refine zU h2 ah ⟨?_,y5i⟩ I I;exact y4e (xD O)
  refine gF O I (go6 ?_);refine zU M (MLe.refl _) ⟨?_,y5i⟩ I I;exact y4e (xE O)
 intro ap an;refine rA ?_;refine go4 ?_;refine zC I I ?_
 first|exact kS (by rw[<-yJ5];grind)|exact(xW (by rw[<-yJ5];grind)).symm|exact(yM (by rw[<-yJ5];grind)).symm
theorem zWF{k:Nat}{va:Value}{a:Tq}(ra:(tPt k).Is h0 va a){vb:Value}{b:Tq}(rb:(tPt k).Is h0 vb b){vc:Value}{c:Tq}(rc:(tPt k).Is h0 vc c){vd:Value}{d:Tq}(rd:(tPt k).Is h0 vd d)(H0:k<=9000):
 y8i 201 #[va,vb,vc,vd] w0 h0 (λ_ r=>r=vI (zEU (pr a 0 1) (pr b 0 1) (pr c 0 1) (pr d 0 1))):=by
 refine jT (n:=72) (e:=[(0,va),(1,vb),(2,vc),(3,vd)]) (vs:=[va,vb,vc,vd]) func201 rfl rfl (bL rfl) hs e4z (go2 ?_);refine nB ra λb4 ae ay=>(nB rb λb5 ad ax=>(nB rc λb6 ac aq=>(nB rd λb7 ab ap=>(go4 ?_))));refine zJ 6 _ [(2,(9,31,y7e)),(3,(10,31,y7e))] [(0,.q),(1,.q),(2,.a),(3,.a),(4,.c),(5,.c)] zX (jD.cons I I (uM yK I I) (jD.cons I I (uM yK I I) jD.nil)) zou (uN I I (uN I I kF)) (λr hr=>hr) (wX I (xB zK pH ay) λfm ec=>(wX I (xB zK pH ax) λfl eb=>?_));refine w_a I I (λb9=>?_);have ce:(tPt (k+1)).R h0 y7e zT:=(yR (yE oM));refine w_a I I (λO=>?_);have bk:(tPt (k+1)).R h0 y7e zT:=(yR (yE oM));refine w_c I (bF (A:=[_]) (uB sizeOf31 pH ce (ec.le (Le.t (Le.q (l:=k+1) oM)))) (xO zoy) λbg ai=>?_);refine w_c I (bF (A:=[]) (uB sizeOf31 pH bk (eb.le (Le.t (Le.q (l:=k+1) oM)))) (xO zoy) λaw ah=>(go2 ?_));refine jM (ι:=List Value×Mem) (λ(C,m1)=>MLe h0 m1/\((tPt (k+1)).R m1 C (mxT a c 0 1)/\True)) (λ(C,m1)=>[(4,vP b4 0),(5,vP b5 0),(6,vP b6 0),(7,vP b7 0),(9,vP b9 0),(10,vP O 0)]) (λ(C,m1)=>[.var O 31 aw,.var b9 31 C,.var b7 31 ab,.var b6 31 ac,.var b5 31 ad,.var b4 31 ae]) (λ(C,m1)=>m1) ?_ ?_
 ·
  refine go2 ?_;refine lX (xB zK pH ai) λfk ea=>(lX (xB zK pH aq) λfj dz=>(cL (ev2 I I) call200 (λw hs=>pW hs ea (dz.le (Le.t (Le.q (l:=k+1) oM))) oM) λcd h1 an dy=>?_));obtain rfl:cd=vB (lx (pr a 0 1) (pr c 0 1)):=dy;refine gc2 (λav=>?_) λav=>?_
  ·
   refine go1 ?_;refine lX (xB zK pH aq) λfi dx=>(zP (A:=[_]) (uB sizeOf31 pH ai (dx.le (Le.t (Le.q (l:=k+1) oM)))) λbf ba=>(go1 ?_));refine zU (bf,h1) ?_ e6 I I;refine⟨an,?_⟩;refine⟨(Rp.castR ba (zau av).symm),?_⟩
   trivial
  refine go1 ?_;refine zU (bg,h1) ?_ e6 I I;refine⟨an,?_⟩;refine⟨(Rp.castR ai.up (zae av).symm),?_⟩
  trivial
 rintro⟨C,m1⟩ ⟨ee,aa⟩
 refine yY ?_;obtain⟨H,aa⟩:=aa;refine jM (ι:=List Value×Mem) (λ(D,m2)=>MLe m1 m2/\((tPt (k+1)).R m2 D (mnT b d 0 1)/\True)) (λ(D,m2)=>[(4,vP b4 0),(5,vP b5 0),(6,vP b6 0),(7,vP b7 0),(9,vP b9 0),(10,vP O 0)]) (λ(D,m2)=>[.var O 31 D,.var b9 31 C,.var b7 31 ab,.var b6 31 ac,.var b5 31 ad,.var b4 31 ae]) (λ(D,m2)=>m2) ?_ ?_
 ·
  refine go2 ?_;refine lX (xB zK pH ap) λfh dw=>(lX (xB zK pH ah) λfg dv=>(cL (ev2 I I) call200 (λw hs=>pW hs (dw.le (Le.t (Le.q (l:=k+1) oM))) dv oM) λcc h1 an du=>?_));obtain rfl:cc=vB (lx (pr d 0 1) (pr b 0 1)):=du;refine gc2 (λau=>?_) λau=>?_
  ·
   refine go1 ?_;refine lX (xB zK pH ap) λff dt=>(zP (A:=[]) (uB sizeOf31 pH ah (dt.le (Le.t (Le.q (l:=k+1) oM)))) λbe az=>(go1 ?_));refine zU (be,h1) ?_ e6 I I;refine⟨an,?_⟩;refine⟨(Rp.castR az (zau au).symm),?_⟩
   trivial
  refine go1 ?_;refine zU (aw,h1) ?_ e6 I I;refine⟨an,?_⟩;refine⟨(Rp.castR ah.up (zae au).symm),?_⟩
  trivial
 rintro⟨D,m2⟩ ⟨ed,aa⟩
 refine yY ?_;obtain⟨ao,aa⟩:=aa;refine go4 ?_;refine lX (xB zK pH ao) λfe dr=>(lX (xB zK pH H) λfd dq=>(cL (ev2 I I) call200 (λw hs=>pW hs dr dq oM) λcb h1 an dp=>?_));obtain rfl:cb=vB (lx (pr (mnT b d 0 1) 0 1) (pr (mxT a c 0 1) 0 1)):=dp;refine gc3 (λbp=>?_) λbp=>?_
 ·
  refine go8 ?_;refine zC I I ?_;refine zbi vI ?_;rw[<-zHO I I];unfold zHP;grind
 refine go2 ?_;refine lX (xB zK pH H) λfc dn=>(lX (xB zK pH ao) λfb dm=>(cL (ev2 I I) call174 (λw hs=>jJ hs dn dm oM) λca h2 fp dl=>?_));obtain rfl:ca=vB ((pr (mxT a c 0 1) 0 1)=(pr (mnT b d 0 1) 0 1)):=dl;refine gc4 (λbo=>?_) λbo=>?_
 ·
  refine go8 ?_;refine zC I I ?_;refine zbi vI ?_;rw[<-zHO I I];unfold zHP;grind
 refine go2 ?_;refine lX (xB zK pH H) λfa dk=>(lX (xB zK pH ay) λez dj=>(cL (ev2 I I) call174 (λw hs=>jJ hs dk (dj.le (Le.t (Le.q (l:=k+1) oM))) oM) λbz h3 fo di=>?_));obtain rfl:bz=vB ((pr (mxT a c 0 1) 0 1)=(pr a 0 1)):=di;refine qH (ι:=Mem) 5 (λM=>MLe h3 M) (λ_=>[(38,vB (((pr (mxT a c 0 1) 0 1)=(pr a 0 1))\/((pr (mxT a c 0 1) 0 1)=(pr b 0 1)))),(4,vP b4 0),(5,vP b5 0),(6,vP b6 0),(7,vP b7 0),(9,vP b9 0)]) (λ_=>[.var O 31 D,.var b9 31 C,.var b7 31 ab,.var b6 31 ac,.var b5 31 ad,.var b4 31 ae]) (λM=>M) ?_ ?_
 ·
  refine zY ((pr (mxT a c 0 1) 0 1)=(pr a 0 1)) (λJ=>?_) (λJ=>?_)
  ·
   refine gT J I (go5 ?_);refine zU h3 (MLe.refl _) ⟨?_,I,I,I,I,I,y5i⟩ I I;exact y4e (uH J)
  refine gF J I (go1 ?_);refine lX (xB zK pH H) λey dh=>(go1 ?_);refine lX (xB zK pH ax) λew df=>(go1 ?_);refine cL (ev2 I I) call174 (λw hs=>jJ hs dh (df.le (Le.t (Le.q (l:=k+1) oM))) oM) λbx h4 Z de=>?_;obtain rfl:bx=vB ((pr (mxT a c 0 1) 0 1)=(pr b 0 1)):=de;refine go2 ?_;refine zU h4 Z ⟨?_,I,I,I,I,I,y5i⟩ I I;exact y4e (uJ J)
 intro am bj;refine rA ?_;refine qH (ι:=Mem) 10 (λM=>MLe am M) (λ_=>[(48,vB ((((pr (mxT a c 0 1) 0 1)=(pr a 0 1))\/((pr (mxT a c 0 1) 0 1)=(pr b 0 1)))/\(((pr (mxT a c 0 1) 0 1)=(pr c 0 1))\/((pr (mxT a c 0 1) 0 1)=(pr d 0 1))))),(4,vP b4 0),(5,vP b5 0),(6,vP b6 0),(7,vP b7 0),(9,vP b9 0)]) (λ_=>[.var O 31 D,.var b9 31 C,.var b7 31 ab,.var b6 31 ac,.var b5 31 ad,.var b4 31 ae]) (λM=>M) ?_ ?_
 ·
  refine zY (((pr (mxT a c 0 1) 0 1)=(pr a 0 1))\/((pr (mxT a c 0 1) 0 1)=(pr b 0 1))) (λJ=>?_) (λJ=>?_)
  ·
   refine gT J I (go1 ?_);refine lX (xB zK pH H) λev dd=>(go1 ?_);refine lX (xB zK pH aq) λeu dc=>(go1 ?_);refine cL (ev2 I I) call174 (λw hs=>jJ hs dd (dc.le (Le.t (Le.q (l:=k+1) oM))) oM) λbw h4 Z db=>?_;obtain rfl:bw=vB ((pr (mxT a c 0 1) 0 1)=(pr c 0 1)):=db;refine qH (ι:=Mem) 5 (λM=>MLe h4 M) (λ_=>[(47,vB (((pr (mxT a c 0 1) 0 1)=(pr c 0 1))\/((pr (mxT a c 0 1) 0 1)=(pr d 0 1)))),(4,vP b4 0),(5,vP b5 0),(6,vP b6 0),(7,vP b7 0),(9,vP b9 0),(39,.bool true)]) (λ_=>[.var O 31 D,.var b9 31 C,.var b7 31 ab,.var b6 31 ac,.var b5 31 ad,.var b4 31 ae]) (λM=>M) ?_ ?_
   ·
    refine zY ((pr (mxT a c 0 1) 0 1)=(pr c 0 1)) (λJ=>?_) (λJ=>?_)
    ·
     refine go1 ?_;refine gT J I (go6 ?_);refine zU h4 (MLe.refl _) ⟨?_,I,I,I,I,I,I,y5i⟩ I I;exact y4e (uH J)
    refine go1 ?_;refine gF J I (go1 ?_);refine lX (xB zK pH H) λes da=>(go1 ?_);refine lX (xB zK pH ap) λer cz=>(go1 ?_);refine cL (ev2 I I) call174 (λw hs=>jJ hs da (cz.le (Le.t (Le.q (l:=k+1) oM))) oM) λbv h5 bd cy=>?_;obtain rfl:bv=vB ((pr (mxT a c 0 1) 0 1)=(pr d 0 1)):=cy;refine go3 ?_;refine zU h5 bd ⟨?_,I,I,I,I,I,I,y5i⟩ I I;exact y4e (uJ J)
   intro ar aj;refine rA ?_;refine go2 ?_;refine zU ar (Z.trans aj) ⟨?_,I,I,I,I,I,y5i⟩ I I;exact y4e (xD J)
  refine gF J I (uR ?_);refine zU am (MLe.refl _) ⟨?_,I,I,I,I,I,y5i⟩ I I;exact y4e (xE J)
 intro ak bi;refine rA ?_;refine qH (ι:=Mem) 6 (λM=>MLe ak M) (λ_=>[(54,vB (((((pr (mxT a c 0 1) 0 1)=(pr a 0 1))\/((pr (mxT a c 0 1) 0 1)=(pr b 0 1)))/\(((pr (mxT a c 0 1) 0 1)=(pr c 0 1))\/((pr (mxT a c 0 1) 0 1)=(pr d 0 1))))/\(onS (pr a 0 1) (pr b 0 1) (pr (mxT a c 0 1) 0 1)))),(4,vP b4 0),(5,vP b5 0),(6,vP b6 0),(7,vP b7 0),(9,vP b9 0)]) (λ_=>[.var O 31 D,.var b9 31 C,.var b7 31 ab,.var b6 31 ac,.var b5 31 ad,.var b4 31 ae]) (λM=>M) ?_ ?_
 ·
  refine zY ((((pr (mxT a c 0 1) 0 1)=(pr a 0 1))\/((pr (mxT a c 0 1) 0 1)=(pr b 0 1)))/\(((pr (mxT a c 0 1) 0 1)=(pr c 0 1))\/((pr (mxT a c 0 1) 0 1)=(pr d 0 1)))) (λJ=>?_) (λJ=>?_)
  ·
   refine gT J I (go1 ?_);refine lX (xB zK pH ay) λeq cw=>(go1 ?_);refine lX (xB zK pH ax) λep cv=>(go1 ?_);refine lX (xB zK pH H) λeo cu=>(go1 ?_);refine cL (ev3 I I I) call184 (λw hs=>oW hs (cw.le (Le.t (Le.q (l:=k+1) oM))) (cv.le (Le.t (Le.q (l:=k+1) oM))) cu oM) λbu h4 Z ct=>?_;obtain rfl:bu=vB (onS (pr a 0 1) (pr b 0 1) (pr (mxT a c 0 1) 0 1)):=ct;refine go2 ?_;refine zU h4 Z ⟨?_,I,I,I,I,I,y5i⟩ I I;exact y4e (xD J)
  refine gF J I (go6 ?_);refine zU ak (MLe.refl _) ⟨?_,I,I,I,I,I,y5i⟩ I I;exact y4e (xE J)
 intro U bc;refine rA ?_;refine qH (ι:=Mem) 6 (λM=>MLe U M) (λ_=>[(60,vB ((((((pr (mxT a c 0 1) 0 1)=(pr a 0 1))\/((pr (mxT a c 0 1) 0 1)=(pr b 0 1)))/\(((pr (mxT a c 0 1) 0 1)=(pr c 0 1))\/((pr (mxT a c 0 1) 0 1)=(pr d 0 1))))/\(onS (pr a 0 1) (pr b 0 1) (pr (mxT a c 0 1) 0 1)))/\(onS (pr c 0 1) (pr d 0 1) (pr (mxT a c 0 1) 0 1)))),(4,vP b4 0),(5,vP b5 0),(6,vP b6 0),(7,vP b7 0),(9,vP b9 0)]) (λ_=>[.var O 31 D,.var b9 31 C,.var b7 31 ab,.var b6 31 ac,.var b5 31 ad,.var b4 31 ae]) (λM=>M) ?_ ?_
 ·
  refine zY (((((pr (mxT a c 0 1) 0 1)=(pr a 0 1))\/((pr (mxT a c 0 1) 0 1)=(pr b 0 1)))/\(((pr (mxT a c 0 1) 0 1)=(pr c 0 1))\/((pr (mxT a c 0 1) 0 1)=(pr d 0 1))))/\(onS (pr a 0 1) (pr b 0 1) (pr (mxT a c 0 1) 0 1))) (λJ=>?_) (λJ=>?_)
  ·
   refine gT J I (go1 ?_);refine lX (xB zK pH aq) λen cq=>(go1 ?_);refine lX (xB zK pH ap) λem cp=>(go1 ?_);refine lX (xB zK pH H) λel co=>(go1 ?_);refine cL (ev3 I I I) call184 (λw hs=>oW hs (cq.le (Le.t (Le.q (l:=k+1) oM))) (cp.le (Le.t (Le.q (l:=k+1) oM))) co oM) λbt h4 Z cn=>?_;obtain rfl:bt=vB (onS (pr c 0 1) (pr d 0 1) (pr (mxT a c 0 1) 0 1)):=cn;refine go2 ?_;refine zU h4 Z ⟨?_,I,I,I,I,I,y5i⟩ I I;exact y4e (xD J)
  refine gF J I (go6 ?_);refine zU U (MLe.refl _) ⟨?_,I,I,I,I,I,y5i⟩ I I;exact y4e (xE J)
 intro bl bb;refine rA ?_;refine gc3 (λbn=>?_) λbn=>?_
 ·
  refine go8 ?_;refine zC I I ?_;refine zbi vI ?_;rw[<-zHO I I];unfold zHP;grind
 refine go2 ?_;refine lX (xB zK pH ay) λek cm=>(lX (xB zK pH ax) λej cl=>(lX (xB zK pH H) λei ck=>(cL (ev3 I I I) call184 (λw hs=>oW hs (cm.le (Le.t (Le.q (l:=k+1) oM))) (cl.le (Le.t (Le.q (l:=k+1) oM))) ck oM) λbs h4 Z cj=>?_)));obtain rfl:bs=vB (onS (pr a 0 1) (pr b 0 1) (pr (mxT a c 0 1) 0 1)):=cj;refine qH (ι:=Mem) 6 (λM=>MLe h4 M) (λ_=>[(71,vB ((onS (pr a 0 1) (pr b 0 1) (pr (mxT a c 0 1) 0 1))/\(onS (pr c 0 1) (pr d 0 1) (pr (mxT a c 0 1) 0 1))))]) (λ_=>[.var O 31 D,.var b9 31 C,.var b7 31 ab,.var b6 31 ac,.var b5 31 ad,.var b4 31 ae]) (λM=>M) ?_ ?_
 ·
  refine zY (onS (pr a 0 1) (pr b 0 1) (pr (mxT a c 0 1) 0 1)) (λJ=>?_) (λJ=>?_)
  ·
   refine gT J I (go1 ?_);refine lX (xB zK pH aq) λeh ci=>(go1 ?_);refine lX (xB zK pH ap) λeg ch=>(go1 ?_);refine lX (xB zK pH H) λef cg=>(go1 ?_);refine cL (ev3 I I I) call184 (λw hs=>oW hs (ci.le (Le.t (Le.q (l:=k+1) oM))) (ch.le (Le.t (Le.q (l:=k+1) oM))) cg oM) λbr h5 bd cf=>?_;obtain rfl:br=vB (onS (pr c 0 1) (pr d 0 1) (pr (mxT a c 0 1) 0 1)):=cf;refine go2 ?_;refine zU h5 bd ⟨?_,y5i⟩ I I;exact y4e (xD J)
  refine gF J I (go6 ?_);refine zU h4 (MLe.refl _) ⟨?_,y5i⟩ I I;exact y4e (xE J)
 intro bq bh;refine rA ?_;refine gc3 (λbm=>?_) λbm=>?_
 ·
  refine go8 ?_;refine zC I I ?_;refine zbi vI ?_;rw[<-zHO I I];unfold zHP;grind
 refine go9 ?_;refine zC I I ?_;refine zbi vI ?_;rw[<-zHO I I];unfold zHP;grind
theorem zOG{k:Nat}{va:Value}{a:Tq}(ra:(tPt k).Is h0 va a){vb:Value}{b:Tq}(rb:(tPt k).Is h0 vb b){vc:Value}{c:Tq}(rc:(tPt k).Is h0 vc c){vd:Value}{d:Tq}(rd:(tPt k).Is h0 vd d)(H0:k<=10000):
 y8i 202 #[va,vb,vc,vd] w0 h0 (λ_ r=>r=vI (y6 (pr a 0 1) (pr b 0 1) (pr c 0 1) (pr d 0 1))):=by
 refine jT (n:=29) (e:=[(0,va),(1,vb),(2,vc),(3,vd)]) (vs:=[va,vb,vc,vd]) func202 rfl rfl (bL rfl) hs e4z (go2 ?_);refine nB ra λb4 ae Z=>(nB rb λb5 ad ai=>(nB rc λb6 ac U=>(nB rd λb7 ab ah=>(go6 ?_))));refine lX (xB zK pH Z) λv9 r9=>(lX (xB zK pH ai) λbp be=>(cL (ev2 I I) call174 (λw hs=>jJ hs r9 be oM) λap h1 bq bd=>?_));obtain rfl:ap=vB ((pr a 0 1)=(pr b 0 1)):=bd;refine qH (ι:=Mem) 6 (λJ=>MLe h1 J) (λ_=>[(17,vB (((pr a 0 1)=(pr b 0 1))/\(onS (pr c 0 1) (pr d 0 1) (pr a 0 1)))),(4,vP b4 0),(5,vP b5 0),(6,vP b6 0),(7,vP b7 0)]) (λ_=>[.var b7 31 ab,.var b6 31 ac,.var b5 31 ad,.var b4 31 ae]) (λJ=>J) ?_ ?_
 ·
  refine zY ((pr a 0 1)=(pr b 0 1)) (λC=>?_) (λC=>?_)
  ·
   refine gT C I (go1 ?_);refine lX (xB zK pH U) λbo bc=>(go1 ?_);refine lX (xB zK pH ah) λbn bb=>(go1 ?_);refine lX (xB zK pH Z) λbm ba=>(go1 ?_);refine cL (ev3 I I I) call184 (λw hs=>oW hs bc bb ba oM) λao h2 aa az=>?_;obtain rfl:ao=vB (onS (pr c 0 1) (pr d 0 1) (pr a 0 1)):=az;refine go2 ?_;refine zU h2 aa ⟨?_,I,I,I,I,y5i⟩ I I;exact y4e (xD C)
  refine gF C I (go6 ?_);refine zU h1 (MLe.refl _) ⟨?_,I,I,I,I,y5i⟩ I I;exact y4e (xE C)
 intro H ak;refine rA ?_;refine qH (ι:=Mem) 11 (λJ=>MLe H J) (λ_=>[(28,vB ((((pr a 0 1)=(pr b 0 1))/\(onS (pr c 0 1) (pr d 0 1) (pr a 0 1)))\/(((pr c 0 1)=(pr d 0 1))/\(onS (pr a 0 1) (pr b 0 1) (pr c 0 1)))))]) (λ_=>[.var b7 31 ab,.var b6 31 ac,.var b5 31 ad,.var b4 31 ae]) (λJ=>J) ?_ ?_
 ·
  refine zY (((pr a 0 1)=(pr b 0 1))/\(onS (pr c 0 1) (pr d 0 1) (pr a 0 1))) (λC=>?_) (λC=>?_)
  ·
   refine gT C I (qE ?_);refine zU H (MLe.refl _) ⟨?_,y5i⟩ I I;exact y4e (uH C)
  refine gF C I (go1 ?_);refine lX (xB zK pH U) λbl ay=>(go1 ?_);refine lX (xB zK pH ah) λbk ax=>(go1 ?_);refine cL (ev2 I I) call174 (λw hs=>jJ hs ay ax oM) λan h2 aa aw=>?_;obtain rfl:an=vB ((pr c 0 1)=(pr d 0 1)):=aw;refine qH (ι:=Mem) 6 (λJ=>MLe h2 J) (λ_=>[(27,vB (((pr c 0 1)=(pr d 0 1))/\(onS (pr a 0 1) (pr b 0 1) (pr c 0 1)))),(18,.bool false)]) (λ_=>[.var b7 31 ab,.var b6 31 ac,.var b5 31 ad,.var b4 31 ae]) (λJ=>J) ?_ ?_
  ·
   refine zY ((pr c 0 1)=(pr d 0 1)) (λC=>?_) (λC=>?_)
   ·
    refine go1 ?_;refine gT C I (go1 ?_);refine lX (xB zK pH Z) λbj av=>(go1 ?_);refine lX (xB zK pH ai) λbi au=>(go1 ?_);refine lX (xB zK pH U) λbh ar=>(go1 ?_);refine cL (ev3 I I I) call184 (λw hs=>oW hs av au ar oM) λam h3 bg aq=>?_;obtain rfl:am=vB (onS (pr a 0 1) (pr b 0 1) (pr c 0 1)):=aq;refine go3 ?_;refine zU h3 bg ⟨?_,I,y5i⟩ I I;exact y4e (xD C)
   refine go1 ?_;refine gF C I (go7 ?_);refine zU h2 (MLe.refl _) ⟨?_,I,y5i⟩ I I;exact y4e (xE C)
  intro O D;refine rA ?_;refine go2 ?_;refine zU O (aa.trans D) ⟨?_,y5i⟩ I I;exact y4e (uJ C)
 intro bf aj;refine rA ?_;refine gc2 (λM=>?_) λM=>?_
 ·
  refine go7 ?_;refine zC I I ?_;exact zbi vI (zau M).symm
 refine go8 ?_;refine zC I I ?_;exact zbi vI (zae M).symm
theorem zG3{k:Nat}{va:Value}{a:Tq}(ra:(tPt k).Is h0 va a){vb:Value}{b:Tq}(rb:(tPt k).Is h0 vb b){vc:Value}{c:Tq}(rc:(tPt k).Is h0 vc c){vd:Value}{d:Tq}(rd:(tPt k).Is h0 vd d)(H0:k<=5000):
 y8i 175 #[va,vb,vc,vd] w0 h0 (λ_ r=>r=vI (oJ (pr a 0 1) (pr b 0 1) (pr c 0 1) (pr d 0 1))):=by
 refine jT (n:=117) (e:=[(0,va),(1,vb),(2,vc),(3,vd)]) (vs:=[va,vb,vc,vd]) func175 rfl rfl (bL rfl) hs e4z (go2 ?_);refine nB ra λb4 kh cc=>(nB rb λb5 kg cb=>(nB rc λb6 kf ca=>(nB rd λb7 ke bz=>(go4 ?_))));refine zJ 8 _ [] [(0,.q),(2,.q),(4,.q),(6,.q),(1,.c),(3,.c),(5,.c),(7,.c),(8,.t),(9,.t),(10,.t),(11,.t)] zX nX (wL zou) nX (λr hr=>hr) (wX I (xB zK pH cc) λjw gj=>(wX I (xB zK pH cb) λju gh=>(wX I (xB zK pH ca) λjs gf=>(wX I (xB zK pH bz) λjq gc=>?_))));refine w_c I (sC (ev1 I) call185 (λw hs=>bH hs gj) λjv h1 kc gi=>?_);refine w_c I (sC (ev1 I) call185 (λw hs=>bH hs gh.up) λjt h2 kb gg=>?_);refine w_c I (sC (ev1 I) call185 (λw hs=>bH hs gf.up) λjr h3 ka ge=>?_);refine w_c I (sC (ev1 I) call185 (λw hs=>bH hs gc.up) λjp h4 jz gb=>?_);have bd:=(Le.t (Le.q (l:=k+1) oM)).R cc;refine yG (A:=[_,_,_]) I (uB sizeOf31 pH bd gi) λbp ad=>?_;have bc:=(Le.t (Le.q (l:=k+1) oM)).R cb;refine yG (A:=[_,_]) I (uB sizeOf31 pH bc gg) λbo ac=>?_;have bb:=(Le.t (Le.q (l:=k+1) oM)).R ca;refine yG (A:=[_]) I (uB sizeOf31 pH bb ge) λaz ab=>?_;have ba:=(Le.t (Le.q (l:=k+1) oM)).R bz;refine yG (A:=[]) I (uB sizeOf31 pH ba gb) λay aa=>(go2 ?_);refine jM (ι:=List Value×List Value×Mem) (λ(D,C,m1)=>MLe h4 m1/\((tPt (k+1)).R m1 D (loT (zZ a) (zZ b) 0 1)/\(tPt (k+1)).R m1 C (hiT (zZ a) (zZ b) 0 1)/\True)) (λ(D,C,m1)=>[(4,vP b4 0),(5,vP b5 0),(6,vP b6 0),(7,vP b7 0)]) (λ(D,C,m1)=>[.var b7 31 ay,.var b6 31 az,.var b5 31 C,.var b4 31 D]) (λ(D,C,m1)=>m1) ?_ ?_
 ·
  refine go2 ?_;refine lX (xB zK pH ac) λjo ga=>(lX (xB zK pH ad) λjn fz=>(cL (ev2 I I) call200 (λw hs=>pW hs ga fz oM) λdp h5 ap fy=>?_));obtain rfl:dp=vB (lx (pr (zZ b) 0 1) (pr (zZ a) 0 1)):=fy;refine gc2 (λaj=>?_) λaj=>?_
  ·
   refine go1 ?_;refine lX (xB zK pH ac) λjm fx=>(lX (xB zK pH ad) λjl fw=>(zP (A:=[_,_,_]) (uB sizeOf31 pH ad fx) λbn bh=>(zP (A:=[_,_]) (uB sizeOf31 pH ac fw) λbm bg=>(go1 ?_))));refine zU (bn,bm,h5) ?_ e4z I I;refine⟨ap,?_⟩;refine⟨(Rp.castR bh (zau aj).symm),(Rp.castR bg (zau aj).symm),?_⟩
   trivial
  refine go1 ?_;refine zU (bp,bo,h5) ?_ e4z I I;refine⟨ap,?_⟩;refine⟨(Rp.castR ad.up (zae aj).symm),(Rp.castR ac.up (zae aj).symm),?_⟩
  trivial
 rintro⟨D,C,m1⟩ ⟨hb,ah⟩
 refine yY ?_;obtain⟨Z,U,ah⟩:=ah;refine jM (ι:=List Value×List Value×Mem) (λ(J,H,m2)=>MLe m1 m2/\((tPt (k+1)).R m2 J (loT (zZ c) (zZ d) 0 1)/\(tPt (k+1)).R m2 H (hiT (zZ c) (zZ d) 0 1)/\True)) (λ(J,H,m2)=>[(4,vP b4 0),(5,vP b5 0),(6,vP b6 0),(7,vP b7 0)]) (λ(J,H,m2)=>[.var b7 31 H,.var b6 31 J,.var b5 31 C,.var b4 31 D]) (λ(J,H,m2)=>m2) ?_ ?_
 ·
  refine go2 ?_;refine lX (xB zK pH aa) λjk fv=>(lX (xB zK pH ab) λjj fu=>(cL (ev2 I I) call200 (λw hs=>pW hs fv fu oM) λdn h5 ap ft=>?_));obtain rfl:dn=vB (lx (pr (zZ d) 0 1) (pr (zZ c) 0 1)):=ft;refine gc2 (λai=>?_) λai=>?_
  ·
   refine go1 ?_;refine lX (xB zK pH aa) λji fs=>(lX (xB zK pH ab) λjh fr=>(zP (A:=[_]) (uB sizeOf31 pH ab fs) λbl bf=>(zP (A:=[]) (uB sizeOf31 pH aa fr) λbk be=>(go1 ?_))));refine zU (bl,bk,h5) ?_ e4z I I;refine⟨ap,?_⟩;refine⟨(Rp.castR bf (zau ai).symm),(Rp.castR be (zau ai).symm),?_⟩
   trivial
  refine go1 ?_;refine zU (az,ay,h5) ?_ e4z I I;refine⟨ap,?_⟩;refine⟨(Rp.castR ab.up (zae ai).symm),(Rp.castR aa.up (zae ai).symm),?_⟩
  trivial
 rintro⟨J,H,m2⟩ ⟨gz,ah⟩
 refine yY ?_;obtain⟨O,M,ah⟩:=ah;refine go3 ?_;refine lX (xB zK pH Z) λjg fq=>(lX (xB zK pH U) λjf fp=>(lX (xB zK pH O) λje fo=>(cL (ev3 I I I) call186 (λw hs=>tY hs fq fp fo oM) λdm h5 ap fm=>?_)));obtain rfl:dm=vI (orZ (pr (loT (zZ a) (zZ b) 0 1) 0 1) (pr (hiT (zZ a) (zZ b) 0 1) 0 1) (pr (loT (zZ c) (zZ d) 0 1) 0 1)):=fm;have gq:=tV (pr (loT (zZ a) (zZ b) 0 1) 0 1) (pr (hiT (zZ a) (zZ b) 0 1) 0 1) (pr (loT (zZ c) (zZ d) 0 1) 0 1);refine go1 ?_;refine qH (ι:=Mem) 7 (λm_=>MLe h5 m_) (λ_=>[(40,vB (((orZ (pr (loT (zZ a) (zZ b) 0 1) 0 1) (pr (hiT (zZ a) (zZ b) 0 1) 0 1) (pr (loT (zZ c) (zZ d) 0 1) 0 1))=(0:Int))/\((orZ (pr (loT (zZ a) (zZ b) 0 1) 0 1) (pr (hiT (zZ a) (zZ b) 0 1) 0 1) (pr (hiT (zZ c) (zZ d) 0 1) 0 1))=(0:Int)))),(4,vP b4 0),(5,vP b5 0),(6,vP b6 0),(7,vP b7 0)]) (λ_=>[.var b7 31 H,.var b6 31 J,.var b5 31 C,.var b4 31 D]) (λm_=>m_) ?_ ?_
 ·
  refine zY ((orZ (pr (loT (zZ a) (zZ b) 0 1) 0 1) (pr (hiT (zZ a) (zZ b) 0 1) 0 1) (pr (loT (zZ c) (zZ d) 0 1) 0 1))=(0:Int)) (λhg=>?_) (λhg=>?_)
  ·
   refine gT hg I (go1 ?_);refine lX (xB zK pH Z) λjd fl=>(go1 ?_);refine lX (xB zK pH U) λjc fk=>(go1 ?_);refine lX (xB zK pH M) λjb fj=>(go1 ?_);refine cL (ev3 I I I) call186 (λw hs=>tY hs fl fk fj oM) λdl h6 ak fi=>?_;obtain rfl:dl=vI (orZ (pr (loT (zZ a) (zZ b) 0 1) 0 1) (pr (hiT (zZ a) (zZ b) 0 1) 0 1) (pr (hiT (zZ c) (zZ d) 0 1) 0 1)):=fi;have go:=tV (pr (loT (zZ a) (zZ b) 0 1) 0 1) (pr (hiT (zZ a) (zZ b) 0 1) 0 1) (pr (hiT (zZ c) (zZ d) 0 1) 0 1);refine go4 ?_;refine zU h6 ak ⟨?_,I,I,I,I,y5i⟩ I I;exact y4e (xD hg)
  refine gF hg I (go7 ?_);refine zU h5 (MLe.refl _) ⟨?_,I,I,I,I,y5i⟩ I I;exact y4e (xE hg)
 intro aq cq;refine rA ?_;refine qH (ι:=Mem) 7 (λm_=>MLe aq m_) (λ_=>[(47,vB ((((orZ (pr (loT (zZ a) (zZ b) 0 1) 0 1) (pr (hiT (zZ a) (zZ b) 0 1) 0 1) (pr (loT (zZ c) (zZ d) 0 1) 0 1))=(0:Int))/\((orZ (pr (loT (zZ a) (zZ b) 0 1) 0 1) (pr (hiT (zZ a) (zZ b) 0 1) 0 1) (pr (hiT (zZ c) (zZ d) 0 1) 0 1))=(0:Int)))/\((orZ (pr (loT (zZ c) (zZ d) 0 1) 0 1) (pr (hiT (zZ c) (zZ d) 0 1) 0 1) (pr (loT (zZ a) (zZ b) 0 1) 0 1))=(0:Int)))),(4,vP b4 0),(5,vP b5 0),(6,vP b6 0),(7,vP b7 0)]) (λ_=>[.var b7 31 H,.var b6 31 J,.var b5 31 C,.var b4 31 D]) (λm_=>m_) ?_ ?_
 ·
  refine zY (((orZ (pr (loT (zZ a) (zZ b) 0 1) 0 1) (pr (hiT (zZ a) (zZ b) 0 1) 0 1) (pr (loT (zZ c) (zZ d) 0 1) 0 1))=(0:Int))/\((orZ (pr (loT (zZ a) (zZ b) 0 1) 0 1) (pr (hiT (zZ a) (zZ b) 0 1) 0 1) (pr (hiT (zZ c) (zZ d) 0 1) 0 1))=(0:Int))) (λhg=>?_) (λhg=>?_)
  ·
   refine gT hg I (go1 ?_);refine lX (xB zK pH O) λja fh=>(go1 ?_);refine lX (xB zK pH M) λiz fg=>(go1 ?_);refine lX (xB zK pH Z) λiy ff=>(go1 ?_);refine cL (ev3 I I I) call186 (λw hs=>tY hs fh fg ff oM) λdk h6 ak fe=>?_;obtain rfl:dk=vI (orZ (pr (loT (zZ c) (zZ d) 0 1) 0 1) (pr (hiT (zZ c) (zZ d) 0 1) 0 1) (pr (loT (zZ a) (zZ b) 0 1) 0 1)):=fe;have gn:=tV (pr (loT (zZ c) (zZ d) 0 1) 0 1) (pr (hiT (zZ c) (zZ d) 0 1) 0 1) (pr (loT (zZ a) (zZ b) 0 1) 0 1);refine go4 ?_;refine zU h6 ak ⟨?_,I,I,I,I,y5i⟩ I I;exact y4e (xD hg)
  refine gF hg I (go7 ?_);refine zU aq (MLe.refl _) ⟨?_,I,I,I,I,y5i⟩ I I;exact y4e (xE hg)
 intro am br;refine rA ?_;refine qH (ι:=Mem) 7 (λm_=>MLe am m_) (λ_=>[(54,vB (((((orZ (pr (loT (zZ a) (zZ b) 0 1) 0 1) (pr (hiT (zZ a) (zZ b) 0 1) 0 1) (pr (loT (zZ c) (zZ d) 0 1) 0 1))=(0:Int))/\((orZ (pr (loT (zZ a) (zZ b) 0 1) 0 1) (pr (hiT (zZ a) (zZ b) 0 1) 0 1) (pr (hiT (zZ c) (zZ d) 0 1) 0 1))=(0:Int)))/\((orZ (pr (loT (zZ c) (zZ d) 0 1) 0 1) (pr (hiT (zZ c) (zZ d) 0 1) 0 1) (pr (loT (zZ a) (zZ b) 0 1) 0 1))=(0:Int)))/\((orZ (pr (loT (zZ c) (zZ d) 0 1) 0 1) (pr (hiT (zZ c) (zZ d) 0 1) 0 1) (pr (hiT (zZ a) (zZ b) 0 1) 0 1))=(0:Int)))),(4,vP b4 0),(5,vP b5 0),(6,vP b6 0),(7,vP b7 0)]) (λ_=>[.var b7 31 H,.var b6 31 J,.var b5 31 C,.var b4 31 D]) (λm_=>m_) ?_ ?_
 ·
  refine zY ((((orZ (pr (loT (zZ a) (zZ b) 0 1) 0 1) (pr (hiT (zZ a) (zZ b) 0 1) 0 1) (pr (loT (zZ c) (zZ d) 0 1) 0 1))=(0:Int))/\((orZ (pr (loT (zZ a) (zZ b) 0 1) 0 1) (pr (hiT (zZ a) (zZ b) 0 1) 0 1) (pr (hiT (zZ c) (zZ d) 0 1) 0 1))=(0:Int)))/\((orZ (pr (loT (zZ c) (zZ d) 0 1) 0 1) (pr (hiT (zZ c) (zZ d) 0 1) 0 1) (pr (loT (zZ a) (zZ b) 0 1) 0 1))=(0:Int))) (λhg=>?_) (λhg=>?_)
  ·
   refine gT hg I (go1 ?_);refine lX (xB zK pH O) λix fd=>(go1 ?_);refine lX (xB zK pH M) λiw fc=>(go1 ?_);refine lX (xB zK pH U) λiv fb=>(go1 ?_);refine cL (ev3 I I I) call186 (λw hs=>tY hs fd fc fb oM) λdj h6 ak fa=>?_;obtain rfl:dj=vI (orZ (pr (loT (zZ c) (zZ d) 0 1) 0 1) (pr (hiT (zZ c) (zZ d) 0 1) 0 1) (pr (hiT (zZ a) (zZ b) 0 1) 0 1)):=fa;have gm:=tV (pr (loT (zZ c) (zZ d) 0 1) 0 1) (pr (hiT (zZ c) (zZ d) 0 1) 0 1) (pr (hiT (zZ a) (zZ b) 0 1) 0 1);refine go4 ?_;refine zU h6 ak ⟨?_,I,I,I,I,y5i⟩ I I;exact y4e (xD hg)
  refine gF hg I (go7 ?_);refine zU am (MLe.refl _) ⟨?_,I,I,I,I,y5i⟩ I I;exact y4e (xE hg)
 intro cz bq;refine rA ?_;refine gc2 (λcw=>?_) λcw=>?_
 ·
  refine go2 ?_;refine lX (xB zK pH Z) λiu ez=>(lX (xB zK pH U) λir ey=>(lX (xB zK pH O) λiq ew=>(lX (xB zK pH M) λip ev=>(cL (ev4 I I I I) call201 (λw hs=>zWF hs ez ey ew ev oM) λdi h6 ak eu=>?_))));obtain rfl:di=vI (zEU (pr (loT (zZ a) (zZ b) 0 1) 0 1) (pr (hiT (zZ a) (zZ b) 0 1) 0 1) (pr (loT (zZ c) (zZ d) 0 1) 0 1) (pr (hiT (zZ c) (zZ d) 0 1) 0 1)):=eu;refine go5 ?_;refine zC I I ?_;refine zbi vI ?_;rw[<-zA8 I I I I];unfold zAE;grind
 refine go5 ?_;refine lX (xB zK pH Z) λio es=>(lX (xB zK pH U) λim er=>(cL (ev2 I I) call174 (λw hs=>jJ hs es er oM) λdh h6 ak eq=>?_));obtain rfl:dh=vB ((pr (loT (zZ a) (zZ b) 0 1) 0 1)=(pr (hiT (zZ a) (zZ b) 0 1) 0 1)):=eq;refine qH (ι:=Mem) 5 (λm_=>MLe h6 m_) (λ_=>[(67,vB (((pr (loT (zZ a) (zZ b) 0 1) 0 1)=(pr (hiT (zZ a) (zZ b) 0 1) 0 1))\/((pr (loT (zZ c) (zZ d) 0 1) 0 1)=(pr (hiT (zZ c) (zZ d) 0 1) 0 1)))),(4,vP b4 0),(5,vP b5 0),(6,vP b6 0),(7,vP b7 0)]) (λ_=>[.var b7 31 H,.var b6 31 J,.var b5 31 C,.var b4 31 D]) (λm_=>m_) ?_ ?_
 ·
  refine zY ((pr (loT (zZ a) (zZ b) 0 1) 0 1)=(pr (hiT (zZ a) (zZ b) 0 1) 0 1)) (λhg=>?_) (λhg=>?_)
  ·
   refine gT hg I (go5 ?_);refine zU h6 (MLe.refl _) ⟨?_,I,I,I,I,y5i⟩ I I;exact y4e (uH hg)
  refine gF hg I (go1 ?_);refine lX (xB zK pH O) λil ep=>(go1 ?_);refine lX (xB zK pH M) λik eo=>(go1 ?_);refine cL (ev2 I I) call174 (λw hs=>jJ hs ep eo oM) λdf h7 bj en=>?_;obtain rfl:df=vB ((pr (loT (zZ c) (zZ d) 0 1) 0 1)=(pr (hiT (zZ c) (zZ d) 0 1) 0 1)):=en;refine go2 ?_;refine zU h7 bj ⟨?_,I,I,I,I,y5i⟩ I I;exact y4e (uJ hg)
 intro gk cp;refine rA ?_;refine gc2 (λcv=>?_) λcv=>?_
 ·
  refine go2 ?_;refine lX (xB zK pH Z) λij em=>(lX (xB zK pH U) λii el=>(lX (xB zK pH O) λih ek=>(lX (xB zK pH M) λig ej=>(cL (ev4 I I I I) call202 (λw hs=>zOG hs em el ek ej oM) λde h7 bj ei=>?_))));obtain rfl:de=vI (y6 (pr (loT (zZ a) (zZ b) 0 1) 0 1) (pr (hiT (zZ a) (zZ b) 0 1) 0 1) (pr (loT (zZ c) (zZ d) 0 1) 0 1) (pr (hiT (zZ c) (zZ d) 0 1) 0 1)):=ei;refine go5 ?_;refine zC I I ?_;refine zbi vI ?_;rw[<-zA8 I I I I];unfold zAE;grind
 refine go3 ?_;refine zJ 20 _ [] [(0,.q),(1,.q),(2,.q),(4,.q),(5,.q),(6,.q),(9,.q),(10,.q),(11,.q),(13,.q),(14,.q),(15,.q),(3,.c),(7,.c),(8,.q),(12,.c),(16,.c),(17,.q),(18,.q),(19,.q)] zX nX (wL zou) nX (λr hr=>hr) (wX I (xB zK pH Z) λie eh=>(wX I (xB zK pH U) λid eg=>(wX I (xB zK pH O) λic ef=>(wX I (xB zK pH Z) λib ed=>(wX I (xB zK pH U) λia ec=>(wX I (xB zK pH M) λhv eb=>(wX I (xB zK pH O) λhu dz=>(wX I (xB zK pH M) λhq dy=>(wX I (xB zK pH Z) λhp dx=>(wX I (xB zK pH O) λho dv=>(wX I (xB zK pH M) λhn du=>(wX I (xB zK pH U) λhm dt=>?_))))))))))));refine w_c I (sC (ev3 I I I) call186 (λw hs=>tY hs eh eg ef oM) λdd h7 bj ee=>?_);obtain rfl:dd=vI (orZ (pr (loT (zZ a) (zZ b) 0 1) 0 1) (pr (hiT (zZ a) (zZ b) 0 1) 0 1) (pr (loT (zZ c) (zZ d) 0 1) 0 1)):=ee;have aw:=tV (pr (loT (zZ a) (zZ b) 0 1) 0 1) (pr (hiT (zZ a) (zZ b) 0 1) 0 1) (pr (loT (zZ c) (zZ d) 0 1) 0 1);refine w_c I (sC (ev3 I I I) call186 (λw hs=>tY hs ed.up ec.up eb.up oM) λdc h8 jy ea=>?_);obtain rfl:dc=vI (orZ (pr (loT (zZ a) (zZ b) 0 1) 0 1) (pr (hiT (zZ a) (zZ b) 0 1) 0 1) (pr (hiT (zZ c) (zZ d) 0 1) 0 1)):=ea;have av:=tV (pr (loT (zZ a) (zZ b) 0 1) 0 1) (pr (hiT (zZ a) (zZ b) 0 1) 0 1) (pr (hiT (zZ c) (zZ d) 0 1) 0 1);refine wZ I (λ_ _=>gK I I (by have:=w7 aw av;omega) (by have:=w7 aw av;omega)) I ?_;refine w_c I (sC (ev3 I I I) call186 (λw hs=>tY hs dz.up dy.up dx.up oM) λdb h9 jx dw=>?_);obtain rfl:db=vI (orZ (pr (loT (zZ c) (zZ d) 0 1) 0 1) (pr (hiT (zZ c) (zZ d) 0 1) 0 1) (pr (loT (zZ a) (zZ b) 0 1) 0 1)):=dw;have au:=tV (pr (loT (zZ c) (zZ d) 0 1) 0 1) (pr (hiT (zZ c) (zZ d) 0 1) 0 1) (pr (loT (zZ a) (zZ b) 0 1) 0 1);refine w_c I (sC (ev3 I I I) call186 (λw hs=>tY hs dv.up du.up dt.up oM) λda kd hj dr=>?_);obtain rfl:da=vI (orZ (pr (loT (zZ c) (zZ d) 0 1) 0 1) (pr (hiT (zZ c) (zZ d) 0 1) 0 1) (pr (hiT (zZ a) (zZ b) 0 1) 0 1)):=dr;have ar:=tV (pr (loT (zZ c) (zZ d) 0 1) 0 1) (pr (hiT (zZ c) (zZ d) 0 1) 0 1) (pr (hiT (zZ a) (zZ b) 0 1) 0 1);refine wZ I (λ_ _=>gK I I (by have:=w7 au ar;omega) (by have:=w7 au ar;omega)) I (uR ?_);refine gU 4 97 (vB (((0:Int)<((orZ (pr (loT (zZ a) (zZ b) 0 1) 0 1) (pr (hiT (zZ a) (zZ b) 0 1) 0 1) (pr (loT (zZ c) (zZ d) 0 1) 0 1))*(orZ (pr (loT (zZ a) (zZ b) 0 1) 0 1) (pr (hiT (zZ a) (zZ b) 0 1) 0 1) (pr (hiT (zZ c) (zZ d) 0 1) 0 1))))\/((0:Int)<((orZ (pr (loT (zZ c) (zZ d) 0 1) 0 1) (pr (hiT (zZ c) (zZ d) 0 1) 0 1) (pr (loT (zZ a) (zZ b) 0 1) 0 1))*(orZ (pr (loT (zZ c) (zZ d) 0 1) 0 1) (pr (hiT (zZ c) (zZ d) 0 1) 0 1) (pr (hiT (zZ a) (zZ b) 0 1) 0 1)))))) ?_ ?_
 ·
  refine zY ((0:Int)<((orZ (pr (loT (zZ a) (zZ b) 0 1) 0 1) (pr (hiT (zZ a) (zZ b) 0 1) 0 1) (pr (loT (zZ c) (zZ d) 0 1) 0 1))*(orZ (pr (loT (zZ a) (zZ b) 0 1) 0 1) (pr (hiT (zZ a) (zZ b) 0 1) 0 1) (pr (hiT (zZ c) (zZ d) 0 1) 0 1)))) (λhg=>?_) (λhg=>?_)
  ·
   refine gT hg I (go4 ?_);refine gqU ?_;exact y4e (uH hg)
  refine gF hg I (go6 ?_);refine gqU ?_;exact y4e (uJ hg)
 refine gc3 (λcu=>?_) λcu=>?_
 ·
  refine go8 ?_;refine zC I I ?_;refine zbi vI ?_;rw[<-zA8 I I I I];unfold zAE;grind
 refine go2 ?_;refine lX (xB zK pH Z) λhl dq=>(lX (xB zK pH O) λgy cn=>(cL (ev2 I I) call174 (λw hs=>jJ hs dq cn oM) λbx cy he cm=>?_));obtain rfl:bx=vB ((pr (loT (zZ a) (zZ b) 0 1) 0 1)=(pr (loT (zZ c) (zZ d) 0 1) 0 1)):=cm;refine qH (ι:=Mem) 5 (λm_=>MLe cy m_) (λ_=>[(106,vB (((pr (loT (zZ a) (zZ b) 0 1) 0 1)=(pr (loT (zZ c) (zZ d) 0 1) 0 1))\/((pr (loT (zZ a) (zZ b) 0 1) 0 1)=(pr (hiT (zZ c) (zZ d) 0 1) 0 1)))),(5,vP b5 0),(6,vP b6 0),(7,vP b7 0)]) (λ_=>[.var b7 31 H,.var b6 31 J,.var b5 31 C,.var b4 31 D]) (λm_=>m_) ?_ ?_
 ·
  refine zY ((pr (loT (zZ a) (zZ b) 0 1) 0 1)=(pr (loT (zZ c) (zZ d) 0 1) 0 1)) (λhg=>?_) (λhg=>?_)
  ·
   refine gT hg I (go5 ?_);refine zU cy (MLe.refl _) ⟨?_,I,I,I,y5i⟩ I I;exact y4e (uH hg)
  refine gF hg I (go1 ?_);refine lX (xB zK pH Z) λgx cl=>(go1 ?_);refine lX (xB zK pH M) λgw ck=>(go1 ?_);refine cL (ev2 I I) call174 (λw hs=>jJ hs cl ck oM) λbw ax ae cj=>?_;obtain rfl:bw=vB ((pr (loT (zZ a) (zZ b) 0 1) 0 1)=(pr (hiT (zZ c) (zZ d) 0 1) 0 1)):=cj;refine go2 ?_;refine zU ax ae ⟨?_,I,I,I,y5i⟩ I I;exact y4e (uJ hg)
 intro ao bt;refine rA ?_;refine qH (ι:=Mem) 5 (λm_=>MLe ao m_) (λ_=>[(111,vB ((((pr (loT (zZ a) (zZ b) 0 1) 0 1)=(pr (loT (zZ c) (zZ d) 0 1) 0 1))\/((pr (loT (zZ a) (zZ b) 0 1) 0 1)=(pr (hiT (zZ c) (zZ d) 0 1) 0 1)))\/((pr (hiT (zZ a) (zZ b) 0 1) 0 1)=(pr (loT (zZ c) (zZ d) 0 1) 0 1)))),(5,vP b5 0),(7,vP b7 0)]) (λ_=>[.var b7 31 H,.var b6 31 J,.var b5 31 C,.var b4 31 D]) (λm_=>m_) ?_ ?_
 ·
  refine zY (((pr (loT (zZ a) (zZ b) 0 1) 0 1)=(pr (loT (zZ c) (zZ d) 0 1) 0 1))\/((pr (loT (zZ a) (zZ b) 0 1) 0 1)=(pr (hiT (zZ c) (zZ d) 0 1) 0 1))) (λhg=>?_) (λhg=>?_)
  ·
   refine gT hg I (go5 ?_);refine zU ao (MLe.refl _) ⟨?_,I,I,y5i⟩ I I;exact y4e (uH hg)
  refine gF hg I (go1 ?_);refine lX (xB zK pH U) λgu ci=>(go1 ?_);refine lX (xB zK pH O) λgt ch=>(go1 ?_);refine cL (ev2 I I) call174 (λw hs=>jJ hs ci ch oM) λbv ax ae cg=>?_;obtain rfl:bv=vB ((pr (hiT (zZ a) (zZ b) 0 1) 0 1)=(pr (loT (zZ c) (zZ d) 0 1) 0 1)):=cg;refine go2 ?_;refine zU ax ae ⟨?_,I,I,y5i⟩ I I;exact y4e (uJ hg)
 intro an bs;refine rA ?_;refine qH (ι:=Mem) 5 (λm_=>MLe an m_) (λ_=>[(116,vB (((((pr (loT (zZ a) (zZ b) 0 1) 0 1)=(pr (loT (zZ c) (zZ d) 0 1) 0 1))\/((pr (loT (zZ a) (zZ b) 0 1) 0 1)=(pr (hiT (zZ c) (zZ d) 0 1) 0 1)))\/((pr (hiT (zZ a) (zZ b) 0 1) 0 1)=(pr (loT (zZ c) (zZ d) 0 1) 0 1)))\/((pr (hiT (zZ a) (zZ b) 0 1) 0 1)=(pr (hiT (zZ c) (zZ d) 0 1) 0 1))))]) (λ_=>[.var b7 31 H,.var b6 31 J,.var b5 31 C,.var b4 31 D]) (λm_=>m_) ?_ ?_
 ·
  refine zY ((((pr (loT (zZ a) (zZ b) 0 1) 0 1)=(pr (loT (zZ c) (zZ d) 0 1) 0 1))\/((pr (loT (zZ a) (zZ b) 0 1) 0 1)=(pr (hiT (zZ c) (zZ d) 0 1) 0 1)))\/((pr (hiT (zZ a) (zZ b) 0 1) 0 1)=(pr (loT (zZ c) (zZ d) 0 1) 0 1))) (λhg=>?_) (λhg=>?_)
  ·
   refine gT hg I (go5 ?_);refine zU an (MLe.refl _) ⟨?_,y5i⟩ I I;exact y4e (uH hg)
  refine gF hg I (go1 ?_);refine lX (xB zK pH U) λgs cf=>(go1 ?_);refine lX (xB zK pH M) λgr ce=>(go1 ?_);refine cL (ev2 I I) call174 (λw hs=>jJ hs cf ce oM) λbu ax ae cd=>?_;obtain rfl:bu=vB ((pr (hiT (zZ a) (zZ b) 0 1) 0 1)=(pr (hiT (zZ c) (zZ d) 0 1) 0 1)):=cd;refine go2 ?_;refine zU ax ae ⟨?_,y5i⟩ I I;exact y4e (uJ hg)
 intro co bi;refine rA ?_;refine gc3 (λct=>?_) λct=>?_
 ·
  refine go8 ?_;refine zC I I ?_;refine zbi vI ?_;rw[<-zA8 I I I I];unfold zAE;grind
 refine go9 ?_;refine zC I I ?_;refine zbi vI ?_;rw[<-zA8 I I I I];unfold zAE;grind
theorem zOK{k:Nat}{vl:Value}{l:(List Tq)}(rl:(tLs k).Is h0 vl l){vp:Value}{p:Tq}(rp:(tPt k).Is h0 vp p)(H0:k<=9900)(H1:l.length<=1000):
 y8i 150 #[vl,vp] w0 h0 (λ_ r=>r=vI (kL l (pr p 0 1) 0 1)):=by
 refine cb2 66 vl vp func150 hs ?_;refine go2 ?_;refine nB rp λb3 ae ac=>(cD ?_);refine gcL (ι:=Nat×Mem) (λ(m,ma)=>(MLe h0 ma/\(m<=l.length/\∀q,q<m->¬onS (vV l 0 1 q) (vT l 0 1 q) (pr p 0 1)),[(0,vl),(3,vP b3 0),(5,vB (kM l (pr p 0 1) 0 1 m)),(6,vI ↑m)],[.var b3 31 ae],ma,l.length-m)) (0,h0) ?_ ?_ (he:=⟨I,I,y4e (yM id).symm,I,y5i⟩)
 · exact⟨mle,zot,λq hq=>by omega⟩
 rintro⟨m,ma⟩ ⟨cm,aw,ad⟩
 refine yY ?_;refine gc9 (λax=>?_) λax=>?_
 ·
  refine go5 ?_;refine zJ 16 _ [(12,(7,31,y7e)),(13,(8,31,y7e))] (zai 0 12 [(12,.a),(13,.a),(14,.c),(15,.c)]) zX (jD.cons I I (uM yK I I) (jD.cons I I (uM yK I I) jD.nil)) (wL zou) (uN I I (uN I I kF)) (λr hr=>hr) (go2 ?_);refine wX I (xI zT m underlying35 zK rl) λdl cg=>(wX I (xA zK cg) λdk cf=>(go4 ?_));refine w_q I (λh' L' hh hR=>jN underlying35 I (rl.up.mono hh)) I (wZ I (λ_ _=>wI I I oM oM) I (wX I (xI zT ((m+1)%l.length) underlying35 zK rl (hi:=by exact zcu _ oM)) λdj ce=>(wX I (xA zK ce) λdi cd=>?_)));refine w_a I I (λb7=>?_);have bh:(tPt (k+1)).R ma y7e zT:=(yR (yE oM));refine w_a I I (λb8=>?_);have bg:(tPt (k+1)).R ma y7e zT:=(yR (yE oM));refine w_c I (bF (A:=[_]) (uB sizeOf31 pH bh (cf.le (Le.t (Le.q (l:=k+1) oM)))) (xO zoy) λba J=>?_);refine w_c I (bF (A:=[]) (uB sizeOf31 pH bg (cd.le (Le.t (Le.q (l:=k+1) oM)))) (xO zoy) λaz H=>(go4 ?_));refine zJ 7 _ [] [(0,.q),(2,.q),(4,.q),(1,.c),(3,.c),(5,.c),(6,.c)] zX nX zou nX (λr hr=>hr) (wX I (xB zK pH J) λdh cc=>(wX I (xB zK pH H) λde cb=>(wX I (xB zK pH ac) λdc ca=>?_)));refine w_c I (sC (ev1 I) call185 (λw hs=>bH hs cc) λdf h1 dq ao=>?_);replace ao:=Rp.Is.le ao (Le.t (Le.q (l:=k+2) oM));refine w_c I (sC (ev1 I) call185 (λw hs=>bH hs cb.up) λdd h2 dp an=>?_);replace an:=Rp.Is.le an (Le.t (Le.q (l:=k+2) oM));refine w_c I (sC (ev1 I) call185 (λw hs=>bH hs ca.up) λdb h3 dn bz=>?_);refine w_c I (sC (ev3 I I I) call184 (λw hs=>oW hs ao.up an.up (bz.le (Le.t (Le.q (l:=k+2) oM))) oM) λbf h4 dm bx=>?_);obtain rfl:bf=vB (onS (pr (T3.mk ((l.getD m zT).x) ((l.getD m zT).y) (0:Rat)) 0 1) (pr (T3.mk ((l.getD ((m+1)%l.length) zT).x) ((l.getD ((m+1)%l.length) zT).y) (0:Rat)) 0 1) (pr (zZ p) 0 1)):=bx;refine gc2 (λZ=>?_) λZ=>?_
  ·
   refine qC ?_;refine zC I I ?_;exact zbi vI (yBR oM Z)
  refine go2 ?_;refine jM (ι:=List Value×List Value×Mem) (λ(D,C,mc)=>MLe h4 mc/\((tPt (k+1)).R mc D (zCY (l.getD m zT) (l.getD ((m+1)%l.length) zT))/\(tPt (k+1)).R mc C (zE0 (l.getD m zT) (l.getD ((m+1)%l.length) zT))/\True)) (λ(D,C,mc)=>[(0,vl),(3,vP b3 0),(5,vB (kM l (pr p 0 1) 0 1 m)),(6,vI ↑m),(7,vP b7 0),(8,vP b8 0)]) (λ(D,C,mc)=>[.var b8 31 C,.var b7 31 D,.var b3 31 ae]) (λ(D,C,mc)=>mc) ?_ ?_
  ·
   refine go3 ?_;refine lX (xB yC (y7i pH) J) λda bw=>(go1 ?_);refine lX (xB yC (y7i pH) H) λcz bv=>(cL (ev2 I I) call17 (λw hs=>tK hs bw bv oM) λbe h5 ar bu=>?_);obtain rfl:be=vI (xZ ((l.getD m zT).y) ((l.getD ((m+1)%l.length) zT).y)):=bu;have ck:=jC ((l.getD m zT).y) ((l.getD ((m+1)%l.length) zT).y);refine gc3 (λO=>?_) λO=>?_
   ·
    refine go1 ?_;refine lX (xB zK pH H) λcy bt=>(lX (xB zK pH J) λcw bs=>(zP (A:=[_]) (uB sizeOf31 pH J bt) λay am=>(zP (A:=[]) (uB sizeOf31 pH H bs) λau ak=>(go1 ?_))));refine zU (ay,au,h5) ?_ e6 I I;refine⟨ar,?_⟩;refine⟨(Rp.castR am (zau O).symm),(Rp.castR ak (zau O).symm),?_⟩
    trivial
   refine go1 ?_;refine zU (ba,az,h5) ?_ e6 I I;refine⟨ar,?_⟩;refine⟨(Rp.castR J.up (zae O).symm),(Rp.castR H.up (zae O).symm),?_⟩
   trivial
  rintro⟨D,C,mc⟩ ⟨cl,aj⟩
  refine yY ?_;obtain⟨ai,ah,aj⟩:=aj;refine go3 ?_;refine lX (xB yC (y7i pH) ai) λcv br=>(go1 ?_);refine lX (xB yC (y7i pH) ac) λcu bq=>(cL (ev2 I I) call17 (λw hs=>tK hs br bq oM) λbd h5 ar bp=>?_);obtain rfl:bd=vI (xZ ((zCY (l.getD m zT) (l.getD ((m+1)%l.length) zT)).y) p.y):=bp;have cj:=jC ((zCY (l.getD m zT) (l.getD ((m+1)%l.length) zT)).y) p.y;refine go1 ?_;refine qH (ι:=Mem) 8 (λm_=>MLe h5 m_) (λ_=>[(55,vB (((xZ ((zCY (l.getD m zT) (l.getD ((m+1)%l.length) zT)).y) p.y)<=(0:Int))/\((xZ p.y ((zE0 (l.getD m zT) (l.getD ((m+1)%l.length) zT)).y))<(0:Int)))),(0,vl),(3,vP b3 0),(5,vB (kM l (pr p 0 1) 0 1 m)),(6,vI ↑m),(7,vP b7 0),(8,vP b8 0)]) (λ_=>[.var b8 31 C,.var b7 31 D,.var b3 31 ae]) (λm_=>m_) ?_ ?_
  ·
   refine zY ((xZ ((zCY (l.getD m zT) (l.getD ((m+1)%l.length) zT)).y) p.y)<=(0:Int)) (λhg=>?_) (λhg=>?_)
   ·
    refine gT hg I (go3 ?_);refine lX (xB yC (y7i pH) ac) λct bo=>(go3 ?_);refine lX (xB yC (y7i pH) ah) λcq bn=>(go1 ?_);refine cL (ev2 I I) call17 (λw hs=>tK hs bo bn oM) λbc h6 aq bm=>?_;obtain rfl:bc=vI (xZ p.y ((zE0 (l.getD m zT) (l.getD ((m+1)%l.length) zT)).y)):=bm;have ci:=jC p.y ((zE0 (l.getD m zT) (l.getD ((m+1)%l.length) zT)).y);refine go4 ?_;refine zU h6 aq ⟨?_,I,I,I,I,I,I,y5i⟩ I I;exact y4e (xD hg)
   refine gF hg I (go8 ?_);refine zU h5 (MLe.refl _) ⟨?_,I,I,I,I,I,I,y5i⟩ I I;exact y4e (xE hg)
  intro U av;refine rA ?_;refine qH (ι:=Mem) 7 (λm_=>MLe U m_) (λ_=>[(62,vB ((((xZ ((zCY (l.getD m zT) (l.getD ((m+1)%l.length) zT)).y) p.y)<=(0:Int))/\((xZ p.y ((zE0 (l.getD m zT) (l.getD ((m+1)%l.length) zT)).y))<(0:Int)))/\((0:Int)<(orZ (pr (zCY (l.getD m zT) (l.getD ((m+1)%l.length) zT)) 0 1) (pr (zE0 (l.getD m zT) (l.getD ((m+1)%l.length) zT)) 0 1) (pr p 0 1))))),(0,vl),(3,vP b3 0),(5,vB (kM l (pr p 0 1) 0 1 m)),(6,vI ↑m)]) (λ_=>[.var b8 31 C,.var b7 31 D,.var b3 31 ae]) (λm_=>m_) ?_ ?_
  ·
   refine zY (((xZ ((zCY (l.getD m zT) (l.getD ((m+1)%l.length) zT)).y) p.y)<=(0:Int))/\((xZ p.y ((zE0 (l.getD m zT) (l.getD ((m+1)%l.length) zT)).y))<(0:Int))) (λhg=>?_) (λhg=>?_)
   ·
    refine gT hg I (go1 ?_);refine lX (xB zK pH ai) λcp bl=>(go1 ?_);refine lX (xB zK pH ah) λco bk=>(go1 ?_);refine lX (xB zK pH ac) λcn bj=>(go1 ?_);refine cL (ev3 I I I) call186 (λw hs=>tY hs bl bk (bj.le (Le.t (Le.q (l:=k+1) oM))) oM) λbb h6 aq bi=>?_;obtain rfl:bb=vI (orZ (pr (zCY (l.getD m zT) (l.getD ((m+1)%l.length) zT)) 0 1) (pr (zE0 (l.getD m zT) (l.getD ((m+1)%l.length) zT)) 0 1) (pr p 0 1)):=bi;have ch:=tV (pr (zCY (l.getD m zT) (l.getD ((m+1)%l.length) zT)) 0 1) (pr (zE0 (l.getD m zT) (l.getD ((m+1)%l.length) zT)) 0 1) (pr p 0 1);refine go4 ?_;refine zU h6 aq ⟨?_,I,I,I,I,y5i⟩ I I;exact y4e (xD hg)
   refine gF hg I (go7 ?_);refine zU U (MLe.refl _) ⟨?_,I,I,I,I,y5i⟩ I I;exact y4e (xE hg)
  intro M ap;refine rA ?_;refine gc2 (λab=>?_) λab=>?_
  ·
   refine qC ?_;refine xK (A:=[]) (xK (A:=[]) ?_);refine gqL ((m+1),M) ?_ ?_ (he:=⟨I,I,zbi (λz=>some (vB z)) (yJ8 ((zIA _ _ _).1 ab)),I,y5i⟩)
   · exact⟨mle,zot,zBU ad Z⟩
   omega
  refine go8 ?_;refine xK (A:=[]) (xK (A:=[]) ?_);refine gqL ((m+1),M) ?_ ?_ (he:=⟨I,I,zbi (λz=>some (vB z)) (yFH λe=>ab ((zIA _ _ _).2 e)),I,y5i⟩)
  · exact⟨mle,zot,zBU ad Z⟩
  omega
 refine zD0 (λaa=>?_) λaa=>?_
 ·
  refine go7 ?_;refine zC I I ?_;exact zbi vI (yBS oM aw ad aa)
 refine go8 ?_;refine zC I I ?_;exact zbi vI (zT4 oM aw ad aa)
theorem zRS{k:Nat}{vL:Value}{L:(List (List Tq))}(rL:(tLL k).Is h0 vL L){vp:Value}{p:Tq}(rp:(tPt k).Is h0 vp p){i:Nat}{j:Nat}(H0:i<3)(H1:j<3)(H2:k<=100000)(H3:∀x,x∈L->x.length<=1000)(H4:L.length<=1000):
 y8i 149 #[vL,vp,vI ↑i,vI ↑j] w0 h0 (λ_ r=>r=vI (whZ L (pr p i j) i j)):=by
 refine jT (n:=31) (e:=[(0,vL),(1,vp),(2,vI ↑i),(3,vI ↑j)]) (vs:=[vL,vp,vI ↑i,vI ↑j]) func149 rfl rfl (bL rfl) hs e4z (go2 ?_);refine nB rp λb5 ad O=>(nY ?_);refine gcL (ι:=Nat×Mem) (λ(m,ma)=>(MLe h0 ma/\(m<=L.length/\∀q,q<m->¬kL (L.getD q []) (pr p i j) i j=0),[(2,vI ↑i),(3,vI ↑j),(5,vP b5 0),(9,vI (mD L (pr p i j) i j m)),(12,vL),(13,vI (↑(L).length:Int)),(14,vI ↑m)],[.var b5 31 ad],ma,L.length-m)) (0,h0) ?_ ?_
 · exact⟨mle,zot,λq hq=>by omega⟩
 rintro⟨m,ma⟩ ⟨ae,ac,H⟩
 refine yY ?_;have ak:=zFX L (pr p i j) i j m;refine gc6 (λJ=>?_) λJ=>?_
 ·
  refine go6 ?_;refine lX (xI [] m underlying76 uQ rL) λaj ab=>(lX (xA uQ ab) λai aa=>(go6 ?_));refine lX (xB zK pH O) λah Z=>(go2 ?_);refine cL (ev4 I I I I) call183 (λw hs=>zOP (i:=i) (j:=j) hs aa Z oM oM oM (by first|omega|exact yCG zo4 _)) λM h1 am U=>?_;obtain rfl:M=vI (kL (L.getD m []) (pr p i j) i j):=U;refine gc9 (λC=>?_) λC=>?_
  ·
   refine qC ?_;refine zC I I ?_;exact zbi vI (zau ⟨m,zot,C⟩).symm
  refine gc6 (λD=>?_) λD=>?_
  ·
   refine go2 ?_;refine gv (mR I oM oM) I (go9 ?_);refine gqL ((m+1),h1) ?_ ?_ (he:=⟨I,I,I,zbi (λz=>some (vI z)) (zau D).symm,I,I,I,y5i⟩)
   · exact⟨mle,zot,zS1 H C⟩
   omega
  refine go8 ?_;refine gqL ((m+1),h1) ?_ ?_ (he:=⟨I,I,I,zbi (λz=>some (vI z)) (zae D).symm,I,I,I,y5i⟩)
  · exact⟨mle,zot,zS1 H C⟩
  omega
 refine qC ?_;refine zC I I ?_;exact zbi vI (yIA oM ac H)
end
end Go.Proofs.YtpkaegemlpaenaaGreat
namespace Bk
open Classical
def zU7(R:Nat->Nat->Prop)(q b:Nat):Prop:=∀p,p<b->R p q
def zNG(R:Nat->Nat->Prop)(a:Nat):Prop:=∀q,q<a->zU7 R q q
theorem zYC{R:Nat->Nat->Prop}:zNG R 0:=λq h=>by omega
theorem yEF{R:Nat->Nat->Prop}{q:Nat}:zU7 R q 0:=λp h=>by omega
theorem yEG{R:Nat->Nat->Prop}{q b:Nat}(h:zU7 R q b)(h1:R b q):zU7 R q (b+1):=λp h3=>by
 rcases zhu.1 h3 with h4|h4
 · exact h p h4
 · subst h4;exact h1
theorem zYD{R:Nat->Nat->Prop}{a b:Nat}(h:zNG R a)(h1:zU7 R a b)(hb:a<=b):zNG R (a+1):=λq h2=>by
 rcases zhu.1 h2 with h5|h5
 · exact h q h5
 · subst h5;exactλp hp=>h1 p zot
def yDH(l:List Pt)(k i:Nat):Prop:=yN9 l 0 1 k i/\okT l 0 1 k i
theorem yEV{l:List Pt}(h3:3<=l.length)(h:zNG (yDH l) l.length):aJ l 0 1:=
 ⟨h3,λp q h1 h2 h4=>(h q h4 p h2).1,λp q h1 h2 h4=>(h q h4 p h2).2⟩
theorem yAA{l:List Pt}{k i:Nat}:oJ (vV l 0 1 i) (vT l 0 1 i) (vV l 0 1 k) (vT l 0 1 k)=zJE l.length k i↔okT l 0 1 k i:=by
 unfold okT;rw[<-zNF,zF5]
end Bk
namespace Go.Proofs.YtpkaegemlpaenaaGreat
open Bk Go Tryz
attribute [local irreducible] GL GC GQ W OpV
section
variable{w0:World}{h0:Mem}(hs:MLe h0 (mem w0))
include hs
theorem zOH{k:Nat}{vl:Value}{l:(List Tq)}(rl:(tLs k).Is h0 vl l)(H0:k<=5000)(H1:l.length<=1000):
 y8i 129 #[vl] w0 h0 (λ_ r=>r=vB (aJ l 0 1)):=by
 refine cb1 69 vl func129 hs ?_;refine yCD ?_;refine cnd (λab=>?_) λab=>?_
 ·
  refine go7 ?_;refine zC I I ?_;exact(yM (λe=>by have:=e.1;omega)).symm
 refine go9 ?_;refine gcL (ι:=Nat×Mem) (λ(i,M)=>(MLe h0 M/\(i<=l.length/\zNG (yDH l) i),[(0,vl),(3,vI (↑(l).length:Int)),(4,vI ↑i)],[],M,l.length-i)) (0,h0) ?_ ?_
 · exact⟨mle,zot,zYC⟩
 rintro⟨i,M⟩ ⟨az,bo,hi2⟩
 refine yY ?_;refine gc8 (λaa=>?_) λaa=>?_
 ·
  refine uR ?_;refine gcL (ι:=Nat×Mem) (λ(q,mq)=>(MLe M mq/\(q<=i/\zU7 (yDH l) i q),[(0,vl),(3,vI (↑(l).length:Int)),(4,vI ↑i),(5,vI ↑q)],[],mq,i-q)) (0,M) ?_ ?_
  · exact⟨mle,zot,yEF⟩
  rintro⟨q,mq⟩ ⟨ay,bn,O⟩
  refine yY ?_;refine gc8 (λZ=>?_) λZ=>?_
  ·
   refine go6 ?_;refine zJ 9 _ [] (zai 0 8 [(8,.c)]) zX nX zou nX (λr hr=>hr) (go2 ?_);refine wX I (xI zT i underlying35 zK rl) λbm aw=>(wX I (xA zK aw) λbl av=>(go2 ?_));refine wX I (xI zT q underlying35 zK rl) λbk au=>(wX I (xA zK au) λbj ar=>?_);refine w_c I (sC (ev2 I I) call174 (λw hs=>jJ hs av ar oM) λad h1 bq aq=>?_);obtain rfl:ad=vB ((pr (l.getD i zT) 0 1)=(pr (l.getD q zT) 0 1)):=aq;refine gc2 (λH=>?_) λH=>?_
   ·
    refine dQ ?_;refine zC I I ?_;exact(yM (λe=>e.2.1 q i oM oM oM H.symm)).symm
   refine go7 ?_;refine jM (ι:=Mem) (λ(J:(Mem))=>MLe h1 J/\(True)) (λ(J:(Mem))=>[(0,vl),(3,vI (↑(l).length:Int)),(4,vI ↑i),(5,vI ↑q),(6,vI (zJE l.length q i))]) (λ(J:(Mem))=>[]) (λ(J:(Mem))=>J) ?_ ?_
   ·
    refine go6 ?_;refine gU 10 43 (vB (((↑i:Int)=((↑q:Int)+(1:Int)))\/(((↑q:Int)=(0:Int))/\((↑i:Int)=((↑(l).length:Int)-(1:Int)))))) ?_ ?_
    ·
     refine zY ((↑i:Int)=((↑q:Int)+(1:Int))) (λC=>?_) (λC=>?_)
     ·
      refine gT C I (uR ?_);refine gqU ?_;exact y4e (uH C)
     refine gF C I (go4 ?_);refine gU 6 42 (vB (((↑q:Int)=(0:Int))/\((↑i:Int)=((↑(l).length:Int)-(1:Int))))) ?_ ?_
     ·
      refine zY ((↑q:Int)=(0:Int)) (λC=>?_) (λC=>?_)
      ·
       refine go1 ?_;refine gT C I (qE ?_);refine gqU ?_;exact y4e (xD C)
      refine go1 ?_;refine gF C I (go7 ?_);refine gqU ?_;exact y4e (xE C)
     refine go2 ?_;refine gqU ?_;exact y4e (uJ C)
    refine gc2 (λU=>?_) λU=>?_
    ·
     refine go3 ?_;refine zU (h1) ?_ ⟨I,I,I,I,?_,y5i⟩ I I
     ·
      refine⟨MLe.refl _,?_⟩
      trivial
     · exact zbi (λz=>some (vI z)) (yIC oM)
    refine go1 ?_;refine zU (h1) ?_ ⟨I,I,I,I,?_,y5i⟩ I I
    ·
     refine⟨MLe.refl _,?_⟩
     trivial
    · exact zbi (λz=>some (vI z)) (yID oM)
   rintro J ⟨ax,ba⟩
   refine yY ?_;refine go1 ?_;refine zJ 25 _ [] (zai 0 22 [(23,.q),(22,.c),(24,.q)]) zX nX (wL zou) nX (λr hr=>hr) (go2 ?_);refine wX I (xI zT i underlying35 zK rl) λbi ap=>(wX I (xA zK ap) λbh ao=>(go4 ?_));refine wZ I (λ_ _=>wI I I oM oM) I (wX I (xI zT ((i+1)%l.length) underlying35 zK rl (hi:=by exact zcu _ oM)) λbg an=>(wX I (xA zK an) λbf am=>(go2 ?_)));refine wX I (xI zT q underlying35 zK rl) λbe ak=>(wX I (xA zK ak) λbd aj=>(go4 ?_));refine wZ I (λ_ _=>wI I I oM oM) I (wX I (xI zT ((q+1)%l.length) underlying35 zK rl (hi:=by exact zcu _ oM)) λbc ai=>(wX I (xA zK ai) λbb ah=>(go1 ?_)));refine w_c I (sC (ev4 I I I I) call175 (λw hs=>zG3 hs ao am aj ah oM) λac h2 bp ae=>?_);obtain rfl:ac=vI (oJ (pr (l.getD i zT) 0 1) (pr (l.getD ((i+1)%l.length) zT) 0 1) (pr (l.getD q zT) 0 1) (pr (l.getD ((q+1)%l.length) zT) 0 1)):=ae;refine gc3 (λD=>?_) λD=>?_
   ·
    refine cD ?_;refine zC I I ?_;exact(yM (λe=>D (yAA.2 (e.2.2 q i oM oM oM)))).symm
   refine go8 ?_;refine gqL ((q+1),h2) ?_ ?_
   · exact⟨mle,zot,yEG O ⟨λe=>H e.symm,yAA.1 (zdi D)⟩⟩
   omega
  refine qE ?_;refine gqL ((i+1),mq) ?_ ?_
  · exact⟨mle,zot,zYD hi2 O oM⟩
  omega
 have ei:i=l.length:=by omega
 have hT:=hi2;rw[ei] at hT;refine qE ?_;refine zC I I ?_;exact(xW (yEV oM hT)).symm
theorem zLQ{k:Nat}{va:Value}{a:(List Tq)}(ra:(tLs k).Is h0 va a){vb:Value}{b:(List Tq)}(rb:(tLs k).Is h0 vb b)(H0:k<=5000)(H1:a.length<=1000)(H2:b.length<=1000):
 y8i 130 #[va,vb] w0 h0 (λ_ r=>r=vB (fC a b 0 1)):=by
 refine cb2 45 va vb func130 hs ?_;refine qC ?_;refine gcL (ι:=Nat×Mem) (λ(p,D)=>(MLe h0 D/\(p<=a.length/\∀u v,u<p->v<b.length->¬zAA a b 0 1 u v),[(0,va),(1,vb),(5,vI ↑p)],[],D,a.length-p)) (0,h0) ?_ ?_
 · exact⟨mle,zot,λu v h=>by omega⟩
 rintro⟨p,D⟩ ⟨an,az,J⟩
 refine yY ?_;refine gc9 (λO=>?_) λO=>?_
 ·
  refine uR ?_;refine gcL (ι:=Nat×Mem) (λ(q,U)=>(MLe D U/\(q<=b.length/\∀v,v<q->¬zAA a b 0 1 p v),[(0,va),(1,vb),(5,vI ↑p),(6,vI ↑q)],[],U,b.length-q)) (0,D) ?_ ?_
  · exact⟨mle,zot,λv h=>by omega⟩
  rintro⟨q,U⟩ ⟨am,ay,H⟩
  refine yY ?_;refine gc9 (λM=>?_) λM=>?_
  ·
   refine go5 ?_;refine zJ 26 _ [] (zai 0 24 [(24,.c),(25,.q)]) zX nX (wL zou) nX (λr hr=>hr) (go2 ?_);refine wX I (xI zT p underlying35 zK ra) λax ak=>(wX I (xA zK ak) λaw aj=>(go4 ?_));refine w_q I (λh' L' hh hR=>jN underlying35 I (ra.up.mono hh)) I (wZ I (λ_ _=>wI I I oM oM) I (wX I (xI zT ((p+1)%a.length) underlying35 zK ra (hi:=by exact zcu _ oM)) λav ai=>(wX I (xA zK ai) λau ah=>(go2 ?_))));refine wX I (xI zT q underlying35 zK rb) λar ae=>(wX I (xA zK ae) λaq ad=>(go4 ?_));refine w_q I (λh' L' hh hR=>jN underlying35 I (rb.up.mono hh)) I (wZ I (λ_ _=>wI I I oM oM) I (wX I (xI zT ((q+1)%b.length) underlying35 zK rb (hi:=by exact zcu _ oM)) λap ac=>(wX I (xA zK ac) λao ab=>?_)));refine w_c I (sC (ev4 I I I I) call175 (λw hs=>zG3 hs aj ah ad ab oM) λZ h1 ba aa=>?_);obtain rfl:Z=vI (oJ (pr (a.getD p zT) 0 1) (pr (a.getD ((p+1)%a.length) zT) 0 1) (pr (b.getD q zT) 0 1) (pr (b.getD ((q+1)%b.length) zT) 0 1)):=aa;refine gc3 (λC=>?_) λC=>?_
   ·
    refine cD ?_;refine zC I I ?_;exact(xW ⟨p,q,zot,zot,(yC3.1 C)⟩).symm
   refine go8 ?_;refine gqL ((q+1),h1) ?_ ?_
   · exact⟨mle,zot,zZA (n:=0) (Q:=zAA a b 0 1) H (λe=>C (yC3.2 e))⟩
   omega
  refine qE ?_;refine gqL ((p+1),U) ?_ ?_
  · exact⟨mle,zot,zVZ J H oM⟩
  omega
 refine qE ?_;refine zC I I ?_;exact(yM (λ⟨u,v,h1,h2,h3⟩=>J u v oM h2 h3)).symm
theorem zOJ{k:Nat}{vp:Value}{p:Tq}(rp:(tPt k).Is h0 vp p){vq:Value}{q:Tq}(rq:(tPt k).Is h0 vq q)(H0:k<=100000):
 y8i 176 #[vp,vq] w0 h0 (λh r=>(tPt (2*k+2)).Is h r (T3.mk (zDP p.x q.x) (zDP p.y q.y) (0:Rat))):=by
 refine cb2 16 vp vq func176 hs ?_;refine go2 ?_;refine nB rp λb2 aq O=>(nB rq λb3 ap M=>(nA (ρ:=(tPt (2*k+2))) (X:=zT) yK (yR (yE oM)) λb4 ao U=>(go3 ?_)));refine zJ 11 _ [] (zai 0 4 (zai 5 4 [(4,.c),(9,.c),(10,.q),(11,.t)])) zX nX (wL zou) nX (λr hr=>hr) (go1 ?_);refine wX I (xB yC (y6e pH) O) λv6 r6=>(go1 ?_);refine wX I (xB yC (y6e pH) M) λv8 r8=>(go1 ?_);refine wX I (xB yC (y7i pH) O) λak ac=>(go1 ?_);refine wX I (xB yC (y7i pH) M) λaj ab=>?_;refine w_c I (sC (ev2 I I) call203 (λw hs=>zG0 hs r6 r8 oM) λv9 h1 an Z=>?_);replace Z:=Rp.Is.le Z (Le.q (l:=2*k+2) oM);refine w_c I (sC (ev2 I I) call203 (λw hs=>zG0 hs ac.up ab.up oM) λai h2 am C=>?_);replace C:=Rp.Is.le C (Le.q (l:=2*k+2) oM);refine wX I (xV (ρ:=(tPt (2*k+2))) (xS (ps':=[(0,_),(1,_)]) underlying31 yK I I sizeOf29 e4z I (yR (yE oM)) (zD I (y6e (y5u _)) Z.up (zD I (y7i (y5u _)) C zN)))) λah aa=>(yG (A:=[]) I (uB sizeOf31 pH U aa) λad J=>(go3 ?_));refine wG (jG (t:=4) zK mh0 I J) ?_;intro ae D H;refine yN (λE S=>zS I D E S) ?_;exact H
theorem zEN{k:Nat}{va:Value}{a:(List Tq)}(ra:(tLs k).Is h0 va a){vb:Value}{b:(List Tq)}(rb:(tLs k).Is h0 vb b)(H0:k<=2000)(H1:a.length<=1000)(H2:b.length<=1000):
 y8i 133 #[va,vb] w0 h0 (λ_ r=>r=vI (wiZ a b 0 1)):=by
 refine cb2 32 va vb func133 hs ?_;refine nY ?_;refine gcL (ι:=Nat×Mem) (λ(m,ma)=>(MLe h0 ma/\(m<=b.length),[(0,va),(1,vb),(5,vI (cE a b 0 1 m)),(6,vI ↑m)],[],ma,b.length-m)) (0,h0) ?_ ?_
 · exact⟨mle,oM⟩
 rintro⟨m,ma⟩ ⟨ac,D⟩
 refine yY ?_;have am:=D;have ak:=oH a b 0 1 m;refine gc9 (λH=>?_) λH=>?_
 ·
  refine go5 ?_;refine zJ 16 _ [] (zai 0 13 [(13,.c),(14,.c),(15,.q)]) zX nX (wL zou) nX (λr hr=>hr) (go3 ?_);refine wX I (xI zT m underlying35 zK rb) λaj ab=>(wX I (xA zK ab) λai aa=>(go4 ?_));refine w_q I (λh' L' hh hR=>jN underlying35 I (rb.up.mono hh)) I (wZ I (λ_ _=>wI I I oM oM) I (wX I (xI zT ((m+1)%b.length) underlying35 zK rb (hi:=by exact zcu _ oM)) λah Z=>(wX I (xA zK Z) λae U=>?_)));refine w_c I (sC (ev2 I I) call176 (λw hs=>zOJ hs aa U oM) λad h1 ao O=>?_);refine w_c I (sC (ev2 I I) call150 (λw hs=>zOK hs (ra.up.le (Le.s (Le.t (Le.q (l:=2*k+2) oM)))) O oM oM) λJ h2 an M=>?_);obtain rfl:J=vI (kL a (pr (T3.mk (zDP (b.getD m zT).x (b.getD ((m+1)%b.length) zT).x) (zDP (b.getD m zT).y (b.getD ((m+1)%b.length) zT).y) (0:Rat)) 0 1) 0 1):=M;refine gc3 (λC=>?_) λC=>?_
  ·
   refine qC ?_;refine gqL ((m+1),h2) ?_ ?_ (he:=⟨I,I,zbi (λz=>some (vI z)) (yH8 (yHI _ _) C),I,y5i⟩)
   · exact⟨mle,oM⟩
   omega
  refine go8 ?_;refine gqL ((m+1),h2) ?_ ?_ (he:=⟨I,I,zbi (λz=>some (vI z)) (yH9 (yHI _ _) C),I,y5i⟩)
  · exact⟨mle,oM⟩
  omega
 refine qC ?_;refine zC I I ?_;have em:m=b.length:=by omega
 subst em
 rfl
theorem zOI{k:Nat}{vL:Value}{L:(List (List Tq))}(rL:(tLL k).Is h0 vL L){f:Nat}(H0:f<L.length)(H1:L.length<=16)(H2:k<=2000)(H3:∀u,u<L.length->¬64<(gl L u).length):
 y8i 132 #[vL,vI ↑f] w0 h0 (λ_ r=>r=vI (sG L 0 1 f L.length)):=by
 have hE:=H3;refine cb2 55 vL (vI ↑f) func132 hs ?_;refine nY ?_;refine gcL (ι:=Nat×Mem) (λ(g,ma)=>(MLe h0 ma/\(g<=L.length),[(0,vL),(1,vI ↑f),(5,vI (sG L 0 1 f g)),(6,vI ↑g)],[],ma,L.length-g)) (0,h0) ?_ ?_
 · exact⟨mle,oM⟩
 rintro⟨g,ma⟩ ⟨ba,bx⟩
 refine yY ?_;have bq:=zDG L 0 1 f g;refine gc9 (λM=>?_) λM=>?_
 ·
  refine go6 ?_;refine zJ 24 _ [] (zai 0 4 ((4,.c)::(5,.c)::zai 6 10 (zai 17 5 [(16,.c),(22,.q),(23,.q)]))) zX nX (wL zou) nX (λr hr=>hr) (go2 ?_);refine wX I (xI [] g underlying76 uQ rL) λbp aw=>(wX I (xA uQ aw) λbo av=>?_);refine w_c I (sC (ev1 I) call131 (λw hs=>pX hs av oM (by first|omega|exact zci (zye.1 (hE _ oM)) dC|exact zci (hF _ oM) dC)) λbn h1 bw au=>?_);refine w_c I (sC (ev1 I) call48 (λw hs=>uS hs au dC) λZ h2 bv ar=>?_);obtain rfl:Z=vI (yQ (uV (L.getD g []) 0 1 (L.getD g []).length)):=ar;have ay:=xC (uV (L.getD g []) 0 1 (L.getD g []).length);refine go2 ?_;refine jZ ((yQ (uV (L.getD g []) 0 1 (L.getD g []).length))<=(0:Int)) (λH=>?_) (λH=>?_)
  ·
   rw[xW H];refine rS ?_;refine w_c I (mJ I I I I (sH ?_));refine gqL ((g+1),h2) ?_ ?_ (he:=⟨I,I,zbi (λz=>some (vI z)) ((zae (λe=>absurd e.1.1 (y2u.2 zo4))).symm),I,y5i⟩)
   · exact⟨mle,oM⟩
   omega
  rw[yM H];refine yV I I I (λh' L' hh hR=>xG I) I (yV I I I (λh' L' hh hR=>xG I) I (oX I (xI [] g underlying76 uQ rL) λbm aq=>(oX I (xA uQ aq) λbl ap=>(yV I I I (λh' L' hh hR=>xG I) I (yV I I I (λh' L' hh hR=>xG I) I (oX I (xI [] f underlying76 uQ rL) λbk ao=>(oX I (xA uQ ao) λbj an=>(yV I I I (λh' L' hh hR=>xG I) I (yV I I I (λh' L' hh hR=>xG I) I (oX I (xI [] f underlying76 uQ rL) λbi ak=>(oX I (xA uQ ak) λbh aj=>(yV I I I (λh' L' hh hR=>jN underlying35 I (aj.mono hh)) I ?_))))))))))));refine w_c I (iT I I (sC (ev2 I I) call133 (λw hs=>zEN hs ap an oM (by first|omega|exact zci (zye.1 (hE _ oM)) dC|exact zci (hF _ oM) dC) (by first|omega|exact zci (zye.1 (hE _ oM)) dC|exact zci (hF _ oM) dC)) λU h3 bu am=>?_));obtain rfl:U=vI (wiZ (L.getD g []) (L.getD f []) 0 1):=am;have ax:=oH (L.getD g []) (L.getD f []) 0 1 (L.getD f []).length;refine gc4 (λC=>?_) λC=>?_
  ·
   refine go9 ?_;refine gqL ((g+1),h3) ?_ ?_ (he:=⟨I,I,zbi (λz=>some (vI z)) ((zae (λe=>C e.1.2)).symm),I,y5i⟩)
   · exact⟨mle,oM⟩
   omega
  refine go3 ?_;refine zJ 16 _ [] (zai 0 7 (zai 8 4 [(7,.c),(12,.c),(13,.c),(14,.q),(15,.q)])) zX nX (wL zou) nX (λr hr=>hr) (go3 ?_);refine jZ ((sG L 0 1 f g)<(0:Int)) (λD=>?_) (λD=>?_)
  ·
   rw[xW D];refine go8 ?_;refine w_c I (mJ I I I I ?_);refine w_c I (mJ I I I I ?_);refine w_c I (mJ I I I I (dQ ?_));refine gqL ((g+1),h3) ?_ ?_ (he:=⟨I,I,zbi (λz=>some (vI z)) ((zau ⟨⟨ywi.1 zo4,zdi C⟩,.inl zo4⟩).symm),I,y5i⟩)
   · exact⟨mle,oM⟩
   omega
  rw[yM D];refine yV I I I (λh' L' hh hR=>xG I) I (yV I I I (λh' L' hh hR=>xG I) I (oX I (xI [] g underlying76 uQ rL) λbg ai=>(oX I (xA uQ ai) λbf ah=>(yV I I I (λh' L' hh hR=>xG I) I (yV I I I (λh' L' hh hR=>xG I) I (oX I (xI [] ((sG L 0 1 f g).toNat) underlying76 uQ rL) λbd ad=>(oX I (xA uQ ad) λbc ac=>?_)))))));refine w_c I (iT I I (sC (ev1 I) call131 (λw hs=>pX hs ah oM (by first|omega|exact zci (zye.1 (hE _ oM)) dC|exact zci (hF _ oM) dC)) λbe h4 bt ae=>?_));refine w_c I (iT I I (sC (ev1 I) call131 (λw hs=>pX hs ac.up oM (by first|omega|exact zci (zye.1 (hE _ oM)) dC|exact zci (hF _ oM) dC)) λbb h5 bs ab=>?_));refine w_c I (iT I I (sC (ev2 I I) call17 (λw hs=>tK hs ae.up ab dC) λO h6 br aa=>?_));obtain rfl:O=vI (xZ (uV (L.getD g []) 0 1 (L.getD g []).length) (uV (L.getD ((sG L 0 1 f g).toNat) []) 0 1 (L.getD ((sG L 0 1 f g).toNat) []).length)):=aa;have az:=jC (uV (L.getD g []) 0 1 (L.getD g []).length) (uV (L.getD ((sG L 0 1 f g).toNat) []) 0 1 (L.getD ((sG L 0 1 f g).toNat) []).length);refine gc4 (λJ=>?_) λJ=>?_
  ·
   refine qE ?_;refine gqL ((g+1),h6) ?_ ?_ (he:=⟨I,I,zbi (λz=>some (vI z)) ((zau ⟨⟨ywi.1 zo4,zdi C⟩,.inr J⟩).symm),I,y5i⟩)
   · exact⟨mle,oM⟩
   omega
  refine go8 ?_;refine gqL ((g+1),h6) ?_ ?_ (he:=⟨I,I,zbi (λz=>some (vI z)) ((zae (λe=>e.2.elim (λh=>absurd h zo4) J)).symm),I,y5i⟩)
  · exact⟨mle,oM⟩
  omega
 refine qC ?_;refine zC I I ?_;have eg:g=L.length:=by omega
 rw[eg]
end
set_option maxHeartbeats 2000000 in
section
variable{w0:World}{h0:Mem}(hs:MLe h0 (mem w0))
include hs
theorem zJW{k:Nat}{vL:Value}{L:(List (List Tq))}(rL:(tLL k).Is h0 vL L)(H0:k<=2000)(H1:∀x,x∈L->cA x):
 y8i 85 #[vL] w0 h0 (λh r=>∃u0,r=.tuple #[u0,vI (uC L 0 1)]/\(rpS rpI).Is h u0 (sS L 0 1)):=by
 have hF:=H1;refine cb1 133 vL func85 hs ?_;refine sH ?_;refine cnd (λbv=>?_) λbv=>?_
 ·
  refine go8 ?_;refine wY I I I ?_;refine⟨_,?_,(Rp.Is.cast (eL _) (by exact(show uC L 0 1=2/\sS L 0 1=[] from zL0 (.inl oM)).2.symm))⟩;rw[(show uC L 0 1=2/\sS L 0 1=[] from zL0 (.inl oM)).1]
 refine go9 ?_;refine gcL (ι:=Nat×Mem) (λ(q,ma)=>(MLe h0 ma/\(q<=L.length/\∀u,u<q->¬64<(gl L u).length),[(0,vL),(4,vI ↑q)],[],ma,L.length-q)) (0,h0) ?_ ?_
 · exact⟨mle,zot,λu h=>by omega⟩
 rintro⟨q,ma⟩ ⟨ec,fc,bg⟩
 refine yY ?_;refine gc9 (λbu=>?_) λbu=>?_
 ·
  refine go8 ?_;refine lX (xI [] q underlying76 uQ rL) λeu da=>(lX (xA uQ da) λes ev=>(gc4 (λbt=>?_) λbt=>?_))
  ·
   refine qC ?_;refine wY I I I ?_;refine⟨_,?_,(Rp.Is.cast (eL _) (by exact(show uC L 0 1=2/\sS L 0 1=[] from zL0 (.inr ⟨q,zot,(by show 64<(L.getD q []).length;omega)⟩)).2.symm))⟩;rw[(show uC L 0 1=2/\sS L 0 1=[] from zL0 (.inr ⟨q,zot,(by show 64<(L.getD q []).length;omega)⟩)).1]
  refine go8 ?_;refine gqL ((q+1),ma) ?_ ?_
  · exact⟨mle,zot,vZ (Q:=λu=>¬64<(gl L u).length) bg (by show ¬64<(L.getD q []).length;omega)⟩
  omega
 have hE:∀u,u<L.length->¬64<(gl L u).length:=λu hu=>bg u oM;refine qC ?_;refine gcL (ι:=Nat×Mem) (λ(s,ms)=>(MLe ma ms/\(s<=L.length/\∀u,u<s->aJ (gl L u) 0 1),[(0,vL),(5,vI ↑s)],[],ms,L.length-s)) (0,ma) ?_ ?_
 · exact⟨mle,zot,λu h=>by omega⟩
 rintro⟨s,ms⟩ ⟨dx,fb,bf⟩
 refine yY ?_;refine gc9 (λbs=>?_) λbs=>?_
 ·
  refine go8 ?_;refine lX (xI [] s underlying76 uQ rL) λer cz=>(lX (xA uQ cz) λeq cy=>(cL (ev1 I) call129 (λw hs=>zOH hs cy oM (by first|omega|assumption|exact zci (zye.1 (hE _ oM)) dC)) λce h1 M cw=>?_));obtain rfl:ce=vB (aJ (L.getD s []) 0 1):=cw;refine gc3 (λaa=>?_) λaa=>?_
  ·
   refine qC ?_;refine wY I I I ?_;refine⟨_,?_,(Rp.Is.cast (eL _) (by exact(show uC L 0 1=8/\sS L 0 1=[] from yAU oM hE ⟨s,zot,aa⟩).2.symm))⟩;rw[(show uC L 0 1=8/\sS L 0 1=[] from yAU oM hE ⟨s,zot,aa⟩).1]
  refine go8 ?_;refine gqL ((s+1),h1) ?_ ?_
  · exact⟨mle,zot,vZ (Q:=λu=>aJ (gl L u) 0 1) bf (zdi aa)⟩
  omega
 have hS:∀u,u<L.length->aJ (gl L u) 0 1:=λu hu=>bf u oM;refine qC ?_;refine gcL (ι:=Nat×Mem) (λ(c,mc)=>(MLe ms mc/\(c<=L.length/\∀u v,v<c->u<v->¬fC (gl L u) (gl L v) 0 1),[(0,vL),(6,vI ↑c)],[],mc,L.length-c)) (0,ms) ?_ ?_
 · exact⟨mle,zot,λu v h=>by omega⟩
 rintro⟨c,mc⟩ ⟨eb,ed,ak⟩
 refine yY ?_;refine gc9 (λbr=>?_) λbr=>?_
 ·
  refine uR ?_;refine gcL (ι:=Nat×Mem) (λ(d,md)=>(MLe mc md/\(d<=c/\∀u,u<d->¬fC (gl L u) (gl L c) 0 1),[(0,vL),(6,vI ↑c),(7,vI ↑d)],[],md,c-d)) (0,mc) ?_ ?_
  · exact⟨mle,zot,λu h=>by omega⟩
  rintro⟨d,md⟩ ⟨ea,ff,bl⟩
  refine yY ?_;refine gc8 (λbq=>?_) λbq=>?_
  ·
   refine go5 ?_;refine zJ 9 _ [] (zai 0 8 [(8,.c)]) zX nX zou nX (λr hr=>hr) (go2 ?_);refine wX I (xI [] c underlying76 uQ rL) λep cu=>(wX I (xA uQ cu) λeo ct=>(go2 ?_));refine wX I (xI [] d underlying76 uQ rL) λen cq=>(wX I (xA uQ cq) λem cp=>?_);refine w_c I (sC (ev2 I I) call130 (λw hs=>zLQ hs ct cp oM (by first|omega|assumption|exact zci (zye.1 (hE _ oM)) dC) (by first|omega|assumption|exact zci (zye.1 (hE _ oM)) dC)) λcd h1 M co=>?_);obtain rfl:cd=vB (fC (L.getD c []) (L.getD d []) 0 1):=co;refine gc2 (λZ=>?_) λZ=>?_
   ·
    refine dQ ?_;refine wY I I I ?_;refine⟨_,?_,(Rp.Is.cast (eL _) (by exact(show uC L 0 1=32/\sS L 0 1=[] from zTP oM hE hS ⟨d,c,zot,zot,eU Z⟩).2.symm))⟩;rw[(show uC L 0 1=32/\sS L 0 1=[] from zTP oM hE hS ⟨d,c,zot,zot,eU Z⟩).1]
   refine go8 ?_;refine gqL ((d+1),h1) ?_ ?_
   · exact⟨mle,zot,vZ (Q:=λu=>¬fC (gl L u) (gl L c) 0 1) bl (λe=>Z (eU e))⟩
   omega
  refine qE ?_;refine gqL ((c+1),md) ?_ ?_
  · exact⟨mle,zot,zYB ak bl oM⟩
  omega
 have hX:∀a b,b<L.length->a<b->¬fC (gl L a) (gl L b) 0 1:=λa b hb ha=>ak a b oM ha;refine nY ?_;refine xJ 3 1 ?_;have au:=RL.nil (ρ:=rpI) (h:=mc);refine gcL (ι:=Nat×List Int×Value×List Value×Mem) (λ(f,H,C,D,mf)=>(MLe mc mf/\(RL rpI mf D H/\(f<=L.length/\H.length=f)/\∀u,u<f->H.getD u (0:Int)=pZ L 0 1 u),[(0,vL),(8,C),(9,vI ↑f)],[.gs 3 1 C H.length D],mf,L.length-f)) (0,([]:List Int),(.slice none 0 0),[],mc) ?_ ?_
 · exact⟨mle,au,⟨zot,I⟩,λu h=>by omega⟩
 rintro⟨f,H,C,D,mf⟩ ⟨dz,J,⟨fe,bk⟩,ao⟩
 refine yY ?_;refine gc9 (λbp=>?_) λbp=>?_
 ·
  refine go9 ?_;refine jM (ι:=Int×Mem) (λ(p,mp)=>MLe mf mp/\((-1<=p/\p<9223372036854775808)/\p=pZ L 0 1 f)) (λ(p,mp)=>[(0,vL),(8,C),(9,vI ↑f),(10,vI p)]) (λ(p,mp)=>[.gs 3 1 C H.length D]) (λ(p,mp)=>mp) ?_ ?_
  ·
   refine go4 ?_;refine lX (xI [] f underlying76 uQ rL) λel cn=>(lX (xA uQ cn) λek cm=>(cL (ev1 I) call131 (λw hs=>pX hs cm oM (by first|omega|assumption|exact zci (zye.1 (hE _ oM)) dC)) λej h1 M cl=>(cL (ev1 I) call48 (λw hs=>uS hs cl dC) λcc h2 an ck=>?_)));obtain rfl:cc=vI (yQ (uV (L.getD f []) 0 1 (L.getD f []).length)):=ck;have dh:=xC (uV (L.getD f []) 0 1 (L.getD f []).length);refine gc3 (λae=>?_) λae=>?_
   ·
    refine go3 ?_;refine cL (ev2 I I) call132 (λw hs=>zOI (f:=f) hs rL.up (by first|omega|assumption|exact zci (zye.1 (hE _ oM)) dC) (by first|omega|assumption|exact zci (zye.1 (hE _ oM)) dC) oM (by first|omega|assumption|exact zci (zye.1 (hE _ oM)) dC)) λcb h3 bj cj=>?_;obtain rfl:cb=vI (sG L 0 1 f L.length):=cj;have di:=zDG L 0 1 f L.length;refine go2 ?_;refine zU ((sG L 0 1 f L.length),h3) ?_ e4z I I;refine⟨((M.trans an).trans bj),?_⟩;exact⟨⟨zot,zot⟩,yJ0 ae⟩
   refine go1 ?_;refine zU ((-1:Int),h2) ?_ e4z I I;refine⟨(M.trans an),?_⟩;exact⟨⟨zot,zot⟩,yJZ hF (hS f oM) ae⟩
  rintro⟨p,mp⟩ ⟨dy,bm⟩
  refine yY ?_;obtain⟨fd,bh⟩:=bm;refine go3 ?_;refine zG (zL (ρ:=rpI) (m:=1) (xs:=[p]) (ps':=[(0,_)]) underlying22 jV I I I wQ e2z (zD I (y5e (y5u _) (0:Int) 0 dC) (wM oM oM) zN) zoj nP) I I I ?_
  rintro ei ey ⟨ee,rfl,aw⟩
  refine zQ (A:=[]) (ρ:=rpI) aw ?_;intro h1 M ar;refine xQ (A:=[]) (zR (ρ:=rpI) (bytes:=8) underlying22 jV I I I I nP I I J.up ar bO bO) I I I ?_
  rintro ca ew ⟨bw,rfl,av⟩
  refine go9 ?_;refine gqL ((f+1),(H++[p]),ca,bw,h1) ?_ ?_
  · exact⟨mle,av,⟨zot,(zKG bk ao bh).1⟩,(zKG bk ao bh).2⟩
  omega
 have hO:∀u,u<L.length->H.getD u (0:Int)=pZ L 0 1 u:=λu hu=>ao u oM;have bi:H.length=L.length:=by omega
 refine qC ?_;refine gcL (ι:=Nat×Mem) (λ(v,am)=>(MLe mf am/\(v<=L.length/\∀a,a<v->¬iF L 0 1 a/\∀b,b<L.length->¬zC8 L 0 1 a b),[(0,vL),(8,C),(11,vI ↑v)],[.gs 3 1 C H.length D],am,L.length-v)) (0,mf) ?_ ?_
 · exact⟨mle,zot,λa h=>by omega⟩
 rintro⟨v,am⟩ ⟨dj,fa,ai⟩
 refine yY ?_;refine gc9 (λbo=>?_) λbo=>?_
 ·
  refine go9 ?_;refine lX (xI [] v underlying76 uQ rL) λeh ci=>(lX (xA uQ ci) λeg ch=>(cL (ev1 I) call131 (λw hs=>pX hs ch oM (by first|omega|assumption|exact zci (zye.1 (hE _ oM)) dC)) λef h1 M cg=>(cL (ev1 I) call48 (λw hs=>uS hs cg dC) λbz h2 an cf=>?_)));obtain rfl:bz=vI (yQ (uV (L.getD v []) 0 1 (L.getD v []).length)):=cf;have df:=xC (uV (L.getD v []) 0 1 (L.getD v []).length);refine gc3 (λU=>?_) λU=>?_
  ·
   refine go9 ?_;refine gqL ((v+1),h2) ?_ ?_
   · exact⟨mle,zot,vZ (Q:=λa=>¬iF L 0 1 a/\∀b,b<L.length->¬zC8 L 0 1 a b) ai (yKK (yLH hF (hS v oM) U))⟩
   omega
  refine go8 ?_;refine gcL (ι:=Nat×Mem) (λ(w,mw)=>(MLe h2 mw/\((w<=L.length/\(0<w->¬iF L 0 1 v))/\∀b,b<w->¬zC8 L 0 1 v b),[(0,vL),(8,C),(11,vI ↑v),(12,vI ↑w)],[.gs 3 1 C H.length D],mw,L.length-w)) (0,h2) ?_ ?_
  · exact⟨mle,⟨zot,λh=>by omega⟩,λb h=>by omega⟩
  rintro⟨w,mw⟩ ⟨dw,⟨ez,db⟩,ah⟩
  refine yY ?_;refine gc9 (λbn=>?_) λbn=>?_
  ·
   refine go5 ?_;refine zJ 33 _ [] (zai 0 29 [(29,.c),(30,.q),(31,.q),(32,.q)]) zX nX (wL zou) nX (λr hr=>hr) (go2 ?_);refine w_q I (λh' L' hh hR=>(yZ v (hR _ mh0) underlying22 sizeOf3 I I I bO nP).cv (show _=zI 1 C ((v*1+0)) from zbi (zI 1 C) zo5)) I (cY (F:=λv_=>rpI.Is mw v_ (H.getD v (0:Int))) I (wO ty3 (y5e (y5u _) (0:Int) v bO) I nP I J.up I) (tM mh0) I ?_);intro dv be;obtain⟨rfl,dm,de⟩:=kX be;refine go2 ?_;refine jZ ((H.getD v (0:Int))<(0:Int)) (λad=>?_) (λad=>?_)
   ·
    rw[xW ad];refine go23 ?_;refine w_c I (yJP I I I (go22 ?_));refine wY I I I ?_;refine⟨_,?_,(Rp.Is.cast (eL _) (by exact(show uC L 0 1=33/\sS L 0 1=[] from zFF oM hE hS hX (.inl ⟨v,zot,zTZ U (hO v oM) zo4⟩)).2.symm))⟩;rw[(show uC L 0 1=33/\sS L 0 1=[] from zFF oM hE hS hX (.inl ⟨v,zot,zTZ U (hO v oM) zo4⟩)).1]
   rw[yM ad];refine yV I I I (λh' L' hh hR=>xG I) I (yV I I I (λh' L' hh hR=>xG I) I (go1 ?_));refine yV I I I (λh' L' hh hR=>xG I) I ?_;refine jZ ((↑w:Int)≠(↑v:Int)) (λac=>?_) (λac=>?_)
   ·
    rw[xW ac];refine yV I I I (λh' L' hh hR=>xG I) I (yV I I I (λh' L' hh hR=>xG I) I (yV I I I (λh' L' hh hR=>(yZ w (hR _ mh0) underlying22 sizeOf3 I I I bO nP).cv (show _=zI 1 C ((w*1+0)) from zbi (zI 1 C) zo5)) I (lZ (F:=λv_=>rpI.Is mw v_ (H.getD w (0:Int))) I I I (wO ty3 (y5e (y5u _) (0:Int) w bO) I nP I J.up I) (tM mh0) I ?_)));intro du bd;obtain⟨rfl,dl,dd⟩:=kX bd;refine yV I I I (λh' L' hh hR=>xG I) I (yV I I I (λh' L' hh hR=>xG I) I (yV I I I (λh' L' hh hR=>(yZ v (hR _ mh0) underlying22 sizeOf3 I I I bO nP).cv (show _=zI 1 C ((v*1+0)) from zbi (zI 1 C) zo5)) I (lZ (F:=λv_=>rpI.Is mw v_ (H.getD v (0:Int))) I I I (wO ty3 (y5e (y5u _) (0:Int) v bO) I nP I J.up I) (tM mh0) I ?_)));intro dt bc;obtain⟨rfl,dk,dc⟩:=kX bc;refine go2 ?_;refine yV I I I (λh' L' hh hR=>xG I) I ?_;refine jZ ((H.getD w (0:Int))=(H.getD v (0:Int))) (λab=>?_) (λab=>?_)
    ·
     rw[xW ab];refine yV I I I (λh' L' hh hR=>xG I) I (yV I I I (λh' L' hh hR=>xG I) I (oX I (xI [] w underlying76 uQ rL) λdr bb=>(oX I (xA uQ bb) λdq ba=>(yV I I I (λh' L' hh hR=>xG I) I (yV I I I (λh' L' hh hR=>xG I) I (oX I (xI [] v underlying76 uQ rL) λdp az=>(oX I (xA uQ az) λdn ay=>?_)))))));refine w_c I (iT I I (sC (ev2 I I) call133 (λw hs=>zEN hs ba ay oM (by first|omega|assumption|exact zci (zye.1 (hE _ oM)) dC) (by first|omega|assumption|exact zci (zye.1 (hE _ oM)) dC)) λap h3 bj ax=>?_));obtain rfl:ap=vI (wiZ (L.getD w []) (L.getD v []) 0 1):=ax;have bx:=oH (L.getD w []) (L.getD v []) 0 1 (L.getD v []).length;refine gc5 (λO=>?_) λO=>?_
     ·
      have aj:zC8 L 0 1 v w:=⟨⟨⟨zot,by have:=zB0 (hO v oM) zo4;rw[<-hO v oM];omega⟩,by rw[<-hO w oM,<-hO v oM];assumption⟩,O⟩;refine dQ ?_;refine wY I I I ?_;refine⟨_,?_,(Rp.Is.cast (eL _) (by exact(show uC L 0 1=33/\sS L 0 1=[] from zFF oM hE hS hX (.inr ⟨v,w,zot,zot,aj⟩)).2.symm))⟩;rw[(show uC L 0 1=33/\sS L 0 1=[] from zFF oM hE hS hX (.inr ⟨v,w,zot,zot,aj⟩)).1]
     refine go8 ?_;refine gqL ((w+1),h3) ?_ ?_
     · exact⟨mle,⟨zot,λ_=>zB0 (hO v oM) zo4⟩,vZ (Q:=λb=>¬zC8 L 0 1 v b) ah (λe=>O e.2)⟩
     omega
    rw[yM ab];refine go8 ?_;refine w_c I (mJ I I I I (sH ?_));refine gqL ((w+1),mw) ?_ ?_
    · exact⟨mle,⟨zot,λ_=>zB0 (hO v oM) zo4⟩,vZ (Q:=λb=>¬zC8 L 0 1 v b) ah (λe=>absurd e.1.2 (by rw[<-hO w oM,<-hO v oM];assumption))⟩
    omega
   rw[yM ac];refine uR ?_;refine yV I I I (λh' L' hh hR=>xG I) I (go8 ?_);refine w_c I (mJ I I I I (sH ?_));refine gqL ((w+1),mw) ?_ ?_
   · exact⟨mle,⟨zot,λ_=>zB0 (hO v oM) zo4⟩,vZ (Q:=λb=>¬zC8 L 0 1 v b) ah (λe=>absurd e.1.1.1 oM)⟩
   omega
  refine qE ?_;refine gqL ((v+1),mw) ?_ ?_
  · exact⟨mle,zot,vZ (Q:=λa=>¬iF L 0 1 a/\∀b,b<L.length->¬zC8 L 0 1 a b) ai ⟨db oM,λb hb=>ah b oM⟩⟩
  omega
 have hB:∀a b,a<L.length->b<L.length->¬zC8 L 0 1 a b:=λa b ha hb=>(ai a oM).2 b hb;have hL:∀a,a<L.length->¬iF L 0 1 a:=λa ha=>(ai a oM).1;refine rS ?_;refine wW (A:=[]) (ρ:=rpI) J.up ?_;intro h1 M aq;refine wY I I I ?_;refine⟨_,?_,(Rp.Is.cast aq (by exact(show uC L 0 1=0/\sS L 0 1=H from yAV oM hE hS hX hL hB bi hO).2.symm))⟩;rw[(show uC L 0 1=0/\sS L 0 1=H from yAV oM hE hS hX hL hB bi hO).1]
theorem zG6{k m n j:Nat}{vs:Value}{s:Sq}(rs:(tSd k m n j).Is h0 vs s){f:Nat}{vix:Value}{ix:(List Int)}(rix:(rpS rpI).Is h0 vix ix)(H0:k<=1000)(H1:m<=100000)(H2:n<=100000)(H3:okS s)(H4:f<s.2.1.length)(H5:nmP s f)(H6:ix.length=s.1.length):
 y8i 90 #[vs,vI ↑f,vix] w0 h0 (λh r=>(tFc (4*m+11) (m+n+11)).Is h r (nfF s ix f)):=by
 have ij:=H3.1.1.1;have ii:=H3.1.1.2;have es:=zCL s f;have iq:=yLK H4 H5;have ci:=H3.2.1 f H4;have ev:=mZ (s:=s) (f:=↑f) H3.2.1;refine cb3 121 vs (vI ↑f) vix func90 hs ?_;refine go2 ?_;refine nB rs λb3 ar aj=>(nA (ρ:=(tFc 1 1)) (X:=((zT,(0:Rat)),([],([]:List Nat)))) jK (yA (yA (yR (yE dC)) (yE dC)) (yA wC gS)) λb6 aq db=>(go4 ?_));refine lX (xB jP pH aj) λhv en=>(go1 ?_);refine cL (ev2 I I) call111 (λw hs=>zON (f:=f) hs en oM oM oM (by first|omega|exact H3.big) (by first|omega|exact H3.big) (by first|omega|exact H3.big) (by first|omega|exact H3.big)) λan h1 ip em=>(go4 ?_);refine zJ 15 _ [(14,(8,53,[.bool false,.slice none 0 0,.slice none 0 0,.bool false,.slice none 0 0,.slice none 0 0,.bool false,.slice none 0 0,.slice none 0 0,.bool false,.slice none 0 0,.slice none 0 0,.slice none 0 0,.string ⟨#[]⟩]))] (zai 0 6 (zai 7 6 [(6,.c),(13,.q),(14,.a),(15,.t)])) zX (jD.cons I I (uM jK I I) jD.nil) (wL zou) (uN I I kF) (λr hr=>hr) (go1 ?_);refine wX I (xB fN (y6u (y6i pH)) aj) λhu el=>(go1 ?_);refine wX I (xI zA f underlying36 bE el) λhq ek=>(wX I (xF underlying53 sizeOf50 (y6i pH) ek) λhp ej=>(wX I (xA lW ej) λho eh=>(go1 ?_)));refine wX I (xB fN (y6u (y6i pH)) aj) λhm ef=>(go1 ?_);refine wX I (xI zA f underlying36 bE ef) λhl ee=>(wX I (xF underlying53 sizeOf9 (y6u (y6u pH)) ee) λhj ed=>(wX I (xA ty9 ed) λhb ec=>?_));obtain⟨rfl,co⟩:=kU ec;refine w_c I (sC (ev1 I) call66 (λw hs=>zJ0 hs eh oM oM) λhn h2 io eg=>(wX I (xV (ρ:=(rpP (tPl (4*m+10) (m+n+10)) (rpP rpV qF))) (xN (ps':=[(0,_),(2,_)]) underlying53 jK I I (bT underlying53) e4z I (yA (yA (yR (yE oM)) (yE oM)) (yA fD gS)) (zD I (y6i (y5u _)) eg (zD I (y6u (y6u (y5u _))) (bK co) zN)))) λgz eb=>?_));refine w_a I I (λb8=>?_);have da:(rpP (tPl 1 1) (rpP rpV qF)).R h2 [.bool false,.slice none 0 0,.slice none 0 0,.bool false,.slice none 0 0,.slice none 0 0,.bool false,.slice none 0 0,.slice none 0 0,.bool false,.slice none 0 0,.slice none 0 0,.slice none 0 0,.string ⟨#[]⟩] ((zT,(0:Rat)),((Value.slice none 0 0),([]:List Nat))):=(yA (yA (yR (yE dC)) (yE dC)) (yA fD gS));have bw:=(Le.p (Le.p (Le.t (Le.q (l:=4*m+10) oM)) (Le.q (l:=m+n+10) oM)) (Le.refl _)).R da;refine yG (A:=[]) I (uB sizeOf53 pH bw eb) λcp ce=>(sH ?_);refine xJ 22 1 ?_;have bz:=RL.nil (ρ:=rpS rpI) (h:=h2);refine xJ 22 1 ?_;have bx:=RL.nil (ρ:=rpS rpI) (h:=h2);refine gcL (ι:=Nat×List (List Int)×List (List Int)×List Value×Value×List Value×Value×List Value×Mem) (λ(i,D,G,O,C,M,H,J,ma)=>(MLe h2 ma/\((rpP (tPl (4*m+11) (m+n+11)) (rpP rpV qF)).R ma O (scZ (s.2.1.getD f zA).1,(H,(s.2.1.getD f zA).2.2))/\RL (rpS rpI) ma M D/\RL (rpS rpI) ma J G/\H.oneCell'=true/\i<=(s.2.1.getD f zA).2.1.length/\D=zAX s ix f i/\G=ouL s ix f i),[(1,vI ↑f),(2,vix),(3,vP b3 0),(6,vP b6 0),(7,an),(8,vP b8 0),(9,C),(10,vI ↑i)],[.gs 22 1 H G.length J,.gs 22 1 C D.length M,.var b8 53 O,.var b6 53 aq,.var b3 39 ar],ma,(s.2.1.getD f zA).2.1.length-i)) (0,[],[],cp,(.slice none 0 0),[],(.slice none 0 0),[],h2) ?_ ?_
 · exact⟨mle,((Le.p (Le.p (Le.t (Le.q (l:=4*m+11) oM)) (Le.q (l:=m+n+11) oM)) (Le.refl _)).R ce),bz,bx,I,zot,I,I⟩
 rintro⟨i,D,G,O,C,M,H,J,ma⟩ ⟨fs,aa,Z,ac,bo,ik,hD,hG⟩
 refine yY ?_;have iv:D.length<=i:=by rw[hD];exact zSK s ix f i
 have ir:G.length<=i:=by rw[hG];exact cJ _ _ i
 refine gc9 (λcn=>?_) λcn=>?_
 ·
  refine dQ ?_;refine xJ 3 1 ?_;have bf:=RL.nil (ρ:=rpI) (h:=ma);refine gcL (ι:=Nat×List Int×Value×List Value×Mem) (λ(q,EL,U,ae,mb)=>(MLe ma mb/\(RL rpI mb ae EL/\q<=((s.2.1.getD f zA).2.1.getD i []).length/\EL=nwL s ix f i q),[(1,vI ↑f),(2,vix),(3,vP b3 0),(6,vP b6 0),(7,an),(8,vP b8 0),(9,C),(10,vI ↑i),(11,U),(12,vI ↑q)],[.gs 3 1 U EL.length ae,.gs 22 1 H G.length J,.gs 22 1 C D.length M,.var b8 53 O,.var b6 53 aq,.var b3 39 ar],mb,((s.2.1.getD f zA).2.1.getD i []).length-q)) (0,[],(.slice none 0 0),[],ma) ?_ ?_
  · exact⟨mle,bf,zot,I⟩
  rintro⟨q,EL,U,ae,mb⟩ ⟨fr,ai,ig,hE⟩
  refine yY ?_;have iu:EL.length=q:=by rw[hE];exact yW _ _
  have ch:=ci.2 i oM;refine go5 ?_;refine lX (xB fN (y6u (y6i pH)) aj) λgy ea=>(go1 ?_);refine lX (xI zA f underlying36 bE ea) λgx dz=>(lX (xF underlying53 sizeOf51 (y6u (y6i pH)) dz) λgw dy=>(lX (xA cC dy) λgu dx=>(go1 ?_)));refine lX (xI [] i underlying51 fL dx) λgt dw=>(lX (xA fL dw) λgr ia=>(gc4 (λcm=>?_) λcm=>?_))
  ·
   refine go8 ?_;refine lX (xB fN (y6u (y6i pH)) aj) λgq dv=>(go1 ?_);refine lX (xI zA f underlying36 bE dv) λgo du=>(lX (xF underlying53 sizeOf51 (y6u (y6i pH)) du) λgn dt=>(lX (xA cC dt) λgm dr=>(go1 ?_)));refine lX (xI [] i underlying51 fL dr) λgk dq=>(lX (xA fL dq) λgj dp=>(go1 ?_));refine lX (xI (0:Int) q underlying22 ty3 dp) λgi dn=>(lX (xA ty3 dn) λgh dm=>?_);obtain⟨rfl,fu,fo⟩:=kX dm;refine zI5 (F:=λv_=>AtP rpI mb v_ (ix.getD ((((s.2.1.getD f zA).2.1.getD i []).getD q 0).toNat) (0:Int))) (tT (0:Int) ((((s.2.1.getD f zA).2.1.getD i []).getD q 0).toNat) underlying22 ty3 I I rix.up (by(have:=H5 i oM q oM;omega)) (by(have:=H5 i oM q oM;omega)) nP) j5 I ?_;intro gg dl;refine lX (xA ty3 dl) λgf dk=>?_;obtain⟨rfl,ft,fm⟩:=kX dk;refine zG (zL (ρ:=rpI) (m:=1) (xs:=[(ix.getD ((((s.2.1.getD f zA).2.1.getD i []).getD q 0).toNat) (0:Int))]) (ps':=[(0,_)]) underlying22 jV I I I wQ e2z (zD I (y5e (y5u _) (0:Int) 0 dC) (wM oM oM) zN) zoj nP) I I I ?_
   rintro ge ie ⟨fw,rfl,cd⟩
   refine zQ (A:=[]) (ρ:=rpI) cd ?_;intro h3 cl bb;refine xQ (A:=[]) (uK (zR (ρ:=rpI) (bytes:=8) underlying22 jV I I I I nP I I ai.up bb bO bO)) I I I ?_
   rintro cz id ⟨fp,ct,rfl,cc⟩
   refine go9 ?_;refine gqL ((q+1),(EL++[(ix.getD ((((s.2.1.getD f zA).2.1.getD i []).getD q 0).toNat) (0:Int))]),cz,ct,h3) ?_ ?_
   · exact⟨mle,cc,zot,by rw[hE];rfl⟩
   omega
  have eq:q=((s.2.1.getD f zA).2.1.getD i []).length:=by omega
  have ch:=ci.2 i oM;refine go8 ?_;refine zQ (A:=[]) (ρ:=rpI) ai.up ?_;intro h3 cl ba;refine cL (ev1 I) call138 (λw hs=>zRQ hs ba oM) λbv h4 ck ak=>?_;replace ak:=Rp.Is.cast (y:=(nfL s ix f i)) ak (by rw[hE,eq];rfl);refine go8 ?_;refine lX (xI [] i underlying76 uQ em) λgc dj=>(lX (xA uQ dj) λgb di=>(cL (ev1 I) call131 (λw hs=>pX hs di oM (by first|omega|(have:=ev.2 i;rw[<-es.2 i] at this;omega))) λga h5 im dh=>(cL (ev1 I) call48 (λw hs=>uS hs dh dC) λcy h6 il df=>?_)));obtain rfl:cy=vI (yQ (uV ((kY s f).getD i []) 0 1 ((kY s f).getD i []).length)):=df;have eo:=xC (uV ((kY s f).getD i []) 0 1 ((kY s f).getD i []).length);refine gc3 (λab=>?_) λab=>?_
  ·
   refine go3 ?_;refine lX (sN (xB cC (y6u (y6i pH)) aa)) λfz de=>?_;subst de;refine go1 ?_;refine zG (zL (ρ:=(rpS rpI)) (m:=1) (xs:=[(nfL s ix f i)]) (ps':=[(0,_)]) underlying51 jF I I I wC e2z (zD I (y5e (y5u _) [] 0 dC) ak.up zN) zoj nP) I I I ?_
   rintro fy ic ⟨fv,rfl,cb⟩
   refine zQ (A:=[]) (ρ:=(rpS rpI)) cb ?_;intro h7 bq az;refine xQ (A:=[]) (uK (zR (ρ:=(rpS rpI)) (bytes:=24) underlying51 jF I I I I nP I I ac.up az bO bO)) I I I ?_
   rintro cw ib ⟨au,cq,rfl,ca⟩
   refine go1 ?_;refine zP (A:=[_,_]) (uB sizeOf51 (y6u (y6i pH)) aa (eH au)) λbt bl=>(qE ?_);refine gqL ((i+1),D,(G++[(nfL s ix f i)]),bt,C,M,cw,cq,h7) ?_ ?_
   · exact⟨mle,bl,Z.up,ca,au,zot,by rw[hD];exact(zau ab).symm,by rw[hG];exact zBI (p:=zE3 s f) ab⟩
   omega
  refine go5 ?_;refine gv (jO mh1 underlying51 I) I (go5 ?_);refine gcL (ι:=Nat×Mem) (λ(kp,mk)=>(MLe h6 mk/\(kp<=D.length/\aO (yB1 (nfL s ix f i) D) D.length=aO (yB1 (nfL s ix f i) D) kp),[(1,vI ↑f),(2,vix),(3,vP b3 0),(6,vP b6 0),(7,an),(8,vP b8 0),(9,C),(10,vI ↑i),(11,bv),(13,vI ↑kp)],[.gs 22 1 H G.length J,.gs 22 1 C D.length M,.var b8 53 O,.var b6 53 aq,.var b3 39 ar],mk,kp)) (D.length,h6) ?_ ?_
  · exact⟨mle,zot,I⟩
  rintro⟨kp,mk⟩ ⟨fq,ih,cj⟩
  refine yY ?_;refine go5 ?_;refine qH (ι:=Mem) 10 (λm_=>MLe mk m_) (λ_=>[(97,vB (((0:Int)<(↑kp:Int))/\((cW (nfL s ix f i) (D.getD (kp-1) []))<(0:Int)))),(1,vI ↑f),(2,vix),(3,vP b3 0),(6,vP b6 0),(7,an),(8,vP b8 0),(9,C),(10,vI ↑i),(11,bv),(13,vI ↑kp)]) (λ_=>[.gs 22 1 H G.length J,.gs 22 1 C D.length M,.var b8 53 O,.var b6 53 aq,.var b3 39 ar]) (λm_=>m_) ?_ ?_
  ·
   refine zY ((0:Int)<(↑kp:Int)) (λhg=>?_) (λhg=>?_)
   ·
    refine gT hg I (go9 ?_);refine gv ((yZ (kp-1) mh1 underlying51 sizeOf22 I I oM oM nP).cv (show _=zI 1 C (((kp-1)*1+0)) from zbi (zI 1 C) zo5)) I (go1 ?_);refine zI5 (F:=λv_=>(rpS rpI).Is mk v_ (D.getD (kp-1) [])) (wO fL (y5e (y5u _) [] (kp-1) oM) I nP I Z.up I) (tM mh1) I ?_;intro fx dd;refine go1 ?_;refine cL (ev2 I I) call139 (λw hs=>zER hs ak.up dd) λcu h7 bq dc=>?_;obtain rfl:cu=vI (cW (nfL s ix f i) (D.getD (kp-1) [])):=dc;have eu:=zA1 (nfL s ix f i) (D.getD (kp-1) []);refine go4 ?_;refine zU h7 bq ⟨?_,I,I,I,I,I,I,I,I,I,I,y5i⟩ I I;exact y4e (xD hg)
   refine gF hg I (uR ?_);refine zU mk (MLe.refl _) ⟨?_,I,I,I,I,I,I,I,I,I,I,y5i⟩ I I;exact y4e (xE hg)
  intro ao bu;refine rA ?_;refine gc2 (λam=>?_) λam=>?_
  ·
   refine go9 ?_;refine gqL ((kp-1),ao) ?_ ?_ (he:=⟨I,I,I,I,I,I,I,I,I,zbi (λz=>some (vI z)) oM,y5i⟩)
   · exact⟨mle,zot,by rw[cj];exact zSS oM am.2⟩
   omega
  refine go8 ?_;refine zG (zL (ρ:=(rpS rpI)) (m:=1) (xs:=[[]]) (ps':=[(0,_)]) underlying51 jF I I I wC e2z (zD I (y5e (y5u _) [] 0 dC) (eL _) zN) zoj nP) I I I ?_
  rintro fh fl ⟨fb,rfl,bi⟩
  refine zQ (A:=[]) (ρ:=(rpS rpI)) bi ?_;intro h7 bq ay;refine xQ (A:=[_]) (uK (zR (ρ:=(rpS rpI)) (bytes:=24) underlying51 jF I I I I nP I I Z.up ay bO bO)) I I I ?_
  rintro ah fk ⟨ep,fa,rfl,bh⟩
  refine go4 ?_;refine lI (A:=[_]) (by rw[lAz];exact ywu _) (λob iw bm bn=>?_);refine qJ (A:=[_]) 8 [] (zai 0 7 [(7,.c)]) zX nX zou nX (go3 ?_);refine wZ I (λ_ _=>jI (kp+1) underlying51 sizeOf22 I I ⟨_,_,bm,bn⟩ oM zo1) I (go2 ?_);refine wZ I (λ_ _=>jI kp underlying51 sizeOf22 I I ⟨_,_,bm,bn⟩ oM zo1) I ?_;refine w_c I (fK (A:=[_]) (λX=>mK (ρ:=(rpS rpI)) kp bm bn underlying51 sizeOf22 I I zo1 bh) I (xO zoy) ?_)
  rintro fg fj ⟨ey,rfl,be⟩
  refine go6 ?_;refine gv ((yZ kp mh1 underlying51 sizeOf22 I I oM (by rw[fP zo1];simp only[lAz,lC,lN];omega) nP).cv (show _=zI 1 ah ((kp*1+0)) from zbi (zI 1 ah) zo5)) I (fW (A:=[_]) (F:=λc_=>RL (rpS rpI) h7 c_ ((sK (D++[[]]) kp).set kp (nfL s ix f i))) (rI sizeOf22 (y5e (y5u _) [] kp (by rw[fP zo1];simp only[lAz,lC,lN];omega)) I nP I I be ak.up I) ?_);intro bs bd;refine go8 ?_;refine gqL ((i+1),((sK (D++[[]]) kp).set kp (nfL s ix f i)),G,O,ah,bs,H,J,h7) ?_ ?_
  · exact⟨mle,aa.up,bd,ac.up,bo,zot,by rw[mG oM];have er:aO (yB1 (nfL s ix f i) D) D.length=kp:=by{rw[cj];exact zII (λe=>am ⟨zot,e.2⟩)};rw[<-er,hD];exact(zae ab).symm,by rw[hG];exact zBJ (p:=zE3 s f) ab⟩
  omega
 have ei:i=(s.2.1.getD f zA).2.1.length:=by omega
 refine go8 ?_;refine lX (sN (xB cC (y6u (y6i pH)) aa)) λff cg=>?_;subst cg;refine go1 ?_;refine zQ (A:=[_]) (ρ:=(rpS rpI)) Z.up ?_;intro h3 cl ax;refine xQ (A:=[]) (uK (zR (ρ:=(rpS rpI)) (bytes:=24) underlying51 jF I I I I nP I I ac.up ax bO bO)) I I I ?_
 rintro fe fi ⟨bp,ez,rfl,bg⟩
 refine go1 ?_;refine zP (A:=[_]) (uB sizeOf51 (y6u (y6i pH)) aa (eH bp)) λbr ad=>(go4 ?_);refine zQ (A:=[]) (ρ:=(rpS rpI)) bg ?_;intro h4 ck aw;replace ad:=ad.mono ck;have bk:(tFc (4*m+11) (m+n+11)).R h4 br ((scZ (s.2.1.getD f zA).1,(H,(s.2.1.getD f zA).2.2)).1,((G++D),((scZ (s.2.1.getD f zA).1,(H,(s.2.1.getD f zA).2.2)).2).2)):=zFZ ad aw;refine lX (xB bE pH bk) λfd cf=>?_;have av:=(Le.p (Le.p (Le.t (Le.q (l:=4*m+11) oM)) (Le.q (l:=m+n+11) oM)) (Le.refl _)).R db;refine zP (A:=[_]) (uB sizeOf53 pH av cf) λew bj=>(go3 ?_);refine wG (jG (t:=6) bE mh1 I bj) ?_;intro fc ap bc;refine yN (λE S=>zS I ap E S) ?_;exact(Rp.Is.cast bc (by rw[hD,hG,ei];rfl))
theorem zWJ{k m n j:Nat}{vs:Value}{s:Sq}(rs:(tSd k m n j).Is h0 vs s)(H0:s.2.1.length<=100000):
 y8i 141 #[vs] w0 h0 (λh r=>(rpS tE5).Is h r (szZ s)):=by
 refine cb1 52 vs func141 hs ?_;refine go2 ?_;refine nB rs λb1 av O=>(cD ?_);refine xJ 200 5 ?_;have aj:=RL.nil (ρ:=rpP rpI (rpP rpI (rpP rpI (rpP rpI rpI)))) (h:=h0);refine gcL (ι:=Nat×List (Int×Int×Int×Int×Int)×Value×List Value×Mem) (λ(f,D,H,J,mf)=>(MLe h0 mf/\(RL tE5 mf J D/\f<=s.2.1.length/\D=yJD s f),[(1,vP b1 0),(3,H),(4,vI ↑f)],[.gs 200 5 H D.length J,.var b1 39 av],mf,s.2.1.length-f)) (0,[],(.slice none 0 0),[],h0) ?_ ?_
 · exact⟨mle,aj,zot,I⟩
 rintro⟨f,D,H,J,mf⟩ ⟨bk,M,cj,hD⟩
 refine yY ?_;have ck:D.length<=f:=by rw[hD];exact cJ _ _ f
 refine go5 ?_;refine lX (xB fN (y6u (y6i pH)) O) λv7 r7=>(gc4 (λbj=>?_) λbj=>?_)
 ·
  refine go7 ?_;refine lX (xB fN (y6u (y6i pH)) O) λcb bh=>(go1 ?_);refine lX (xI zA f underlying36 bE bh) λca bg=>(lX (xF underlying53 sizeOf51 (y6u (y6i pH)) bg) λbz bf=>(lX (xA cC bf) λbx be=>(cL (ev1 I) call178 (λw hs=>dF hs be) λay h1 aq bd=>?_)));obtain rfl:ay=vB (vfP (((s.2.1.getD f zA).2).1)):=bd;refine go1 ?_;refine qH (ι:=Mem) 6 (λm_=>MLe h1 m_) (λ_=>[(25,vB ((¬(vfP (((s.2.1.getD f zA).2).1)))\/(¬(nmP s (↑f:Int).toNat)))),(1,vP b1 0),(3,H),(4,vI ↑f)]) (λ_=>[.gs 200 5 H D.length J,.var b1 39 av]) (λm_=>m_) ?_ ?_
  ·
   refine zY (¬(vfP (((s.2.1.getD f zA).2).1))) (λC=>?_) (λC=>?_)
   ·
    refine gT C I (go6 ?_);refine zU h1 (MLe.refl _) ⟨?_,I,I,I,y5i⟩ I I;exact y4e (uH C)
   refine gF C I (go1 ?_);refine lX (xB jP pH O) λbw bc=>(go3 ?_);refine cL (ev2 I I) call158 (λw hs=>zJ3 hs bc oM oM oM (by first|omega|exact zci (zdi C).1.2 dC|exactλl hl=>zci ((zdi C).2 l hl).1.2 dC) (by first|omega|exact zci (zdi C).1.2 dC|exactλl hl=>zci ((zdi C).2 l hl).1.2 dC) (by first|omega|exact zci (zdi C).1.2 dC|exactλl hl=>zci ((zdi C).2 l hl).1.2 dC)) λax h2 ab bb=>?_;obtain rfl:ax=vB (nmP s (↑f:Int).toNat):=bb;refine go4 ?_;refine zU h2 ab ⟨?_,I,I,I,y5i⟩ I I;exact y4e (uJ C)
  intro Z ap;refine rA ?_;refine gc2 (λU=>?_) λU=>?_
  ·
   have aa:szP s f:=U;refine go3 ?_;refine cL (vs:=[vI (1),_,vI (-1),vI (-1)]) e4z call179 (λw hs=>zAN hs dC dC oM oM dC dC dC dC) λbv h2 ab ba=>(zG (zL (ρ:=tE5) (m:=1) (xs:=[dg (1:Int) (↑f:Int) (-1:Int) (-1:Int)]) (ps':=[(0,_)]) underlying133 kD I I I (yA wQ (yA wQ (yA wQ (yA wQ wQ)))) e2z (zD I (y5e (y5u _) e50 0 dC) ba zN) zoi nP) I I I ?_)
   rintro bu ci ⟨bn,rfl,ao⟩
   refine zQ (A:=[]) (ρ:=tE5) ao ?_;intro h3 bi ai;refine xQ (A:=[]) (zR (ρ:=tE5) (bytes:=40) underlying133 kD I I I I nP I I M.up ai bO bO) I I I ?_
   rintro aw ch ⟨au,rfl,an⟩
   refine go9 ?_;refine gqL ((f+1),(D++[dg (1:Int) (↑f:Int) (-1:Int) (-1:Int)]),aw,au,h3) ?_ ?_
   · exact⟨mle,an,zot,by rw[hD];exact zBI aa⟩
   omega
  have aa:¬szP s f:=U;refine go8 ?_;refine gqL ((f+1),D,H,J,Z) ?_ ?_
  · exact⟨mle,M.up,zot,by rw[hD];exact zBJ aa⟩
  omega
 have ef:f=s.2.1.length:=by omega
 refine go9 ?_;refine lX (xB uQ (y6i pH) O) λbt ce=>(go2 ?_);refine gU 6 40 (vB (((512:Int)<(↑(s.1).length:Int))\/((256:Int)<(↑(s.2.1).length:Int)))) ?_ ?_
 ·
  refine zY ((512:Int)<(↑(s.1).length:Int)) (λC=>?_) (λC=>?_)
  ·
   refine gT C I (go6 ?_);refine gqU ?_;exact y4e (uH C)
  refine gF C I (go3 ?_);refine lX (xB fN (y6u (y6i pH)) O) λbs cd=>(go6 ?_);refine gqU ?_;exact y4e (uJ C)
 refine gU 6 46 (vB ((((512:Int)<(↑(s.1).length:Int))\/((256:Int)<(↑(s.2.1).length:Int)))\/((1024:Int)<(↑(s.2.2).length:Int)))) ?_ ?_
 ·
  refine zY (((512:Int)<(↑(s.1).length:Int))\/((256:Int)<(↑(s.2.1).length:Int))) (λC=>?_) (λC=>?_)
  ·
   refine gT C I (go6 ?_);refine gqU ?_;exact y4e (uH C)
  refine gF C I (go3 ?_);refine lX (xB yIM (y6u (y6u pH)) O) λbr cc=>(go6 ?_);refine gqU ?_;exact y4e (uJ C)
 refine gc2 (λar=>?_) λar=>?_
 ·
  have ac:zIK s:=by unfold zIK;omega
  refine go2 ?_;refine cL (vs:=[vI (2),vI (-1),vI (-1),vI (-1)]) e4z call179 (λw hs=>zAN hs dC dC dC dC dC dC dC dC) λbq h1 aq az=>(zG (zL (ρ:=tE5) (m:=1) (xs:=[dg (2:Int) (-1:Int) (-1:Int) (-1:Int)]) (ps':=[(0,_)]) underlying133 kD I I I (yA wQ (yA wQ (yA wQ (yA wQ wQ)))) e2z (zD I (y5e (y5u _) e50 0 dC) az zN) zoi nP) I I I ?_)
  rintro bp cg ⟨bm,rfl,am⟩
  refine zQ (A:=[]) (ρ:=tE5) am ?_;intro h2 ab ah;refine xQ (A:=[]) (zR (ρ:=tE5) (bytes:=40) underlying133 kD I I I I nP I I M.up ah bO bO) I I I ?_
  rintro bo cf ⟨bl,rfl,ak⟩
  refine uR ?_;refine wW (A:=[]) (ρ:=tE5) ak ?_;intro h3 bi ae;refine zC I I ?_;exact(Rp.Is.cast ae (by rw[hD,ef];exact(zau ac).symm))
 have ac:¬zIK s:=by unfold zIK;omega
 refine go9 ?_;refine wW (A:=[]) (ρ:=tE5) M.up ?_;intro h1 aq ad;refine zC I I ?_;exact(Rp.Is.cast ad (by rw[hD,ef];exact(zae ac).symm))
theorem zWI{k m n j:Nat}{vs:Value}{s:Sq}(rs:(tSd k m n j).Is h0 vs s)(H0:s.1.length<=100000)(H1:k<=100000000):
 y8i 142 #[vs] w0 h0 (λh r=>(rpS tE5).Is h r (zNC s s.1.length)):=by
 refine cb1 35 vs func142 hs ?_;refine go2 ?_;refine nB rs λb1 ak Z=>(cD ?_);refine xJ 200 5 ?_;have ab:=RL.nil (ρ:=rpP rpI (rpP rpI (rpP rpI (rpP rpI rpI)))) (h:=h0);refine gcL (ι:=Nat×List (Int×Int×Int×Int×Int)×Value×List Value×Mem) (λ(f,D,C,H,mf)=>(MLe h0 mf/\(RL tE5 mf H D/\f<=s.1.length/\D=zNC s f),[(1,vP b1 0),(3,C),(4,vI ↑f)],[.gs 200 5 C D.length H,.var b1 39 ak],mf,s.1.length-f)) (0,[],(.slice none 0 0),[],h0) ?_ ?_
 · exact⟨mle,ab,zot,I⟩
 rintro⟨f,D,C,H,mf⟩ ⟨az,J,bp,hD⟩
 refine yY ?_;have bq:D.length<=f:=by rw[hD];exact cJ _ _ f
 refine go5 ?_;refine lX (xB uQ (y6i pH) Z) λv8 r8=>(gc4 (λai=>?_) λai=>?_)
 ·
  refine uR ?_;refine gcL (ι:=Nat×Mem) (λ(q,mb)=>(MLe mf mb/\(q<=f/\∀u,u<q->¬gp s.1 f=gp s.1 u),[(1,vP b1 0),(3,C),(4,vI ↑f),(5,vI ↑q)],[.gs 200 5 C D.length H,.var b1 39 ak],mb,f-q)) (0,mf) ?_ ?_
  · exact⟨mle,zot,λu h=>by omega⟩
  rintro⟨q,mb⟩ ⟨ba,bm,ae⟩
  refine yY ?_;refine gc8 (λah=>?_) λah=>?_
  ·
   refine go5 ?_;refine zJ 11 _ [] (zai 0 10 [(10,.c)]) zX nX zou nX (λr hr=>hr) (go1 ?_);refine wX I (xB uQ (y6i pH) Z) λbj ax=>(go1 ?_);refine wX I (xI zT f underlying35 zK ax) λbi aw=>(wX I (xA zK aw) λbh av=>(go1 ?_));refine wX I (xB uQ (y6i pH) Z) λbg au=>(go1 ?_);refine wX I (xI zT q underlying35 zK au) λbf ar=>(wX I (xA zK ar) λbe aq=>?_);refine w_c I (sC (ev2 I I) call35 (λw hs=>zJY hs av aq oM) λan h1 ay ap=>?_);obtain rfl:an=vB ((s.1.getD f zT)=(s.1.getD q zT)):=ap;refine gc2 (λM=>?_) λM=>?_
   ·
    have aa:twP s f:=⟨q,zot,M⟩;refine go4 ?_;refine cL (vs:=[vI (37),vI (-1),vI (-1),_]) e4z call179 (λw hs=>zAN hs dC dC dC dC dC dC oM oM) λbd h2 bo ao=>(zG (zL (ρ:=tE5) (m:=1) (xs:=[dg (37:Int) (-1:Int) (-1:Int) (↑f:Int)]) (ps':=[(0,_)]) underlying133 kD I I I (yA wQ (yA wQ (yA wQ (yA wQ wQ)))) e2z (zD I (y5e (y5u _) e50 0 dC) ao zN) zoi nP) I I I ?_)
    rintro bc bl ⟨bb,rfl,ad⟩
    refine zQ (A:=[]) (ρ:=tE5) ad ?_;intro h3 bn U;refine xQ (A:=[]) (zR (ρ:=tE5) (bytes:=40) underlying133 kD I I I I nP I I J.up U bO bO) I I I ?_
    rintro am bk ⟨aj,rfl,ac⟩
    refine cD ?_;refine gqL ((f+1),(D++[dg (37:Int) (-1:Int) (-1:Int) (↑f:Int)]),am,aj,h3) ?_ ?_
    · exact⟨mle,ac,zot,by rw[hD];exact zBI aa⟩
    omega
   refine go8 ?_;refine gqL ((q+1),h1) ?_ ?_
   · exact⟨mle,zot,vZ (Q:=λu=>¬gp s.1 f=gp s.1 u) ae M⟩
   omega
  have aa:¬twP s f:=λ⟨u,h1,h2⟩=>ae u oM h2;refine qE ?_;refine gqL ((f+1),D,C,H,mb) ?_ ?_
  · exact⟨mle,J.up,zot,by rw[hD];exact zBJ aa⟩
  omega
 have ef:f=s.1.length:=by omega
 refine qC ?_;refine wW (A:=[]) (ρ:=tE5) J.up ?_;intro h1 ay O;refine zC I I ?_;exact(Rp.Is.cast O (by rw[hD,ef]))
theorem zRR{k m n j:Nat}{vs:Value}{s:Sq}(rs:(tSd k m n j).Is h0 vs s)(H0:k<=1000)(H1:m<=100000)(H2:n<=100000)(H3:s.1.length<=100000)(H4:∀f,f<s.2.1.length->(s.2.1.getD f zA).2.1.length<=10000/\∀l,l<(s.2.1.getD f zA).2.1.length->((s.2.1.getD f zA).2.1.getD l []).length<=10000)(H5:s.2.1.length<=1000)(H6:s.1.length<=100000)(H7:∀f,f<s.2.1.length->(s.2.1.getD f zA).2.1.length<=16/\∀l,l<(s.2.1.getD f zA).2.1.length->((s.2.1.getD f zA).2.1.getD l []).length<=64):
 y8i 143 #[vs] w0 h0 (λh r=>(rpS tE5).Is h r (plZ s)):=by
 refine cb1 74 vs func143 hs ?_;refine go2 ?_;refine nB rs λb1 aq an=>(dQ ?_);refine xJ 200 5 ?_;have az:=RL.nil (ρ:=rpP rpI (rpP rpI (rpP rpI (rpP rpI rpI)))) (h:=h0);refine xJ 200 5 ?_;have ay:=RL.nil (ρ:=rpP rpI (rpP rpI (rpP rpI (rpP rpI rpI)))) (h:=h0);refine gcL (ι:=Nat×List (Int×Int×Int×Int×Int)×List (Int×Int×Int×Int×Int)×Value×List Value×Value×List Value×Mem) (λ(f,D,G,ab,ac,J,aa,ma)=>(MLe h0 ma/\(RL tE5 ma ac D/\RL tE5 ma aa G/\f<=s.2.1.length/\D=zU5 s f/\G=zRL s f),[(1,vP b1 0),(3,ab),(4,J),(5,vI ↑f)],[.gs 200 5 J G.length aa,.gs 200 5 ab D.length ac,.var b1 39 aq],ma,s.2.1.length-f)) (0,[],[],(.slice none 0 0),[],(.slice none 0 0),[],h0) ?_ ?_
 · exact⟨mle,az,ay,zot,I,I⟩
 rintro⟨f,D,G,ab,ac,J,aa,ma⟩ ⟨cv,ae,ai,em,hD,hG⟩
 refine yY ?_;have eo:D.length<=f:=by rw[hD];exact cJ _ _ f
 have en:G.length<=1024*f:=by rw[hG];exact yAC H7 f oM
 have bi:=mZ (s:=s) (f:=↑f) H7;refine go5 ?_;refine lX (xB fN (y6u (y6i pH)) an) λdz eb=>(gc4 (λbm=>?_) λbm=>?_)
 ·
  refine go4 ?_;refine jM (ι:=List (Int×Int×Int×Int×Int)×Value×List Value×Mem) (λ(ZR,C,H,mz)=>MLe ma mz/\(RL tE5 mz H ZR/\ZR=zU5 s (f+1))) (λ(ZR,C,H,mz)=>[(1,vP b1 0),(3,C),(4,J),(5,vI ↑f)]) (λ(ZR,C,H,mz)=>[.gs 200 5 J G.length aa,.gs 200 5 C ZR.length H,.var b1 39 aq]) (λ(ZR,C,H,mz)=>mz) ?_ ?_
  ·
   refine go3 ?_;refine lX (xB fN (y6u (y6i pH)) an) λdy cm=>(go1 ?_);refine lX (xI zA f underlying36 bE cm) λdx cl=>(lX (xF underlying53 sizeOf50 (y6i pH) cl) λdw ck=>(lX (xF underlying50 sizeOf31 (y6i pH) ck) λdv cj=>(lX (xA zK cj) λdu ci=>(cL (ev1 I) call80 (λw hs=>zDK hs ci oM) λbs h1 aj ch=>?_))));obtain rfl:bs=vB ((((s.2.1.getD f zA).1).1)=zT):=ch;refine gc2 (λam=>?_) λam=>?_
   ·
    refine go3 ?_;refine cL (vs:=[vI (9),_,vI (-1),vI (-1)]) e4z call179 (λw hs=>zAN hs dC dC oM oM dC dC dC dC) λdt h2 bh cg=>(zG (zL (ρ:=tE5) (m:=1) (xs:=[dg (9:Int) (↑f:Int) (-1:Int) (-1:Int)]) (ps':=[(0,_)]) underlying133 kD I I I (yA wQ (yA wQ (yA wQ (yA wQ wQ)))) e2z (zD I (y5e (y5u _) e50 0 dC) cg zN) zoi nP) I I I ?_)
    rintro dr eg ⟨db,rfl,be⟩
    refine zQ (A:=[]) (ρ:=tE5) be ?_;intro h3 bg aw;refine xQ (A:=[_]) (zR (ρ:=tE5) (bytes:=40) underlying133 kD I I I I nP I I ae.up aw bO bO) I I I ?_
    rintro br ee ⟨bo,rfl,bd⟩
    refine go2 ?_;refine zU ((D++[dg (9:Int) (↑f:Int) (-1:Int) (-1:Int)]),br,bo,h3) ?_ e4z I I;refine⟨((aj.trans bh).trans bg),?_⟩;refine⟨bd,?_⟩;exact(by rw[hD];exact zBI am)
   refine go1 ?_;refine zU (D,ab,ac,h1) ?_ e4z I I;refine⟨aj,?_⟩;refine⟨ae.up,?_⟩;exact(by rw[hD];exact zBJ am)
  rintro⟨ZR,C,H,mz⟩ ⟨cq,hZ⟩
  refine yY ?_;obtain⟨ax,hZ⟩:=hZ;refine go2 ?_;refine lX (xB jP pH an) λdq cf=>(go1 ?_);refine cL (ev2 I I) call118 (λw hs=>zEQ hs cf oM oM (by first|omega|exact H4) (by first|omega|exact H4)) λba h1 aj bf=>(go9 ?_);refine gcL (ι:=Nat×List (Int×Int×Int×Int×Int)×Value×List Value×Mem) (λ(l,G1,O,Z,mb)=>(MLe h1 mb/\(RL tE5 mb Z G1/\l<=(xR s ↑f).length/\G1=zRL s f++ofL s f l),[(1,vP b1 0),(3,C),(4,O),(5,vI ↑f),(6,ba),(7,vI ↑l)],[.gs 200 5 O G1.length Z,.gs 200 5 C ZR.length H,.var b1 39 aq],mb,(xR s ↑f).length-l)) (0,G,J,aa,h1) ?_ ?_
  · exact⟨mle,ai.up,zot,by rw[hG];exact(zqi _).symm⟩
  rintro⟨l,G1,O,Z,mb⟩ ⟨cu,ah,eh,ap⟩
  refine yY ?_;have cp:=zGY (s:=s) H7 f l;have cz:G1.length<=1024*f+1024:=by rw[ap,lAz,<-hG];have:=bi.1;omega
  refine gc9 (λbl=>?_) λbl=>?_
  ·
   refine uR ?_;refine gcL (ι:=Nat×List (Int×Int×Int×Int×Int)×Value×List Value×Mem) (λ(i,G2,M,U,mc)=>(MLe mb mc/\(RL tE5 mc U G2/\i<=((xR s ↑f).getD l []).length/\G2=zRL s f++ofL s f l++ofX s f l i),[(1,vP b1 0),(3,C),(4,M),(5,vI ↑f),(6,ba),(7,vI ↑l),(8,vI ↑i)],[.gs 200 5 M G2.length U,.gs 200 5 C ZR.length H,.var b1 39 aq],mc,((xR s ↑f).getD l []).length-i)) (0,G1,O,Z,mb) ?_ ?_
   · exact⟨mle,ah,zot,by rw[ap];exact(zqi _).symm⟩
   rintro⟨i,G2,M,U,mc⟩ ⟨ct,ad,ej,ao⟩
   refine yY ?_;have cw:=bi.2 l;have co:(ofX s f l i).length<=i:=cJ _ _ i;have cy:G2.length<=1024*f+2048:=by rw[ao,lAz,<-ap];omega
   refine go6 ?_;refine lX (xI [] l underlying76 uQ bf) λdp ce=>(lX (xA uQ ce) λdn ea=>(gc4 (λbk=>?_) λbk=>?_))
   ·
    refine go5 ?_;refine zJ 15 _ [] (zai 0 13 [(13,.c),(14,.q)]) zX nX (wL zou) nX (λr hr=>hr) (go1 ?_);refine wX I (xB fN (y6u (y6i pH)) an) λdm cd=>(go1 ?_);refine wX I (xI zA f underlying36 bE cd) λdl cc=>(wX I (xF underlying53 sizeOf50 (y6i pH) cc) λdk cb=>(wX I (xA lW cb) λdj ca=>(go2 ?_)));refine wX I (xI [] l underlying76 uQ bf) λdi bz=>(wX I (xA uQ bz) λdh bx=>(go1 ?_));refine wX I (xI zT i underlying35 zK bx) λdf bw=>(wX I (xA zK bw) λde bv=>?_);refine w_c I (sC (ev2 I I) call23 (λw hs=>zWH hs ca bv oM oM oM) λbq h2 bh bu=>?_);obtain rfl:bq=vI (yQ (zF ((s.2.1.getD f zA).1).1 (((xR s (↑f:Int)).getD l []).getD i zT)-((s.2.1.getD f zA).1).2)):=bu;have cn:=xC (zF ((s.2.1.getD f zA).1).1 (((xR s (↑f:Int)).getD l []).getD i zT)-((s.2.1.getD f zA).1).2);refine gc3 (λak=>?_) λak=>?_
    ·
     refine go5 ?_;refine cL (vs:=[vI (31),_,_,_]) e4z call179 (λw hs=>zAN hs dC dC oM oM oM oM oM oM) λdd h3 bg bt=>(zG (zL (ρ:=tE5) (m:=1) (xs:=[dg (31:Int) (↑f:Int) (↑l:Int) (↑i:Int)]) (ps':=[(0,_)]) underlying133 kD I I I (yA wQ (yA wQ (yA wQ (yA wQ wQ)))) e2z (zD I (y5e (y5u _) e50 0 dC) bt zN) zoi nP) I I I ?_)
     rintro dc ed ⟨da,rfl,bc⟩
     refine zQ (A:=[]) (ρ:=tE5) bc ?_;intro h4 ek av;refine xQ (A:=[]) (zR (ρ:=tE5) (bytes:=40) underlying133 kD I I I I nP I I ad.up av bO bO) I I I ?_
     rintro bp ec ⟨bn,rfl,bb⟩
     refine go9 ?_;refine gqL ((i+1),(G2++[dg (31:Int) (↑f:Int) (↑l:Int) (↑i:Int)]),bp,bn,h4) ?_ ?_
     · exact⟨mle,bb,zot,by rw[ao,zki,show ofX s f l i++_=_ from zBI (p:=ofP s f l) ak];rfl⟩
     omega
    refine go8 ?_;refine gqL ((i+1),G2,M,U,h2) ?_ ?_
    · exact⟨mle,ad.up,zot,by rw[ao,show ofX s f l i=_ from zBJ (p:=ofP s f l) ak];rfl⟩
    omega
   have ei:i=((xR s ↑f).getD l []).length:=by omega
   refine qE ?_;refine gqL ((l+1),G2,M,U,mc) ?_ ?_
   · exact⟨mle,ad.up,zot,by rw[ao,ei,zki];rfl⟩
   omega
  have el:l=(xR s ↑f).length:=by omega
  refine qE ?_;refine gqL ((f+1),ZR,G1,C,H,O,Z,mb) ?_ ?_
  · exact⟨mle,ax.up,ah,zot,hZ,by rw[ap,el];rfl⟩
  omega
 have ef:f=s.2.1.length:=by omega
 refine go9 ?_;refine gv (jO mh1 underlying133 I) I (gc3 (λbj=>?_) λbj=>?_)
 ·
  refine go8 ?_;refine wW (A:=[_]) (ρ:=tE5) ae.up ?_;intro h1 aj au;refine zC I I ?_;exact(Rp.Is.cast au (by rw[hD,ef];exact(zau (by rw[<-ef,<-hD];omega)).symm))
 refine go9 ?_;refine wW (A:=[]) (ρ:=tE5) ai.up ?_;intro h1 aj ar;refine zC I I ?_;exact(Rp.Is.cast ar (by rw[hG,ef];exact(zae (by rw[<-ef,<-hD];omega)).symm))
theorem zJ2{k:Nat}{vL:Value}{L:(List (List Tq))}(rL:(tLL k).Is h0 vL L)(H0:k<=100000)(H1:∀l,l<L.length->(L.getD l []).length<=1000)(H2:L.length<=100000):
 y8i 86 #[vL] w0 h0 (λ_ r=>r=vI (ouZ L)):=by
 refine cb1 21 vL func86 hs ?_;refine nY ?_;refine gcL (ι:=Nat×Mem) (λ(m,U)=>(MLe h0 U/\(m<=L.length),[(0,vL),(3,vI (zAK L m)),(4,vI ↑m)],[],U,L.length-m)) (0,h0) ?_ ?_
 · exact⟨mle,oM⟩
 rintro⟨m,U⟩ ⟨ab,ah⟩
 refine yY ?_;have hor:=zBS L m;have ai:=H1 m;refine gc9 (λaa=>?_) λaa=>?_
 ·
  refine go8 ?_;refine lX (xI [] m underlying76 uQ rL) λae O=>(lX (xA uQ O) λad M=>(cL (ev1 I) call131 (λw hs=>pX hs M oM oM) λac h1 ak J=>(cL (ev1 I) call48 (λw hs=>uS hs J dC) λD h2 aj H=>?_)));obtain rfl:D=vI (yQ (uV (L.getD m []) 0 1 (L.getD m []).length)):=H;have Z:=xC (uV (L.getD m []) 0 1 (L.getD m []).length);refine gc3 (λC=>?_) λC=>?_
  ·
   refine qC ?_;refine gqL ((m+1),h2) ?_ ?_ (he:=⟨I,zbi (λz=>some (vI z)) (ou_t C),I,y5i⟩)
   · exact⟨mle,oM⟩
   omega
  refine go8 ?_;refine gqL ((m+1),h2) ?_ ?_ (he:=⟨I,zbi (λz=>some (vI z)) (ou_f C),I,y5i⟩)
  · exact⟨mle,oM⟩
  omega
 refine qC ?_;refine zC I I ?_;have em:m=L.length:=by omega
 subst em
 rfl
theorem zWL{k m n j:Nat}{vs:Value}{s:Sq}(rs:(tSd k m n j).Is h0 vs s)(H0:k<=1000)(H1:m<=100000)(H2:n<=100000)(H3:okS s):
 y8i 144 #[vs] w0 h0 (λh r=>(rpS tE5).Is h r (neZ s)):=by
 have cl:=H3.1.1.1;have ck:=H3.1.1.2;refine cb1 45 vs func144 hs ?_;refine go2 ?_;refine nB rs λb1 bh aw=>(dQ ?_);refine xJ 200 5 ?_;have ap:=RL.nil (ρ:=rpP rpI (rpP rpI (rpP rpI (rpP rpI rpI)))) (h:=h0);refine xJ 200 5 ?_;have ao:=RL.nil (ρ:=rpP rpI (rpP rpI (rpP rpI (rpP rpI rpI)))) (h:=h0);refine gcL (ι:=Nat×List (Int×Int×Int×Int×Int)×List (Int×Int×Int×Int×Int)×Value×List Value×Value×List Value×Mem) (λ(f,D,G,O,U,J,M,ma)=>(MLe h0 ma/\(RL tE5 ma U D/\RL tE5 ma M G/\f<=s.2.1.length/\D=yDI s f/\G=yKT s f),[(1,vP b1 0),(3,O),(4,J),(5,vI ↑f)],[.gs 200 5 J G.length M,.gs 200 5 O D.length U,.var b1 39 bh],ma,s.2.1.length-f)) (0,[],[],(.slice none 0 0),[],(.slice none 0 0),[],h0) ?_ ?_
 · exact⟨mle,ap,ao,zot,I,I⟩
 rintro⟨f,D,G,O,U,J,M,ma⟩ ⟨bt,aa,Z,cm,hD,hG⟩
 refine yY ?_;have co:D.length<=f:=by rw[hD];exact cJ _ _ f
 have cn:G.length<=f:=by rw[hG];exact cJ _ _ f
 have bb:=zCL s f;have bc:=mZ (s:=s) (f:=↑f) H3.2.1;have cj:=zOX (kY s f) 0 1;refine go5 ?_;refine lX (xB fN (y6u (y6i pH)) aw) λcd ce=>(gc4 (λbe=>?_) λbe=>?_)
 ·
  refine go6 ?_;refine lX (xB jP pH aw) λcc bq=>(go1 ?_);refine cL (ev2 I I) call111 (λw hs=>zON (f:=f) hs bq oM oM oM (by first|omega|exact H3.big) (by first|omega|exact H3.big) (by first|omega|exact H3.big) (by first|omega|exact H3.big)) λbl h1 ba ax=>(go3 ?_);refine jM (ι:=List (Int×Int×Int×Int×Int)×Value×List Value×Mem) (λ(ZR,H,C,mz)=>MLe h1 mz/\(RL tE5 mz C ZR/\ZR=yDI s (f+1))) (λ(ZR,H,C,mz)=>[(1,vP b1 0),(3,H),(4,J),(5,vI ↑f),(6,bl)]) (λ(ZR,H,C,mz)=>[.gs 200 5 J G.length M,.gs 200 5 H ZR.length C,.var b1 39 bh]) (λ(ZR,H,C,mz)=>mz) ?_ ?_
  ·
   refine go3 ?_;refine cL (ev1 I) call85 (λw hs=>zJW hs ax oM (by first|omega|exact H3.2.2 f oM)) λcb h2 an bp=>?_;obtain⟨ae,rfl,am⟩:=bp
   change (rpS rpI).Is h2 ae (sS (kY s f) 0 1) at am
   refine rS ?_;refine cnd (λad=>?_) λad=>?_
   ·
    refine go4 ?_;refine cL (vs:=[_,_,vI (-1),vI (-1)]) e4z call179 (λw hs=>zAN hs oM oM oM oM dC dC dC dC) λca h3 az bo=>(zG (zL (ρ:=tE5) (m:=1) (xs:=[dg (uC (kY s f) 0 1) (↑f:Int) (-1:Int) (-1:Int)]) (ps':=[(0,_)]) underlying133 kD I I I (yA wQ (yA wQ (yA wQ (yA wQ wQ)))) e2z (zD I (y5e (y5u _) e50 0 dC) bo zN) zoi nP) I I I ?_)
    rintro bz ci ⟨bv,rfl,av⟩
    refine zQ (A:=[]) (ρ:=tE5) av ?_;intro h4 ay ak;refine xQ (A:=[_]) (zR (ρ:=tE5) (bytes:=40) underlying133 kD I I I I nP I I aa.up ak bO bO) I I I ?_
    rintro bk ch ⟨bg,rfl,au⟩
    refine go2 ?_;refine zU ((D++[dg (uC (kY s f) 0 1) (↑f:Int) (-1:Int) (-1:Int)]),bk,bg,h4) ?_ e5z I I;refine⟨((an.trans az).trans ay),?_⟩;refine⟨au,?_⟩;exact(by rw[hD];exact zBI ad)
   refine go1 ?_;refine zU (D,O,U,h2) ?_ e5z I I;refine⟨an,?_⟩;refine⟨aa.up,?_⟩;exact(by rw[hD];exact zBJ ad)
  rintro⟨ZR,H,C,mz⟩ ⟨bs,hZ⟩
  refine yY ?_;obtain⟨ab,hZ⟩:=hZ;refine go3 ?_;refine cL (ev1 I) call86 (λw hs=>zJ2 hs ax.up oM (by first|omega|exactλl hl=>(by rw[bb.2 l];exact zci (bc.2 l) dC)) (by first|omega|exactλl hl=>(by rw[bb.2 l];exact zci (bc.2 l) dC))) λbj h2 an bn=>?_;obtain rfl:bj=vI (ouZ (kY s f)):=bn;have br:=zBS (kY s f) (kY s f).length;refine gc3 (λac=>?_) λac=>?_
  ·
   refine go3 ?_;refine cL (vs:=[vI (33),_,vI (-1),vI (-1)]) e4z call179 (λw hs=>zAN hs dC dC oM oM dC dC dC dC) λbx h3 az bm=>(zG (zL (ρ:=tE5) (m:=1) (xs:=[dg (33:Int) (↑f:Int) (-1:Int) (-1:Int)]) (ps':=[(0,_)]) underlying133 kD I I I (yA wQ (yA wQ (yA wQ (yA wQ wQ)))) e2z (zD I (y5e (y5u _) e50 0 dC) bm zN) zoi nP) I I I ?_)
   rintro bw cg ⟨bu,rfl,ar⟩
   refine zQ (A:=[]) (ρ:=tE5) ar ?_;intro h4 ay aj;refine xQ (A:=[]) (zR (ρ:=tE5) (bytes:=40) underlying133 kD I I I I nP I I Z.up aj bO bO) I I I ?_
   rintro bi cf ⟨bf,rfl,aq⟩
   refine go9 ?_;refine gqL ((f+1),ZR,(G++[dg (33:Int) (↑f:Int) (-1:Int) (-1:Int)]),H,C,bi,bf,h4) ?_ ?_
   · exact⟨mle,ab.up,aq,zot,hZ,by rw[hG];exact zBI ac⟩
   omega
  refine go8 ?_;refine gqL ((f+1),ZR,G,H,C,J,M,h2) ?_ ?_
  · exact⟨mle,ab.up,Z.up,zot,hZ,by rw[hG];exact zBJ ac⟩
  omega
 have ef:f=s.2.1.length:=by omega
 refine go9 ?_;refine gv (jO mh1 underlying133 I) I (gc3 (λbd=>?_) λbd=>?_)
 ·
  refine go8 ?_;refine wW (A:=[_]) (ρ:=tE5) aa.up ?_;intro h1 ba ai;refine zC I I ?_;exact(Rp.Is.cast ai (by rw[hD,ef];exact(zau (by rw[<-ef,<-hD];omega)).symm))
 refine go9 ?_;refine wW (A:=[]) (ρ:=tE5) Z.up ?_;intro h1 ba ah;refine zC I I ?_;exact(Rp.Is.cast ah (by rw[hG,ef];exact(zae (by rw[<-ef,<-hD];omega)).symm))
theorem zWN{k m n j:Nat}{vs:Value}{s:Sq}(rs:(tSd k m n j).Is h0 vs s)(H0:k<=1000)(H1:m<=100000)(H2:n<=100000)(H3:okS s):
 y8i 97 #[vs] w0 h0 (λh r=>(rpS tE5).Is h r (yC9 s)):=by
 have av:=H3.1.1.1;have au:=H3.1.1.2;refine cb1 34 vs func97 hs ?_;refine go2 ?_;refine nB rs λb1 bc C=>(go6 ?_);refine lX (xB jP pH C) λv7 r7=>(cL (ev1 I) call141 (λw hs=>zWJ hs r7 (by first|omega|exact H3|exact H3.big|exact H3.mem|exact H3.2.1)) λv8 h1 bb r8=>(zAY (λM=>?_) λM=>?_))
 ·
  refine go8 ?_;refine zC I I ?_;exact(Rp.Is.cast r8 (by exact(zau oM).symm))
 refine go5 ?_;refine lX (xB jP pH C) λar ah=>(cL (ev1 I) call142 (λw hs=>zWI hs ah (by first|omega|exact H3|exact H3.big|exact H3.mem|exact H3.2.1) oM) λaq h2 ba ae=>(zAY (λJ=>?_) λJ=>?_))
 ·
  refine go8 ?_;refine zC I I ?_;exact(Rp.Is.cast ae (by exact((zae oM).trans (zau oM)).symm))
 refine go5 ?_;refine lX (xB jP pH C) λap ad=>(cL (ev1 I) call143 (λw hs=>zRR hs ad oM oM oM (by first|omega|exact H3|exact H3.big|exact H3.mem|exact H3.2.1) (by first|omega|exact H3|exact H3.big|exact H3.mem|exact H3.2.1) (by first|omega|exact H3|exact H3.big|exact H3.mem|exact H3.2.1) (by first|omega|exact H3|exact H3.big|exact H3.mem|exact H3.2.1) (by first|omega|exact H3|exact H3.big|exact H3.mem|exact H3.2.1)) λao h3 az ac=>(zAY (λH=>?_) λH=>?_))
 ·
  refine go8 ?_;refine zC I I ?_;exact(Rp.Is.cast ac (by exact((zae oM).trans ((zae oM).trans (zau oM))).symm))
 refine go5 ?_;refine lX (xB jP pH C) λan ab=>(cL (ev1 I) call144 (λw hs=>zWL hs ab oM oM oM (by first|omega|exact H3|exact H3.big|exact H3.mem|exact H3.2.1)) λam h4 ay aa=>(zAY (λD=>?_) λD=>?_))
 ·
  refine go8 ?_;refine zC I I ?_;exact(Rp.Is.cast aa (by exact((zae oM).trans ((zae oM).trans ((zae oM).trans (zau oM)))).symm))
 refine go4 ?_;refine lX (xB jP pH C) λak Z=>(cL (ev1 I) call136 (λw hs=>zJ4 hs Z (by first|omega|exact H3|exact H3.big|exact H3.mem|exact H3.2.1) (by first|omega|exact H3|exact H3.big|exact H3.mem|exact H3.2.1)) λaj h5 ax U=>(cL (ev1 I) call145 (λw hs=>zOF hs U) λai h6 aw O=>(go4 ?_)));refine zC I I ?_;exact(Rp.Is.cast O (by exact((zae oM).trans ((zae oM).trans ((zae oM).trans (zae oM)))).symm))
theorem zJZ{k m n j:Nat}{vs:Value}{s:Sq}(rs:(tSd k m n j).Is h0 vs s)(H0:k<=1000)(H1:m<=100000)(H2:n<=100000)(H3:okS s):
 y8i 62 #[vs] w0 h0 (λ_ r=>r=vB (jQ s)):=by
 refine cb1 7 vs func62 hs ?_;refine go2 ?_;refine nB rs λJ H C=>(go5 ?_);refine lX (xB jP pH C) λv3 r3=>(cL (ev1 I) call97 (λw hs=>zWN hs r3 oM oM oM (by first|omega|exact H3)) λv4 h1 D r4=>(go6 ?_));refine zC I I ?_;exact kS (by unfold jQ;omega)
theorem zAM{k m n j:Nat}{vs:Value}{s:Sq}(rs:(tSd k m n j).Is h0 vs s)(H0:k<=1000)(H1:m<=100000)(H2:n<=100000)(H3:okS s):
 Calls prog 47 #[vs] w0 (tP w0 h0 (λh r L_=>∃vF cs,(rpP (tLs (k+1)) (rpP rpV (rpS (rpP rpI (rpP rpI (rpQ (j+1))))))).Is h r (nrP s,(vF,nrE s))/\L_=[.gs 53 14 vF (nrF s).length cs]/\vF.oneCell'=true/\RL (tFc (4*m+12) (m+n+12)) h cs (nrF s))):=by
 have il:=H3.1.1.1;have ik:=H3.1.1.2;have ij:=H3.1.2;refine cb1 100 vs func47 hs ?_;refine go2 ?_;refine nB rs λb1 cu an=>(nA (ρ:=(rpP (tLs 1) (rpP rpV (rpS (rpP rpI (rpP rpI (rpQ 1))))))) (X:=([],((Value.slice none 0 0),[]))) qQ (yA wC (yA fD wC)) λb2 ct di=>(go5 ?_));refine lX (xB jP pH an) λhv fh=>(cL (ev1 I) call62 (λw hs=>zJZ hs fh oM oM oM (by first|omega|exact H3)) λeg h1 iv fg=>?_);obtain rfl:eg=vB (jQ s):=fg;refine gc3 (λai=>?_) λai=>?_
 ·
  refine go2 ?_;refine lX (xV (ρ:=(rpP (tLs 1) (rpP rpV (rpS (rpP rpI (rpP rpI (rpQ 1))))))) (xN (ps':=[]) underlying39 qQ I I (sM underlying39) trivial I (yA wC (yA fD wC)) zN)) λhu ff=>(zP (A:=[]) (uB sizeOf39 pH di ff) λgf dh=>(go4 ?_));rw[show nrF s=[] from zae ai];refine aT 53 14 ?_;have db:=RL.nil (ρ:=rpP (tPl (4*m+12) (m+n+12)) (rpP tII qF)) (h:=h1);refine wG (jG (t:=2) jP mh1 I dh) ?_;intro gi cf cz;refine kV (.cons_cons _ (zse _)) (λE S=>zS I cf E S) ?_;exact⟨_,_,(Rp.Is.cast (Rp.Is.le cz (Le.p (Le.s (Le.t (Le.q (l:=k+1) oM))) (Le.p (Le.refl _) (Le.s (Le.p (Le.refl _) (Le.p (Le.refl _) (Le.q (l:=j+1) oM))))))) (by rw[show nrP s=[] from zae ai,show nrE s=[] from zae ai])),I,I,db⟩
 refine go4 ?_;refine lX (xB jP pH an) λhq fe=>?_;have bd:jQ s:=zdi ai;have aw:=yJF bd;have ih:(fU s).length<=s.1.length:=zRJ s s.1.length;refine cL (ev1 I) call89 (λw hs=>zWK hs fe oM (by first|omega|exact H3|exact aw) (by first|omega|exact H3|exact aw)) λee h2 iu bb=>?_;replace bb:=Rp.Is.cast (y:=(fU s)) bb zo5;refine go6 ?_;refine lX (xB uQ (y6i pH) an) λhp ib=>(go1 ?_);refine zG (zJ8 (ρ:=rpI) (X:=(0:Int)) (by':=8) s.1.length underlying22 jV I I I I wQ I I zo5 zo5 bO bO) I I I ?_
 rintro ed ig ⟨dr,rfl,df⟩
 refine go6 ?_;refine lX (xB yIM (y6u (y6u pH)) an) λho fd=>(zDY 237 5 ?_);have da:=RL.nil (ρ:=rpP rpI (rpP rpI (rpQ j))) (h:=h2);refine xQ (A:=[]) (uK (zR (ρ:=(rpP rpI (rpP rpI (rpQ j)))) (bytes:=72) underlying37 zT6 I I I I nP I I da fd bO bO)) I I I ?_
 rintro hn ie ⟨fy,gh,rfl,de⟩
 refine zQ (A:=[]) (ρ:=(rpP rpI (rpP rpI (rpQ j)))) de ?_;intro h3 ir cy;refine lX (xV (ρ:=(rpP rpV (rpP rpV (rpS (rpP rpI (rpP rpI (rpQ (j+1)))))))) (xN (ps':=[(2,_)]) underlying39 qQ I I (sM underlying39) e2z I (yA fD (yA fD wC)) (zD I (y6u (y6u (y5u _))) (cy.le (Le.s (Le.p (Le.refl _) (Le.p (Le.refl _) (Le.q (l:=j+1) oM))))) zN))) λhm fc=>(nA (ρ:=(rpP rpV (rpP rpV (rpS (rpP rpI (rpP rpI (rpQ 1))))))) (X:=((Value.slice none 0 0),((Value.slice none 0 0),[]))) qQ (yA fD (yA fD wC)) λb5 ja ej=>?_);have cw:=(Le.p (Le.refl _) (Le.p (Le.refl _) (Le.s (Le.p (Le.refl _) (Le.p (Le.refl _) (Le.q (l:=j+1) oM)))))).R ej;refine zP (A:=[]) (uB sizeOf39 pH cw fc) λdm bx=>(go9 ?_);refine xJ 31 9 ?_;have bt:=RL.nil (ρ:=rpT (rpQ (k+1))) (h:=h3);refine gcL (ι:=Nat×List Int×List Tq×List Value×Value×List Value×Value×List Value×Mem) (λ(i,IX,PS,U,D,au,O,ar,ma)=>(MLe h3 ma/\((rpP rpV (rpP rpV (rpS (rpP rpI (rpP rpI (rpQ (j+1))))))).R ma U (O,(Value.slice none 0 0,s.2.2))/\RL rpI ma au IX/\RL (tPt (k+1)) ma ar PS/\O.oneCell'=true/\i<=(fU s).length/\IX=zI3 s i/\PS=yAO s i),[(1,vP b1 0),(2,vP b2 0),(3,ee),(4,D),(5,vP b5 0),(6,vI ↑i)],[.gs 31 9 O PS.length ar,.var b5 39 U,.gs 3 1 D IX.length au,.var b2 39 ct,.var b1 39 cu],ma,(fU s).length-i)) (0,(List.replicate s.1.length (0:Int)),[],dm,ed,dr,(.slice none 0 0),[],h3) ?_ ?_
 · exact⟨mle,bx,df.up,bt,I,zot,I,I⟩
 rintro⟨i,IX,PS,U,D,au,O,ar,ma⟩ ⟨gb,J,ay,ax,fl,im,hI,hP⟩
 refine yY ?_;have ix:IX.length=s.1.length:=by rw[hI];exact zDU s i
 have iw:PS.length=i:=by rw[hP];exact yW _ _
 refine gc9 (λdk=>?_) λdk=>?_
 ·
  refine go9 ?_;refine lX (xI (0:Int) i underlying22 ty3 bb) λhl fb=>(lX (xA ty3 fb) λhj fa=>?_);obtain⟨rfl,ge,fx⟩:=kX fa;refine go1 ?_;refine gv ((yZ (((fU s).getD i 0).toNat) mh2 underlying22 sizeOf3 I I (by(have:=oT (s:=s) (i:=s.1.length) (k:=i) (show i<(aL s s.1.length).length by show i<(fU s).length;omega);show _;have h2:0<=(fU s).getD i 0/\(fU s).getD i 0<↑s.1.length:=this;omega)) (by(have:=oT (s:=s) (i:=s.1.length) (k:=i) (show i<(aL s s.1.length).length by show i<(fU s).length;omega);show _;have h2:0<=(fU s).getD i 0/\(fU s).getD i 0<↑s.1.length:=this;omega)) nP).cv (show _=zI 1 D ((((fU s).getD i 0).toNat*1+0)) from zbi (zI 1 D) zo5)) I (fW (A:=[_,_]) (F:=λc_=>RL rpI ma c_ (IX.set (((fU s).getD i 0).toNat) (↑i:Int))) (rI sizeOf3 (y5e (y5u _) (0:Int) (((fU s).getD i 0).toNat) (by(have:=oT (s:=s) (i:=s.1.length) (k:=i) (show i<(aL s s.1.length).length by show i<(fU s).length;omega);show _;have h2:0<=(fU s).getD i 0/\(fU s).getD i 0<↑s.1.length:=this;omega))) I nP I I ay (wM oM oM) I) ?_);intro cq bs;refine go2 ?_;refine qJ (A:=[]) 13 [] (zai 0 10 [(10,.c),(11,.c),(12,.q),(13,.t)]) zX nX (wL zou) nX (go1 ?_);refine wX I (sN (xB uQ (y6i pH) J)) λhg ez=>?_;subst ez;refine go1 ?_;refine wX I (xB uQ (y6i pH) an) λhb ey=>(go2 ?_);refine wX I (xI (0:Int) i underlying22 ty3 bb) λgz ew=>(wX I (xA ty3 ew) λgy ev=>?_);obtain⟨rfl,gc,fw⟩:=kX ev;refine cY (F:=λv_=>AtP (tPt k) ma v_ (s.1.getD (((fU s).getD i 0).toNat) zT)) I (tT zT (((fU s).getD i 0).toNat) underlying35 zK I I ey (by(have:=oT (s:=s) (i:=s.1.length) (k:=i) (show i<(aL s s.1.length).length by show i<(fU s).length;omega);show _;have h2:0<=(fU s).getD i 0/\(fU s).getD i 0<↑s.1.length:=this;omega)) (by(have:=oT (s:=s) (i:=s.1.length) (k:=i) (show i<(aL s s.1.length).length by show i<(fU s).length;omega);show _;have h2:0<=(fU s).getD i 0/\(fU s).getD i 0<↑s.1.length:=this;omega)) nP) j5 I ?_;intro gx eu;refine wX I (xA zK eu) λgw es=>?_;refine w_c I (jR (λX=>zL (ρ:=(tPt (k+1))) (m:=1) (xs:=[(s.1.getD (((fU s).getD i 0).toNat) zT)]) (ps':=[(0,_)]) underlying35 yK I I I (yR (yE oM)) e2z (zD I (y5e (y5u _) zT 0 dC) (es.le (Le.t (Le.q (l:=k+1) oM))) zN) zok nP) I ?_)
  rintro gu id ⟨gg,rfl,dd⟩
  refine w_c I (xY (A:=[]) (ρ:=(tPt (k+1))) dd dK ?_);intro h4 cj bl;refine fK (A:=[]) (λX=>uK (zR (ρ:=(tPt (k+1))) (bytes:=168) underlying35 yK I I I I nP I I ax.up bl bO bO)) I (xO zoy) ?_
  rintro ec ic ⟨be,dq,rfl,dc⟩
  refine go1 ?_;replace J:=J.mono cj;refine yG (A:=[_]) I (uB sizeOf35 (y6i pH) J (eH be)) λcp bw=>(go8 ?_);refine gqL ((i+1),(IX.set (((fU s).getD i 0).toNat) (↑i:Int)),(PS++[(s.1.getD (((fU s).getD i 0).toNat) zT)]),cp,D,cq,ec,dq,h4) ?_ ?_
  · exact⟨mle,bw,bs.up,dc,be,zot,by rw[hI];rfl,by rw[hP];rfl⟩
  omega
 have ei:i=(fU s).length:=by omega
 refine go8 ?_;refine zQ (A:=[]) (ρ:=(tPt (k+1))) ax.up ?_;intro h4 cj bk;replace J:=J.mono cj;have bv:(rpP (tLs (k+1)) (rpP rpV (rpS (rpP rpI (rpP rpI (rpQ (j+1))))))).R h4 U (PS,(O,(Value.slice none 0 0,s.2.2)).2):=yD9 J bk;refine go4 ?_;refine xJ 53 14 ?_;have br:=RL.nil (ρ:=rpP (tPl (4*m+12) (m+n+12)) (rpP tII qF)) (h:=h4);refine zH1 (A:=[_,_]) (ρ:=rpI) ay.up ?_;intro h5 iq bj;refine gcL (ι:=Nat×List Fc×Value×List Value×Value×List Value×Mem) (λ(f,Z,M,ae,C,ad,mb)=>(MLe h5 mb/\((rpS rpI).Is mb M (ixZ s)/\(rpP (tLs (k+1)) (rpP rpV (rpS (rpP rpI (rpP rpI (rpQ (j+1))))))).R mb ae (PS,(C,s.2.2))/\RL (tFc (4*m+12) (m+n+12)) mb ad Z/\C.oneCell'=true/\f<=s.2.1.length/\Z=zAO s f),[(1,vP b1 0),(2,vP b2 0),(4,M),(5,vP b5 0),(7,vI ↑f)],[.gs 53 14 C Z.length ad,.var b5 39 ae,.var b2 39 ct,.var b1 39 cu],mb,s.2.1.length-f)) (0,[],D,U,(.slice none 0 0),[],h5) ?_ ?_
 · exact⟨mle,(Rp.Is.cast bj (by rw[hI,ei];rfl)),bv.up,br.up,I,zot,I⟩
 rintro⟨f,Z,M,ae,C,ad,mb⟩ ⟨ga,ak,H,aa,cg,fo,hF⟩
 refine yY ?_;have iy:Z.length=f:=by rw[hF];exact zRY s f
 have dl:=yAK H3 f fo;refine go5 ?_;refine lX (xB fN (y6u (y6i pH)) an) λgt ia=>(gc4 (λdj=>?_) λdj=>?_)
 ·
  refine go6 ?_;refine lX (xB jP pH an) λgr er=>(go2 ?_);refine cL (ev3 I I I) call90 (λw hs=>zG6 (f:=f) hs er ak oM oM oM (by first|omega|exact H3|exact aw f oM|exact zDU s _) (by first|omega|exact H3|exact aw f oM|exact zDU s _) (by first|omega|exact H3|exact aw f oM|exact zDU s _) (by first|omega|exact H3|exact aw f oM|exact zDU s _)) λgq h6 ip eq=>(nA (ρ:=(tFc 1 1)) (X:=((zT,(0:Rat)),([],([]:List Nat)))) jK (yA (yA (yR (yE dC)) (yE dC)) (yA wC gS)) λb8 iz eh=>?_);have bg:=(Le.p (Le.p (Le.t (Le.q (l:=4*m+11) oM)) (Le.q (l:=m+n+11) oM)) (Le.refl _)).R eh;refine zP (A:=[]) (uB sizeOf53 pH bg eq) λco am=>(go5 ?_);refine lX (sN (xB fN (y6u (y6i pH)) H)) λgo ep=>?_;subst ep;refine gv (jO mh1 underlying36 I) I (go5 ?_);refine gcL (ι:=Nat×Mem) (λ(kp,mk)=>(MLe h6 mk/\(kp<=Z.length/\aO (zSB (nfF s (ixZ s) f) Z) Z.length=aO (zSB (nfF s (ixZ s) f) Z) kp),[(1,vP b1 0),(2,vP b2 0),(4,M),(5,vP b5 0),(7,vI ↑f),(8,vP b8 0),(9,vI ↑kp)],[.var b8 53 co,.gs 53 14 C Z.length ad,.var b5 39 ae,.var b2 39 ct,.var b1 39 cu],mk,kp)) (Z.length,h6) ?_ ?_
  · exact⟨mle,zot,I⟩
  rintro⟨kp,mk⟩ ⟨fz,ii,ci⟩
  refine yY ?_;refine go2 ?_;refine zJ 12 _ [] (zai 0 10 [(10,.c),(11,.q)]) zX nX (wL zou) nX (λr hr=>hr) (go3 ?_);refine jZ ((0:Int)<(↑kp:Int)) (λaq=>?_) (λaq=>?_)
  ·
   rw[xW aq];refine oX I (xB bE pH am) λgn eo=>(go1 ?_);refine oX I (sN (xB fN (y6u (y6i pH)) H)) λgm en=>?_;subst en;refine yV I I I (λh' L' hh hR=>xG I) I (go1 ?_);refine yV I I I (λh' L' hh hR=>(yZ (kp-1) (hR _ mh1) underlying36 sizeOf53 I I oM oM nP).cv (show _=zI 1 C (((kp-1)*14+0)) from zbi (zI 1 C) zo5)) I (lZ (F:=λv_=>(tFc (4*m+12) (m+n+12)).Is mk v_ (Z.getD (kp-1) zA)) I I I (wO bE (y5e (y5u _) zA (kp-1) oM) I nP I aa.up I) (tM mh1) I ?_);intro gk em;refine w_c I (iT I I (sC (ev2 I I) call91 (λw hs=>zLT hs eo em (by first|omega|exact zci (zHA H3 oM) dC|exact zci (dl _ (by rw[hF];exact kJ (by rw[<-hF];omega))) dC) (by first|omega|exact zci (zHA H3 oM) dC|exact zci (dl _ (by rw[hF];exact kJ (by rw[<-hF];omega))) dC)) λeb h7 fm el=>?_));obtain rfl:eb=vB (lsF (nfF s (ixZ s) f) (Z.getD (kp-1) zA)):=el;refine gc3 (λav=>?_) λav=>?_
   ·
    refine go9 ?_;refine gqL ((kp-1),h7) ?_ ?_ (he:=⟨I,I,I,I,I,I,zbi (λz=>some (vI z)) oM,y5i⟩)
    · exact⟨mle,zot,by rw[ci];exact zSS oM av⟩
    omega
   refine go8 ?_;refine lX (sN (xB fN (y6u (y6i pH)) H)) λea ce=>?_;subst ce;refine lX (xV (ρ:=(tFc 1 1)) (xN (ps':=[]) underlying53 jK I I (bT underlying53) trivial I (yA (yA (yR (yE dC)) (yE dC)) (yA wC gS)) zN)) λdz cd=>(zG (zL (ρ:=(tFc 1 1)) (m:=1) (xs:=[((zT,(0:Rat)),([],([]:List Nat)))]) (ps':=[(0,_)]) underlying36 jK I I I (yA (yA (yR (yE dC)) (yE dC)) (yA wC gS)) e2z (zD I (y5e (y5u _) zA 0 dC) cd zN) zom nP) I I I ?_)
   rintro dy fk ⟨dp,rfl,ba⟩
   refine zQ (A:=[]) (ρ:=(tFc 1 1)) ba ?_;intro h8 io bi;refine xQ (A:=[_]) (uK (zR (ρ:=(tFc (4*m+12) (m+n+12))) (bytes:=264) underlying36 jK I I I I nP I I aa.up (bi.le (Le.s (Le.p (Le.p (Le.t (Le.q (l:=4*m+12) oM)) (Le.q (l:=m+n+12) oM)) (Le.refl _)))) bO bO)) I I I ?_
   rintro aj fj ⟨ah,dn,rfl,az⟩
   refine go1 ?_;refine zP (A:=[_,_]) (uB sizeOf36 (y6u (y6i pH)) H (eH ah)) λcn ac=>(go3 ?_);refine lI (A:=[_]) (by rw[lAz];exact ywu _) (λob fu ao ap=>?_);refine qJ (A:=[_]) 10 [] (zai 0 9 [(9,.c)]) zX nX zou nX (go1 ?_);refine wX I (sN (xB fN (y6u (y6i pH)) ac)) λdx cc=>?_;subst cc;refine go2 ?_;refine wZ I (λ_ _=>jI (kp+1) underlying36 sizeOf53 I I ⟨_,_,ao,ap⟩ oM zo1) I (go1 ?_);refine wX I (sN (xB fN (y6u (y6i pH)) ac)) λdw cb=>?_;subst cb;refine go1 ?_;refine wZ I (λ_ _=>jI kp underlying36 sizeOf53 I I ⟨_,_,ao,ap⟩ oM zo1) I ?_;refine w_c I (fK (A:=[_]) (λX=>mK (ρ:=(tFc (4*m+12) (m+n+12))) kp ao ap underlying36 sizeOf53 I I zo1 az) I (xO zoy) ?_)
   rintro dv fi ⟨ft,rfl,bq⟩
   refine go4 ?_;refine lX (sN (xB fN (y6u (y6i pH)) ac)) λdu ca=>?_;subst ca;refine go1 ?_;refine lX (xB bE pH am) λdt bz=>(gv ((yZ kp mh1 underlying36 sizeOf53 I I oM (by rw[fP zo1];simp only[lAz,lC,lN];omega) nP).cv (show _=zI 1 aj ((kp*14+0)) from zbi (zI 1 aj) zo5)) I (fW (A:=[_]) (F:=λc_=>RL (tFc (4*m+12) (m+n+12)) h8 c_ ((sK (Z++[((zT,(0:Rat)),([],([]:List Nat)))]) kp).set kp (nfF s (ixZ s) f))) (rI sizeOf53 (y5e (y5u _) zA kp (by rw[fP zo1];simp only[lAz,lC,lN];omega)) I nP I I bq (bz.le (Le.p (Le.p (Le.t (Le.q (l:=4*m+12) oM)) (Le.q (l:=m+n+12) oM)) (Le.refl _))) I) ?_));intro cm bp;refine go8 ?_;refine xK (A:=[]) ?_;refine gqL ((f+1),((sK (Z++[((zT,(0:Rat)),([],([]:List Nat)))]) kp).set kp (nfF s (ixZ s) f)),M,cn,aj,cm,h8) ?_ ?_
   · exact⟨mle,ak.up,ac,bp,ah,zot,by rw[mG oM];have ch:aO (zSB (nfF s (ixZ s) f) Z) Z.length=kp:=by{rw[ci];exact zII (λe=>by first|omega|exact av e.2)};rw[<-ch,hF];rfl⟩
   omega
  rw[yM aq];refine go7 ?_;refine w_c I (mJ I I I I (qC ?_));refine lX (sN (xB fN (y6u (y6i pH)) H)) λea ce=>?_;subst ce;refine lX (xV (ρ:=(tFc 1 1)) (xN (ps':=[]) underlying53 jK I I (bT underlying53) trivial I (yA (yA (yR (yE dC)) (yE dC)) (yA wC gS)) zN)) λdz cd=>(zG (zL (ρ:=(tFc 1 1)) (m:=1) (xs:=[((zT,(0:Rat)),([],([]:List Nat)))]) (ps':=[(0,_)]) underlying36 jK I I I (yA (yA (yR (yE dC)) (yE dC)) (yA wC gS)) e2z (zD I (y5e (y5u _) zA 0 dC) cd zN) zom nP) I I I ?_)
  rintro dy fk ⟨dp,rfl,ba⟩
  refine zQ (A:=[]) (ρ:=(tFc 1 1)) ba ?_;intro h7 fm bh;refine xQ (A:=[_]) (uK (zR (ρ:=(tFc (4*m+12) (m+n+12))) (bytes:=264) underlying36 jK I I I I nP I I aa.up (bh.le (Le.s (Le.p (Le.p (Le.t (Le.q (l:=4*m+12) oM)) (Le.q (l:=m+n+12) oM)) (Le.refl _)))) bO bO)) I I I ?_
  rintro aj fj ⟨ah,dn,rfl,az⟩
  refine go1 ?_;refine zP (A:=[_,_]) (uB sizeOf36 (y6u (y6i pH)) H (eH ah)) λcl ab=>(go3 ?_);refine lI (A:=[_]) (by rw[lAz];exact ywu _) (λob fu ao ap=>?_);refine qJ (A:=[_]) 10 [] (zai 0 9 [(9,.c)]) zX nX zou nX (go1 ?_);refine wX I (sN (xB fN (y6u (y6i pH)) ab)) λdx cc=>?_;subst cc;refine go2 ?_;refine wZ I (λ_ _=>jI (kp+1) underlying36 sizeOf53 I I ⟨_,_,ao,ap⟩ oM zo1) I (go1 ?_);refine wX I (sN (xB fN (y6u (y6i pH)) ab)) λdw cb=>?_;subst cb;refine go1 ?_;refine wZ I (λ_ _=>jI kp underlying36 sizeOf53 I I ⟨_,_,ao,ap⟩ oM zo1) I ?_;refine w_c I (fK (A:=[_]) (λX=>mK (ρ:=(tFc (4*m+12) (m+n+12))) kp ao ap underlying36 sizeOf53 I I zo1 az) I (xO zoy) ?_)
  rintro dv fi ⟨fs,rfl,bo⟩
  refine go4 ?_;refine lX (sN (xB fN (y6u (y6i pH)) ab)) λdu ca=>?_;subst ca;refine go1 ?_;refine lX (xB bE pH am) λdt bz=>(gv ((yZ kp mh1 underlying36 sizeOf53 I I oM (by rw[fP zo1];simp only[lAz,lC,lN];omega) nP).cv (show _=zI 1 aj ((kp*14+0)) from zbi (zI 1 aj) zo5)) I (fW (A:=[_]) (F:=λc_=>RL (tFc (4*m+12) (m+n+12)) h7 c_ ((sK (Z++[((zT,(0:Rat)),([],([]:List Nat)))]) kp).set kp (nfF s (ixZ s) f))) (rI sizeOf53 (y5e (y5u _) zA kp (by rw[fP zo1];simp only[lAz,lC,lN];omega)) I nP I I bo (bz.le (Le.p (Le.p (Le.t (Le.q (l:=4*m+12) oM)) (Le.q (l:=m+n+12) oM)) (Le.refl _))) I) ?_));intro ck bn;refine go8 ?_;refine xK (A:=[]) ?_;refine gqL ((f+1),((sK (Z++[((zT,(0:Rat)),([],([]:List Nat)))]) kp).set kp (nfF s (ixZ s) f)),M,cl,aj,ck,h7) ?_ ?_
  · exact⟨mle,ak.up,ab,bn,ah,zot,by rw[mG oM];have ch:aO (zSB (nfF s (ixZ s) f) Z) Z.length=kp:=by{rw[ci];exact zII (λe=>by first|omega|exact av e.2)};rw[<-ch,hF];rfl⟩
  omega
 have ef:f=s.2.1.length:=by omega
 refine go7 ?_;refine lX (xB jP pH H) λgj ek=>?_;have bf:=(Le.p (Le.s (Le.t (Le.q (l:=k+1) oM))) (Le.p (Le.refl _) (Le.s (Le.p (Le.refl _) (Le.p (Le.refl _) (Le.q (l:=j+1) oM)))))).R di;refine zP (A:=[_,_]) (uB sizeOf39 pH bf ek) λfr bu=>(go3 ?_);have fq:Z=nrF s:=by rw[hF,ef];exact(zau bd).symm
 have fp:PS=nrP s:=by rw[hP,ei];exact(zau bd).symm
 subst fq;subst fp;refine wG (jG (t:=2) jP mh2 I bu) ?_;intro fv bc bm;refine kV (.cons_cons _ (zse _)) (λE S=>zS I bc E S) ?_;exact⟨_,_,(Rp.Is.cast bm (by rw[show nrE s=s.2.2 from zau bd])),I,cg,aa.up⟩
end
end Go.Proofs.YtpkaegemlpaenaaGreat
namespace Bk
open Classical
def triT(P:Nat->P2)(n:Nat):Prop:=∀i j k,i<j->j<k->k<n->0<cr (P i) (P j) (P k)
def lp(t:Rat)(a b:P2):P2:=(a.1+t*(b.1-a.1),a.2+t*(b.2-a.2))
def ex(P:Nat->P2)(n m:Nat):P2:=P (m%n)
def chg(s:Nat->Int)(n m:Nat):Prop:=s m*s ((m+1)%n)<0
def afZ(w:Rat×Rat×Rat)(p:P2):Rat:=w.1+w.2.1*p.1+w.2.2*p.2
section
variable {s:Nat->Int}{n:Nat}
end
structure Cfg(P:Nat->P2)(n:Nat)(t:Nat->Rat)(s:Nat->Int)(w:Rat×Rat×Rat):Prop where
 h3:3<=n
 tri:triT P n
 per:∀m,t (m%n)=t m
 cross:∀m,m<n->chg s n m->(0<t m/\t m<1)/\afZ w (lp (t m) (P m) (P ((m+1)%n)))=0
 neg:∀m,m<n->(s m<0↔afZ w (P m)<0)
 zero:∀m,m<n->(s m=0↔afZ w (P m)=0)
section
variable {P:Nat->P2}{n:Nat}{t:Nat->Rat}{s:Nat->Int}{w:Rat×Rat×Rat}
def cx(u v:P2):Rat:=u.1*v.2-v.1*u.2
end
section
variable {P:Nat->P2}{n:Nat}{t:Nat->Rat}{s:Nat->Int}{w:Rat×Rat×Rat}
end
def pt2(pl:Pl)(p:Pt):P2:=pr p (axI pl.1) (axJ pl.1)
def zIC(pl:Pl)(l:List Pt):Prop:=
 (3<=l.length/\¬pl.1=zT)/\(∀m,m<l.length->sdZ pl (gp l m)=0)/\∀m k,m<l.length->2<=k->k<l.length->0<orZ (pt2 pl (gp l m)) (pt2 pl (nx l m)) (pt2 pl (gp l ((m+k)%l.length)))
def yB(a b c:Pt):Rat:=zF a (zO b c)
theorem yLP{pl:Pl}{a b c:Pt}(hn:¬pl.1=zT)(ha:sdZ pl a=0)(hb:sdZ pl b=0)(hc:sdZ pl c=0):yQ (zF (zO (yJ b a) (yJ c a)) pl.1)=orZ (pt2 pl a) (pt2 pl b) (pt2 pl c):=by
 have hk:¬pl.1.at (axK pl.1)=0:=λe=>hn ((zUZ _).1 e);have h1:=zX8 pl (jS pl a) (jS pl b) (jS pl c) hk;rw[zDS hk ha,zDS hk hb,zDS hk hc,yHZ] at h1;exact h1.symm
theorem yLQ(a b c n:Pt):zF (zO (yJ b a) (yJ c a)) n=yB (yJ b a) (yJ c a) n:=by
 unfold yB zF zO yJ;grind
end Bk
namespace Bk
open Go Go.RowKit
open Classical
theorem zNH{k:Nat}{h:Mem}{v:Value}{p:T3 Rat}(s:(rpT (rpQ k)).Is h v p):lq p.x<=k/\lq p.y<=k/\lq p.z<=k:=by
 obtain⟨cs,⟨a,b,_,H,c,d,_,D,C⟩,_⟩:=s;exact⟨H.2,D.2,C.2⟩
theorem zF8{K k:Nat}{h:Mem}{v:Value}{p:T3 Rat}(s:(rpT (rpQ K)).Is h v p)(h1:lq p.x<=k)(h2:lq p.y<=k)(h3:lq p.z<=k):(rpT (rpQ k)).Is h v p:=by
 obtain⟨cs,⟨a,b,e,H,c,d,e',D,C⟩,J⟩:=s;exact⟨cs,⟨a,b,e,⟨H.1,h1⟩,c,d,e',⟨D.1,h2⟩,⟨C.1,h3⟩⟩,J⟩
theorem zK6{a b:Rat}(h:¬(¬smB a\/¬smB b)):(smB a/\smB b)/\(-72057594037927936<=smZ a*smZ b/\smZ a*smZ b<=72057594037927936):=by
 have h1:smB a/\smB b:=by
  constructor
  · exact zdi λe=>h (.inl e)
  · exact zdi λe=>h (.inr e)
 have U:=(rH h1.1).2;have O:=(rH h1.2).2;refine⟨h1,?_⟩;have C:∀{x y:Int},0<=x->x<268435456->0<=y->y<268435456->0<=x*y/\x*y<=72057594037927936:=by
  intro x y hx H hy D;have M:=ylu hx hy;have J:x*y<=268435456*268435456:=Int.mul_le_mul zot zot hy zot;omega
 generalize smZ a=u at *;generalize smZ b=v at *
 rcases yve 0 u with hu|hu<;>rcases yve 0 v with hv|hv
 · have:=C hu zot hv zot;omega
 · have:=C hu zot (y:=-v) zot zot
   rw[Int.mul_neg] at this;omega
 · have:=C (x:=-u) zot zot hv zot
   rw[yze] at this;omega
 · have:=C (x:=-u) (y:=-v) zot zot zot zot
   rw[Int.neg_mul_neg] at this;omega
theorem zYU{s:Pl}{p:Pt}(hx:smB s.1.x/\smB p.x)(hy:smB s.1.y/\smB p.y)(hz:smB s.1.z/\smB p.z)(hd:smB s.2):zIQ ((0:Int)+smZ s.1.x*smZ p.x+smZ s.1.y*smZ p.y+smZ s.1.z*smZ p.z-smZ s.2)=sdZ s p:=by
 rw[<-mH];unfold sdZ hgt zF
 congr 1
 rw[zru,zli,zli,zli,zji,zji,zji];rw[<-(rH hx.1).1,<-(rH hx.2).1,<-(rH hy.1).1,<-(rH hy.2).1,<-(rH hz.1).1,<-(rH hz.2).1,<-(rH hd).1];have e:((0:Int):Rat)=0:=I;rw[e];grind
theorem zYV(s:Pl)(p:Pt):xZ (zF s.1 p) s.2=sdZ s p:=zID _ _
end Bk
namespace Bk
open Classical
def zK0(p q:Pt):Prop:=p.x=q.x/\p.y=q.y
def j7(B:List Pt)(p:Pt):Nat->Int
  |0=>-1
  |j+1=>if zK0 (B.getD j zT) p then(j:Int) else j7 B p j
theorem zH4(B:List Pt)(p:Pt):∀j,-1<=j7 B p j/\j7 B p j<j\/(j=0/\j7 B p j= -1)
  |0=>.inr ⟨rfl,rfl⟩
  |j+1=>by
   have h:=zH4 B p j;unfold j7
   split
   · exact .inl zot
   · exact .inl zot
theorem fd_t{B:List Pt}{p:Pt}{j:Nat}(h:zK0 (B.getD j zT) p):(j:Int)=j7 B p (j+1):=(zau h).symm
theorem yLL{B:List Pt}{p:Pt}{j:Nat}(h:¬zK0 (B.getD j zT) p):j7 B p j=j7 B p (j+1):=(zae h).symm
def fdZ(B:List Pt)(p:Pt):Int:=j7 B p B.length
def adB(B:List Pt)(p:Pt):List Pt:=if fdZ B p<0 then B++[p] else B
def adN(B:List Pt)(p:Pt):Int:=if fdZ B p<0 then(B.length:Int) else fdZ B p
def plB(B:List Pt)(x:List Pt):Nat->List Pt
  |0=>B
  |k+1=>adB (plB B x k) (x.getD k zT)
def plN(B:List Pt)(x:List Pt):Nat->List Int:=wS λk=>adN (plB B x k) (x.getD k zT)
def ptB(L:List (List Pt)):Nat->List Pt
  |0=>[]
  |i+1=>plB (ptB L i) (L.getD i []) (L.getD i []).length
def ptN(L:List (List Pt)):Nat->List (List Int):=wS λi=>plN (ptB L i) (L.getD i []) (L.getD i []).length
def iL(L:List (List Pt)):Nat->Nat
  |0=>0
  |i+1=>iL L i+(L.getD i []).length
theorem yGY(B:List Pt)(p:Pt):(adB B p).length<=B.length+1:=by
 unfold adB;split
 · rw[lAz,zke];exact zbe _
 · omega
theorem zLF(B x:List Pt):∀k,(plB B x k).length<=B.length+k
  |0=>zbe _
  |k+1=>by
   have h1:=zLF B x k;have h2:=yGY (plB B x k) (x.getD k zT)
   show(adB _ _).length<=_
   omega
theorem zLD(L:List (List Pt)):∀i,(ptB L i).length<=iL L i
  |0=>zbe _
  |i+1=>by
   have h1:=zLD L i;have h2:=zLF (ptB L i) (L.getD i []) (L.getD i []).length
   show(plB _ _ _).length<=iL L i+_
   omega
theorem yCW{L:List (List Pt)}(h:∀m,m<L.length->(L.getD m []).length<=64):∀i,i<=L.length->iL L i<=64*i
  |0,_=>zbe _
  |i+1,hi=>by
   have h1:=yCW h i zot;have h2:=h i zot
   show iL L i+_<=_
   omega
theorem yFN{L:List (List Pt)}(h:uC L 0 1=0):L.length<=16/\∀m,m<L.length->(L.getD m []).length<=64:=by
 unfold uC at h
 split at h
 · omega
 · rename_i h1
   exact⟨zye.1 λe=>h1 (.inl e),λm C=>zye.1 λe=>h1 (.inr ⟨m,C,e⟩)⟩
section
variable (L:List (List Pt))(lo hi:Rat)
def bsZ:List Pt:=ptB L L.length
def bxZ:List (List Int):=ptN L L.length
def zV0:Nat->List Pt:=wS λi=>T3.mk ((bsZ L).getD (i%(bsZ L).length) zT).x ((bsZ L).getD (i%(bsZ L).length) zT).y (if((bsZ L).length:Int)<=(i:Int) then hi else lo)
def ppZ:List Pt:=zV0 L lo hi (2*(bsZ L).length)
def yDK:Nat->List (List Int):=wS λi=>lD ((bxZ L).getD i []) ((bxZ L).getD i []).length
def tpL(i:Nat):Nat->List Int:=wS λk=>((bxZ L).getD i []).getD k 0+((bsZ L).length:Int)
def zYE:Nat->List (List Int):=wS λi=>tpL L i ((bxZ L).getD i []).length
def nmS(i k:Nat):List Nat:=[115]++qS (((i:Int):Int):Rat)++[46]++qS (((k:Int):Int):Rat)
def sdA(i k:Nat):Int:=((bxZ L).getD i []).getD k 0
def sdB(i k:Nat):Int:=((bxZ L).getD i []).getD ((k+1)%((bxZ L).getD i []).length) 0
def sdN(i k:Nat):Pt:=T3.mk (((ppZ L lo hi).getD (sdB L i k).toNat zT).y-((ppZ L lo hi).getD (sdA L i k).toNat zT).y) (-(((ppZ L lo hi).getD (sdB L i k).toNat zT).x-((ppZ L lo hi).getD (sdA L i k).toNat zT).x)) (0:Rat)
def sdF(i k:Nat):Fc:=((sdN L lo hi i k,zF (sdN L lo hi i k) ((ppZ L lo hi).getD (sdA L i k).toNat zT)),[[sdA L i k,sdB L i k,sdB L i k+((bsZ L).length:Int),sdA L i k+((bsZ L).length:Int)]],nmS i k)
def sfX(i:Nat):Nat->List Fc:=wS λk=>sdF L lo hi i k
def zNO:Nat->List Fc:=gP λi=>sfX L lo hi i ((bxZ L).getD i []).length
def btF:Fc:=((T3.mk (0:Rat) (0:Rat) (-((1:Int):Rat)),-lo),yDK L (bxZ L).length,[98,111,116,116,111,109])
def tpF:Fc:=((T3.mk (0:Rat) (0:Rat) ((1:Int):Rat),hi),zYE L (bxZ L).length,[116,111,112])
def prR:Sd:=(ppZ L lo hi,zNO L lo hi (bxZ L).length++[btF L lo,tpF L hi],[])
def prB:Prop:=512<2*(bsZ L).length\/256<iL L L.length+2
def prE:Int:=if ¬uC L 0 1=0 then uC L 0 1 else if ¬ouZ L=1 then 33 else if 0<=xZ lo hi then 9 else if prB L then 2 else 0
def prP:List Pt:=if prE L lo hi=0 then nrP (prR L lo hi) else[]
def prF:List Fc:=if prE L lo hi=0 then nrF (prR L lo hi) else[]
end
section
variable {L:List (List Pt)}{lo hi:Rat}
theorem yNI(h1:uC L 0 1=0)(h2:ouZ L=1)(h3:¬0<=xZ lo hi)(h4:¬prB L):prE L lo hi=0/\prP L lo hi=nrP (prR L lo hi)/\prF L lo hi=nrF (prR L lo hi):=by
 have e:prE L lo hi=0:=by unfold prE;rw[zae (λe=>e h1),zae (λe=>e h2),zae h3,zae h4]
 exact⟨e,zau e,zau e⟩
theorem zTJ{n:Int}(h:prE L lo hi=n)(hn:¬n=0):prE L lo hi=n/\prP L lo hi=[]/\prF L lo hi=[]:=⟨h,zae (by rw[h];exact hn),zae (by rw[h];exact hn)⟩
theorem pr_1(h1:¬uC L 0 1=0):prE L lo hi=uC L 0 1/\prP L lo hi=[]/\prF L lo hi=[]:=zTJ (zau h1) h1
theorem yNH(h1:uC L 0 1=0)(h2:¬ouZ L=1):prE L lo hi=33/\prP L lo hi=[]/\prF L lo hi=[]:=zTJ (by unfold prE;rw[zae (λe=>e h1),zau h2]) zox
theorem pr_9(h1:uC L 0 1=0)(h2:ouZ L=1)(h3:0<=xZ lo hi):prE L lo hi=9/\prP L lo hi=[]/\prF L lo hi=[]:=zTJ (by unfold prE;rw[zae (λe=>e h1),zae (λe=>e h2),zau h3]) zox
theorem pr_2(h1:uC L 0 1=0)(h2:ouZ L=1)(h3:¬0<=xZ lo hi)(h4:prB L):prE L lo hi=2/\prP L lo hi=[]/\prF L lo hi=[]:=zTJ (by unfold prE;rw[zae (λe=>e h1),zae (λe=>e h2),zae h3,zau h4]) zox
theorem zXO(B:List Pt)(p:Pt):0<=adN B p/\adN B p<(adB B p).length:=by
 have h:=zH4 B p B.length;unfold adN adB fdZ
 split
 · rw[lAz,zke];omega
 · omega
theorem yMK(B:List Pt)(p:Pt):B.length<=(adB B p).length:=by
 unfold adB;split
 · rw[lAz];omega
 · omega
theorem zZW(B x:List Pt){k n:Nat}(h:k<=n):(plB B x k).length<=(plB B x n).length:=by
 induction n with
 |zero=>rw[show k=0 by omega];exact zbe _
 |succ n ih=>
  rcases zte k (n+1) with h1|h1
  · exact zci (ih zot) (yMK _ _)
  · rw[show k=n+1 by omega];exact zbe _
theorem yJX{i n:Nat}(h:i<=n):(ptB L i).length<=(ptB L n).length:=by
 induction n with
 |zero=>rw[show i=0 by omega];exact zbe _
 |succ n ih=>
  rcases zte i (n+1) with h1|h1
  · exact zci (ih zot) (zZW (ptB L n) (L.getD n []) (k:=0) (zuu _))
  · rw[show i=n+1 by omega];exact zbe _
theorem yL5:(bxZ L).length=L.length:=yW _ _
theorem yDD{i:Nat}(h:i<L.length):(bxZ L).getD i []=plN (ptB L i) (L.getD i []) (L.getD i []).length:=uE _ _ h
theorem zM5{i:Nat}(h:i<L.length):((bxZ L).getD i []).length=(L.getD i []).length:=by rw[yDD h];exact yW _ _
theorem zP3{i k:Nat}(h:i<L.length)(hk:k<((bxZ L).getD i []).length):0<=((bxZ L).getD i []).getD k 0/\((bxZ L).getD i []).getD k 0<↑(bsZ L).length:=by
 rw[zM5 h] at hk;rw[yDD h];unfold plN;rw[uE _ _ hk];obtain⟨h1,h2⟩:=zXO (plB (ptB L i) (L.getD i []) k) ((L.getD i []).getD k zT);have h3:=zZW (ptB L i) (L.getD i []) (show k+1<=(L.getD i []).length from hk);have J:=yJX (L:=L) (show i+1<=L.length from h);have H:(plB (ptB L i) (L.getD i []) (k+1)).length=(adB (plB (ptB L i) (L.getD i []) k) ((L.getD i []).getD k zT)).length:=I;have D:(ptB L (i+1)).length=(plB (ptB L i) (L.getD i []) (L.getD i []).length).length:=I;have C:(bsZ L).length=(ptB L L.length).length:=I;exact⟨h1,zot⟩
theorem zQ2:(ppZ L lo hi).length=2*(bsZ L).length:=yW _ _
theorem zYZ{n:Nat}(hn:n<=L.length):(zNO L lo hi n).length=iL L n:=by
 induction n with
 |zero=>rfl
 |succ n ih=>
  show List.length (zNO L lo hi n++sfX L lo hi n ((bxZ L).getD n []).length)=iL L n+_
  rw[lAz,ih zot,show(sfX L lo hi n ((bxZ L).getD n []).length).length=_ from yW _ _,zM5 zot]
end
end Bk
namespace Bk
open Go Go.RowKit
section
variable {P:Program}{n:Nat}{w0:World}{h0:Mem}{e:List (Nat×Value)}{L:List Res}{h:Mem}{Q:Exit->Act->World->Prop}{ds:Option Tmp}{ty:TypeId}{ps:String}{af:Array Edge}{gd:Option (Nat×Bool)}{α β:Type}
variable {E:TypeId}{cs:List Value}{v:Value}{ρ:Rp α}{σ:Rp β}{g:List α->β}{s:List α->β->List α}{xs:List α}{off k:Nat}
theorem zLM{w:World}{h':Mem}(hm:.gs E ρ.n v xs.length cs∈L)(pc:Pc (rpA xs.length ρ) off σ g s)(hp:0<σ.n)(r:RL ρ h cs xs)(S:St w0 h0 L h' w):
 ∃b o',∀d,zI 1 v (off+d)=vP b (o'+off+d):=by
 have hf:off+σ.n<=xs.length*ρ.n:=pc.fits;have D:=r.len;obtain⟨b,o',H,C,_⟩:=zNI (l:=1) (zLH hm S) zox (show off+1<=cs.length by omega);refine⟨b,o',λd=>?_⟩;rw[C];simp[zI,jY,z3e]
theorem kT{x:Operand}(pc:Pc (rpA xs.length ρ) off σ g s)(hk:k=off)(hp:0<σ.n)(r:RL ρ h cs xs)(hm:.gs E ρ.n v xs.length cs∈L)(hx:zH e x=some (zI 1 v k)):
 OpV P n w0 h0 ⟨ds,.nilCheck x,ty,ps,af,gd⟩ e L h (zI 1 v k):=by
 subst hk;intro a w D S;obtain⟨b,o',H⟩:=zLM hm pc hp r S;have C:=H 0;rw[zpi,zpi] at C;rw[C] at hx ⊢;exact gY hx a w D S
theorem qX{t:TypeId}{x:Operand}{f:Nat}{fs:Array Field}{fl:Field}{m:Nat}(pc:Pc (rpA xs.length ρ) off σ g s)(hk:k=off)(hp:0<σ.n)(r:RL ρ h cs xs)(hm:.gs E ρ.n v xs.length cs∈L)(ht:P.underlying t=some (.struct fs))(hf:fs[f]?=some fl)(hsz:∀w,(Go.sizeOf fl.type).run P w=.ok (m+1) w)(hx:zH e x=some (zI 1 v k)):
 OpV P n w0 h0 ⟨ds,.fieldAddr t x f,ty,ps,af,gd⟩ e L h (zI 1 v (k+fl.offset)):=by
 subst hk;intro a w D S;obtain⟨b,o',H⟩:=zLM hm pc hp r S;have C:=H 0;rw[zpi,zpi] at C;rw[H];rw[C] at hx;exact fH ht hf hsz hx a w D S
theorem sZ{t E':TypeId}{x y:Operand}{m sz:Nat}{q:Int}(i:Nat)(pc:Pc (rpA xs.length ρ) off σ g s)(hk:k=off)(hp:0<σ.n)(r:RL ρ h cs xs)(hm:.gs E ρ.n v xs.length cs∈L)(ht:P.underlying t=some (.array m E'))(hsz:∀w,(Go.sizeOf E').run P w=.ok sz w)(hx:zH e x=some (zI 1 v k))(hy:zH e y=some (vI q))(hq:q=(i:Int))(hi:i<m):
 OpV P n w0 h0 ⟨ds,.indexAddr t x y,ty,ps,af,gd⟩ e L h (zI 1 v (k+i*sz)):=by
 subst hk;intro a w D S;obtain⟨b,o',H⟩:=zLM hm pc hp r S;have C:=H 0;rw[zpi,zpi] at C;rw[H];rw[C] at hx;exact zW i ht hsz hx hy hq hi a w D S
end
end Bk
namespace Go.Proofs.YtpkaegemlpaenaaGreat
open Bk Go Tryz
attribute [local irreducible] GL GC GQ W OpV
theorem uA{w0:World}{h0:Mem}(hs:MLe h0 (mem w0)){n:Int}(hn1:-9223372036854775808<=n)(hn2:n<9223372036854775808):
 y8i 88 #[vI n] w0 h0 (λh r=>qF.Is h r (qS ((n:Int):Rat))):=by
 refine cb1 6 (vI n) func88 hs ?_;refine go8 ?_;refine cL (ev1 I) call27 (λw hs=>qP hs oM oM) λv4 h1 ab r4=>?_;obtain⟨M,O,C,D,H,J⟩:=qM r4;subst C;refine cL (ev1 I) call134 (λw hs=>zVR hs D H oM) λv5 h2 aa U=>?_;subst U;have Z:=zA7 ((n:Int):Rat);refine go4 ?_;refine zC I I ?_;exact(bK (yDB ((n:Int):Rat)))
set_option maxHeartbeats 40000000 in
theorem zJ1{w0:World}{h0:Mem}(hs:MLe h0 (mem w0)){k l1 l2:Nat}{vL:Value}{L:(List (List Tq))}(rL:(tLL k).Is h0 vL L){vlo:Value}{lo:Rat}(rlo:(rpQ l1).Is h0 vlo lo){vhi:Value}{hi:Rat}(rhi:(rpQ l2).Is h0 vhi hi)(H0:k<=20)(H1:l1<=20)(H2:l2<=20)(H3:∀x,x∈L->cA x)(H4:prE L lo hi=0->okS (prR L lo hi)):
 Calls prog 46 #[vL,vlo,vhi] w0 (tP w0 h0 (λh r L_=>∃u0 vF cs,r=.tuple #[u0,vI (prE L lo hi)]/\(rpP (tLs (k+l1+l2+20)) (rpP rpV (rpS (rpP rpI (rpP rpI (rpQ 5)))))).Is h u0 (prP L lo hi,(vF,[]))/\L_=[.gs 53 14 vF (prF L lo hi).length cs]/\vF.oneCell'=true/\RL (tFc (1000*k+1000*l1+1000*l2+2000) (1000*k+1000*l1+1000*l2+2000)) h cs (prF L lo hi))):=by
 refine cb3 341 vL vlo vhi func46 hs ?_;refine go2 ?_;refine nB rlo λb4 cq kw=>(nB rhi λb5 cp kv=>(nA (ρ:=(rpP (tLs 1) (rpP rpV (rpS (rpP rpI (rpP rpI (rpQ 1))))))) (X:=([],((Value.slice none 0 0),[]))) qQ (yA wC (yA fD wC)) λb6 co eq=>(go7 ?_)));refine cL (ev1 I) call85 (λw hs=>zJW hs rL oM (by first|omega|exact H3)) λv36 h1 hh1 sl=>?_;obtain⟨ir,rfl,kx⟩:=sl
 change (rpS rpI).Is h1 ir (sS L 0 1) at kx
 refine rS ?_;refine cnd (λfm=>?_) λfm=>?_
 ·
  refine go2 ?_;refine lX (xV (ρ:=(rpP (tLs 1) (rpP rpV (rpS (rpP rpI (rpP rpI (rpQ 1))))))) (xN (ps':=[]) underlying39 qQ I I (sM underlying39) trivial I (yA wC (yA fD wC)) zN)) λv41 sk=>(go1 ?_);refine zP (A:=[]) (uB sizeOf39 pH eq sk) λze nl=>(go5 ?_);obtain⟨e1,e2,e3⟩:=pr_1 (lo:=lo) (hi:=hi) fm;rw[e1,e2,e3];refine aT 53 14 ?_;have nj:=RL.nil (ρ:=rpP (tPl (1000*k+1000*l1+1000*l2+2000) (1000*k+1000*l1+1000*l2+2000)) (rpP tII qF)) (h:=h1);refine wG (jG (t:=6) jP mh1 I nl) ?_;intro zj ky nh;refine kV (.cons_cons _ (zse _)) (λE S=>qO I ky (gH I) E S) ?_;exact⟨_,_,_,I,(Rp.Is.le nh (Le.p (Le.s (Le.t (Le.q (l:=k+l1+l2+20) oM))) (Le.p (Le.refl _) (Le.s (Le.p (Le.refl _) (Le.p (Le.refl _) (Le.q (l:=5) dC))))))),I,I,nj⟩
 refine go6 ?_;have fi:uC L 0 1=0:=zdi fm;have ck:=yFN fi;have li:=yCW ck.2;refine cL (ev1 I) call86 (λw hs=>zJ2 hs rL.up oM (by first|omega|exactλl hl=>zci (ck.2 l hl) dC) (by first|omega|exactλl hl=>zci (ck.2 l hl) dC)) λrn h2 hh2 sj=>?_;obtain rfl:rn=vI (ouZ L):=sj;have ss:=zBS L L.length;refine gc3 (λcn=>?_) λcn=>?_
 ·
  refine go2 ?_;refine lX (xV (ρ:=(rpP (tLs 1) (rpP rpV (rpS (rpP rpI (rpP rpI (rpQ 1))))))) (xN (ps':=[]) underlying39 qQ I I (sM underlying39) trivial I (yA wC (yA fD wC)) zN)) λv46 si=>(zP (A:=[]) (uB sizeOf39 pH eq si) λzd nk=>(go5 ?_));obtain⟨e1,e2,e3⟩:=yNH (lo:=lo) (hi:=hi) fi cn;rw[e1,e2,e3];refine aT 53 14 ?_;have ni:=RL.nil (ρ:=rpP (tPl (1000*k+1000*l1+1000*l2+2000) (1000*k+1000*l1+1000*l2+2000)) (rpP tII qF)) (h:=h2);refine wG (jG (t:=6) jP mh1 I nk) ?_;intro un ia ji;refine kV (.cons_cons _ (zse _)) (λE S=>qO I ia (gH I) E S) ?_;exact⟨_,_,_,I,(Rp.Is.le ji (Le.p (Le.s (Le.t (Le.q (l:=k+l1+l2+20) oM))) (Le.p (Le.refl _) (Le.s (Le.p (Le.refl _) (Le.p (Le.refl _) (Le.q (l:=5) dC))))))),I,I,ni⟩
 refine go5 ?_;refine lX (xB yC pH kw) λzz sh=>(lX (xB yC pH kv) λzy sf=>(cL (ev2 I I) call17 (λw hs=>tK hs sh sf oM) λrm h3 hh3 se=>?_));obtain rfl:rm=vI (xZ lo hi):=se;have tk:=jC lo hi;refine gc3 (λdv=>?_) λdv=>?_
 ·
  refine go2 ?_;refine lX (xV (ρ:=(rpP (tLs 1) (rpP rpV (rpS (rpP rpI (rpP rpI (rpQ 1))))))) (xN (ps':=[]) underlying39 qQ I I (sM underlying39) trivial I (yA wC (yA fD wC)) zN)) λzx sd=>(zP (A:=[]) (uB sizeOf39 pH eq sd) λtw ku=>(go5 ?_));obtain⟨e1,e2,e3⟩:=pr_9 fi (zdi cn) dv;rw[e1,e2,e3];refine aT 53 14 ?_;have jt:=RL.nil (ρ:=rpP (tPl (1000*k+1000*l1+1000*l2+2000) (1000*k+1000*l1+1000*l2+2000)) (rpP tII qF)) (h:=h3);refine wG (jG (t:=6) jP mh1 I ku) ?_;intro um hv jh;refine kV (.cons_cons _ (zse _)) (λE S=>qO I hv (gH I) E S) ?_;exact⟨_,_,_,I,(Rp.Is.le jh (Le.p (Le.s (Le.t (Le.q (l:=k+l1+l2+20) oM))) (Le.p (Le.refl _) (Le.s (Le.p (Le.refl _) (Le.p (Le.refl _) (Le.q (l:=5) dC))))))),I,I,jt⟩
 refine go4 ?_;refine nA (ρ:=(rpP rpV (rpP rpV (rpS (rpP rpI (rpP rpI (rpQ 1))))))) (X:=((Value.slice none 0 0),((Value.slice none 0 0),[]))) qQ (yA fD (yA fD wC)) λbb ct ns=>(go24 ?_);refine xJ 118 2 ?_;have js:=RL.nil (ρ:=rpA 2 rpI) (h:=h3);refine xJ 31 9 ?_;have jr:=RL.nil (ρ:=rpT (rpQ (k+1))) (h:=h3);refine xJ 22 1 ?_;have jq:=RL.nil (ρ:=rpS rpI) (h:=h3);refine gcL (ι:=Nat×List (List Int)×List Tq×List (List Int)×Value×List Value×Value×List Value×Value×List Value×Mem) (λ(i,ED,M,II,ab,an,D,ay,C,aq,ma)=>(MLe h3 ma/\(RL (rpA 2 rpI) ma an ED/\RL (tPt (k+1)) ma ay M/\RL (rpS rpI) ma aq II/\i<=L.length/\ED.length=iL L i/\M=ptB L i/\II=ptN L i),[(0,vL),(4,vP b4 0),(5,vP b5 0),(6,vP b6 0),(10,vP bb 0),(11,ab),(12,D),(13,C),(14,vI ↑i)],[.gs 22 1 C II.length aq,.gs 31 9 D M.length ay,.gs 118 2 ab ED.length an,.var bb 39 ct,.var b6 39 co,.var b5 29 cp,.var b4 29 cq],ma,L.length-i)) (0,[],[],[],(.slice none 0 0),[],(.slice none 0 0),[],(.slice none 0 0),[],h3) ?_ ?_
 · exact⟨mle,js,jr,jq,zot,I,I,I⟩
 rintro⟨i,ED,M,II,ab,an,D,ay,C,aq,ma⟩ ⟨yw,jp,ao,av,tg,rc,be,br⟩
 refine yY ?_;have tl:=zLD L i;have qw:=li i tg;have hIl:II.length=i:=by rw[br];exact yW _ _
 rw[<-be] at tl;refine gc9 (λrb=>?_) λrb=>?_
 ·
  refine dQ ?_;refine xJ 3 1 ?_;have jo:=RL.nil (ρ:=rpI) (h:=ma);refine gcL (ι:=Nat×List Tq×List Int×Value×List Value×Value×List Value×Mem) (λ(q,B2,LN,O,bf,az,cf,mb)=>(MLe ma mb/\(RL (tPt (k+1)) mb bf B2/\RL rpI mb cf LN/\q<=(L.getD i []).length/\B2=plB (ptB L i) (L.getD i []) q/\LN=plN (ptB L i) (L.getD i []) q),[(0,vL),(4,vP b4 0),(5,vP b5 0),(6,vP b6 0),(10,vP bb 0),(11,ab),(12,O),(13,C),(14,vI ↑i),(15,az),(16,vI ↑q)],[.gs 3 1 az LN.length cf,.gs 22 1 C II.length aq,.gs 31 9 O B2.length bf,.gs 118 2 ab ED.length an,.var bb 39 ct,.var b6 39 co,.var b5 29 cp,.var b4 29 cq],mb,(L.getD i []).length-q)) (0,M,[],D,ay,(.slice none 0 0),[],ma) ?_ ?_
  · exact⟨mle,ao,jo,zot,by rw[be];rfl,I⟩
  rintro⟨q,B2,LN,O,bf,az,cf,mb⟩ ⟨yv,bc,cw,hq1,dy,ih⟩
  refine yY ?_;have tm:=zLF (ptB L i) (L.getD i []) q;rw[<-dy,<-be] at tm;have tn:LN.length=q:=by rw[ih];exact yW _ _
  have hp:=ck.2 i oM;refine go6 ?_;refine lX (xI [] i underlying76 uQ rL) λzw sc=>(lX (xA uQ sc) λzv r62=>(gc4 (λra=>?_) λra=>?_))
  ·
   refine dQ ?_;refine gcL (ι:=Nat×Mem) (λ(j,mj)=>(MLe mb mj/\(j<=B2.length),[(0,vL),(4,vP b4 0),(5,vP b5 0),(6,vP b6 0),(10,vP bb 0),(11,ab),(12,O),(13,C),(14,vI ↑i),(15,az),(16,vI ↑q),(17,vI (j7 B2 ((L.getD i []).getD q zT) j)),(18,vI ↑j)],[.gs 3 1 az LN.length cf,.gs 22 1 C II.length aq,.gs 31 9 O B2.length bf,.gs 118 2 ab ED.length an,.var bb 39 ct,.var b6 39 co,.var b5 29 cp,.var b4 29 cq],mj,B2.length-j)) (0,mb) ?_ ?_
   · exact⟨mle,oM⟩
   rintro⟨j,mj⟩ ⟨ys,qt⟩
   refine yY ?_;have hj1:=qt;have hfr:=zH4 B2 ((L.getD i []).getD q zT) j;refine go5 ?_;refine gv (jO mh2 underlying35 I) I (gc3 (λqz=>?_) λqz=>?_)
   ·
    refine go5 ?_;refine zJ 30 _ [] (zai 0 13 ((13,.c)::zai 14 14 [(28,.c),(29,.q)])) zX nX (wL zou) nX (λr hr=>hr) (go2 ?_);refine w_q I (λh' L' hh hR=>(yZ j (hR _ mh2) underlying35 sizeOf31 I I I bO nP).cv (show _=zI 1 O ((j*9+0)) from zbi (zI 1 O) zo5)) I (w_q I (λh' L' hh hR=>(sZ (sz:=3) (q:=0) 0 (y5e (y5u _) zT j bO) I nP (bc.up.mono hh) (hR _ mh2) underlying31 sizeOf29 I I I dC).cv (show _=zI 1 O ((j*9+0)) from zbi (zI 1 O) (by show(j*9+0)+0*3=(j*9+0);omega))) I (cY (F:=λv_=>(rpQ (k+1)).Is mj v_ ((B2.getD j zT).x)) I (wO yC (y5e (y6e (y5u _)) zT j bO) I nP I bc.up I) (tM mh2) I ?_));intro zu sb;refine go2 ?_;refine wX I (xI [] i underlying76 uQ rL) λzt sa=>(wX I (xA uQ sa) λzs ry=>(go1 ?_));refine wX I (xI zT q underlying35 zK ry) λzr rx=>(cY (F:=λv_=>AtP (rpQ k) mj v_ (((L.getD i []).getD q zT).x)) I (zJR (q:=0) 0 underlying31 sizeOf29 (y6e (y5u _)) I I I rx I dC I) j5 I ?_);intro zq rv;refine wX I (xA yC rv) λzp ru=>?_;refine w_c I (sC (ev2 I I) call73 (λw hs=>sR hs sb ru oM) λrk h4 bz rt=>?_);obtain rfl:rk=vB (((B2.getD j zT).x)=(((L.getD i []).getD q zT).x)):=rt;refine go1 ?_;refine jZ (((B2.getD j zT).x)=(((L.getD i []).getD q zT).x)) (λdd=>?_) (λdd=>?_)
    ·
     rw[xW dd];refine yV I I I (λh' L' hh hR=>xG I) I (yV I I I (λh' L' hh hR=>xG I) I (yV I I I (λh' L' hh hR=>(yZ j (hR _ mh2) underlying35 sizeOf31 I I I bO nP).cv (show _=zI 1 O ((j*9+0)) from zbi (zI 1 O) zo5)) I (yV I I I (λh' L' hh hR=>(sZ (sz:=3) (q:=1) 1 (y5e (y5u _) zT j bO) I nP (bc.up.mono hh) (hR _ mh2) underlying31 sizeOf29 I I I dC).cv (show _=zI 1 O ((j*9+3)) from zbi (zI 1 O) (by show(j*9+0)+1*3=(j*9+3);omega))) I (lZ (F:=λv_=>(rpQ (k+1)).Is h4 v_ ((B2.getD j zT).y)) I I I (wO yC (y5e (y7i (y5u _)) zT j bO) I nP I bc.up I) (tM mh2) I ?_))));intro zo rs;refine yV I I I (λh' L' hh hR=>xG I) I (yV I I I (λh' L' hh hR=>xG I) I (oX I (xI [] i underlying76 uQ rL) λzn rr=>(oX I (xA uQ rr) λzm rq=>(yV I I I (λh' L' hh hR=>xG I) I (oX I (xI zT q underlying35 zK rq) λzl rp=>(lZ (F:=λv_=>AtP (rpQ k) h4 v_ (((L.getD i []).getD q zT).y)) I I I (zJR (q:=1) 1 underlying31 sizeOf29 (y7i (y5u _)) I I I rp I dC I) j5 I ?_))))));intro zk ro;refine oX I (xA yC ro) λxx qn=>?_;refine w_c I (iT I I (sC (ev2 I I) call73 (λw hs=>sR hs rs qn oM) λng h5 lh qm=>?_));obtain rfl:ng=vB (((B2.getD j zT).y)=(((L.getD i []).getD q zT).y)):=qm;refine gc3 (λdh=>?_) λdh=>?_
     ·
      refine qE ?_;refine gqL ((j+1),h5) ?_ ?_ (he:=⟨I,I,I,I,I,I,I,I,I,I,I,zbi (λz=>some (vI z)) (fd_t ⟨zo4,dh⟩),I,y5i⟩)
      · exact⟨mle,oM⟩
      omega
     refine go8 ?_;refine gqL ((j+1),h5) ?_ ?_ (he:=⟨I,I,I,I,I,I,I,I,I,I,I,zbi (λz=>some (vI z)) (yLL (λe=>dh e.2)),I,y5i⟩)
     · exact⟨mle,oM⟩
     omega
    rw[yM dd];refine rS ?_;refine w_c I (mJ I I I I (qC ?_));refine gqL ((j+1),h4) ?_ ?_ (he:=⟨I,I,I,I,I,I,I,I,I,I,I,zbi (λz=>some (vI z)) (yLL (λe=>absurd e.1 zo4)),I,y5i⟩)
    · exact⟨mle,oM⟩
    omega
   refine zI8 (λdf=>?_) λdf=>?_
   ·
    have ej:j=B2.length:=by omega
    have cm:fdZ B2 ((L.getD i []).getD q zT)<0:=by unfold fdZ;rw[<-ej];exact df
    refine go3 ?_;refine gv (jO mh2 underlying35 I) I (go7 ?_);refine lX (xI [] i underlying76 uQ rL) λxw ql=>(lX (xA uQ ql) λxv qk=>(go1 ?_));refine lX (xI zT q underlying35 zK qk) λxu qj=>(lX (xA zK qj) λxt qi=>(zG (zL (ρ:=(tPt (k+1))) (m:=1) (xs:=[((L.getD i []).getD q zT)]) (ps':=[(0,_)]) underlying35 yK I I I (yR (yE oM)) e2z (zD I (y5e (y5u _) zT 0 dC) (qi.le (Le.t (Le.q (l:=k+1) oM))) zN) zok nP) I I I ?_))
    rintro xr yp ⟨uk,rfl,kj⟩
    refine zQ (A:=[]) (ρ:=(tPt (k+1))) kj ?_;intro h4 bz jf;refine xQ (A:=[_,_]) (uK (zR (ρ:=(tPt (k+1))) (bytes:=168) underlying35 yK I I I I nP I I bc.up jf bO bO)) I I I ?_
    rintro nf yo ⟨ta,mo,rfl,ki⟩
    refine go6 ?_;refine zG (zL (ρ:=rpI) (m:=1) (xs:=[(↑B2.length:Int)]) (ps':=[(0,_)]) underlying22 jV I I I wQ e2z (zD I (y5e (y5u _) (0:Int) 0 dC) (wM oM oM) zN) zoj nP) I I I ?_;intro ne qr lb;obtain⟨mn,rfl,db⟩:=lb;refine zQ (A:=[]) (ρ:=rpI) db ?_;intro h5 lh je;refine xQ (A:=[]) (uK (zR (ρ:=rpI) (bytes:=8) underlying22 jV I I I I nP I I cw.up je bO bO)) I I I ?_;intro eg qq la;obtain⟨lg,dp,rfl,da⟩:=la;refine go9 ?_;refine gqL ((q+1),(B2++[((L.getD i []).getD q zT)]),(LN++[(↑B2.length:Int)]),nf,mo,eg,dp,h5) ?_ ?_
    · exact⟨mle,ki.up,da,zot,by rw[dy] at cm ⊢;exact(zau cm).symm,by rw[ih,show(↑B2.length:Int)=adN (plB (ptB L i) (L.getD i []) q) ((L.getD i []).getD q zT) from by rw[dy] at cm ⊢;exact(zau cm).symm];rfl⟩
    omega
   have ej:j=B2.length:=by omega
   have cm:¬fdZ B2 ((L.getD i []).getD q zT)<0:=by unfold fdZ;rw[<-ej];exact df
   refine go5 ?_;refine zG (zL (ρ:=rpI) (m:=1) (xs:=[(j7 B2 ((L.getD i []).getD q zT) j)]) (ps':=[(0,_)]) underlying22 jV I I I wQ e2z (zD I (y5e (y5u _) (0:Int) 0 dC) (wM oM oM) zN) zoj nP) I I I ?_
   rintro ne qr ⟨mn,rfl,db⟩
   refine zQ (A:=[]) (ρ:=rpI) db ?_;intro h4 bz jd;refine xQ (A:=[]) (uK (zR (ρ:=rpI) (bytes:=8) underlying22 jV I I I I nP I I cw.up jd bO bO)) I I I ?_
   rintro eg qq ⟨lg,dp,rfl,da⟩
   refine go9 ?_;refine gqL ((q+1),B2,(LN++[(j7 B2 ((L.getD i []).getD q zT) j)]),O,bf,eg,dp,h4) ?_ ?_
   · exact⟨mle,bc.up,da,zot,by rw[dy] at cm ⊢;exact(zae cm).symm,by rw[ih,show j7 B2 ((L.getD i []).getD q zT) j=adN (plB (ptB L i) (L.getD i []) q) ((L.getD i []).getD q zT) from by rw[ej,dy] at *;exact(zae cm).symm];rfl⟩
   omega
  have ek:q=(L.getD i []).length:=by omega
  refine go9 ?_;refine zQ (A:=[]) (ρ:=rpI) cw.up ?_;intro h4 bz bw;refine zG (zL (ρ:=(rpS rpI)) (m:=1) (xs:=[LN]) (ps':=[(0,_)]) underlying51 jF I I I wC e2z (zD I (y5e (y5u _) [] 0 dC) bw zN) zoj nP) I I I ?_
  rintro xq yn ⟨uj,rfl,kh⟩
  refine zQ (A:=[]) (ρ:=(rpS rpI)) kh ?_;intro h5 lh jc;refine xQ (A:=[]) (uK (zR (ρ:=(rpS rpI)) (bytes:=24) underlying51 jF I I I I nP I I av.up jc bO bO)) I I I ?_
  rintro ee ym ⟨sy,fs,rfl,kg⟩
  refine go9 ?_;refine gcL (ι:=Nat×List (List Int)×Value×List Value×Mem) (λ(e,E2,bk,ce,me)=>(MLe h5 me/\(RL (rpA 2 rpI) me ce E2/\e<=LN.length/\E2.length=iL L i+e),[(0,vL),(4,vP b4 0),(5,vP b5 0),(6,vP b6 0),(10,vP bb 0),(11,bk),(12,O),(13,ee),(14,vI ↑i),(15,az),(19,vI ↑e)],[.gs 22 1 ee (II++[LN]).length fs,.gs 31 9 O B2.length bf,.gs 118 2 bk E2.length ce,.var bb 39 ct,.var b6 39 co,.var b5 29 cp,.var b4 29 cq],me,LN.length-e)) (0,ED,ab,an,h5) ?_ ?_
  · exact⟨mle,jp.up,zot,rc⟩
  rintro⟨e,E2,bk,ce,me⟩ ⟨yu,en,qx,tp⟩
  refine yY ?_;have hp:=ck.2 i oM;refine gc9 (λlr=>?_) λlr=>?_
  ·
   refine go4 ?_;refine qJ (A:=[_,_]) 17 [] (zai 0 14 [(14,.c),(15,.c),(16,.q)]) zX nX (wL zou) nX (go3 ?_);refine wX I (xI (0:Int) e underlying22 ty3 bw) λxp qh=>(wX I (xA ty3 qh) λxo qg=>?_);obtain⟨rfl,tf,sq⟩:=kX qg;refine go4 ?_;refine w_q I (λh' L' hh hR=>jN underlying22 I (bw.up.mono hh)) I (wZ I (λ_ _=>wI I I oM oM) I (wX I (xI (0:Int) ((e+1)%LN.length) underlying22 ty3 bw (hi:=by exact zcu _ oM)) λxn qf=>(wX I (xA ty3 qf) λxm qe=>?_)));obtain⟨rfl,te,sp⟩:=kX qe;refine wX I (xV (ρ:=(rpA 2 rpI)) (xS (ps':=[(0,_),(1,_)]) underlying118 zCD I I sizeOf3 e4z I (zM7 2 wQ) (zD I (y5e (y5u _) (0:Int) 0 dC) (wM oM oM) (zD I (y5e (y5u _) (0:Int) 1 dC) (wM oM oM) zN)))) λxl qd=>?_;refine w_c I (jR (λX=>zL (ρ:=(rpA 2 rpI)) (m:=1) (xs:=[[(LN.getD e (0:Int)),(LN.getD ((e+1)%LN.length) (0:Int))]]) (ps':=[(0,_)]) underlying117 zCD I I I (zM7 2 wQ) e2z (zD I (y5e (y5u _) (List.replicate 2 (0:Int)) 0 dC) qd zN) (show 1*2<=16777216 from by decide) nP) I ?_)
   rintro xk yl ⟨ui,rfl,kf⟩
   refine w_c I (xY (A:=[]) (ρ:=(rpA 2 rpI)) kf dK ?_);intro h6 th jb;refine fK (A:=[_,_]) (λX=>uK (zR (ρ:=(rpA 2 rpI)) (bytes:=16) underlying117 zCD I I I I nP I I en.up jb bO bO)) I (xO zoy) ?_
   rintro nd yk ⟨sx,mm,rfl,ke⟩
   refine go9 ?_;refine gqL ((e+1),(E2++[[(LN.getD e (0:Int)),(LN.getD ((e+1)%LN.length) (0:Int))]]),nd,mm,h6) ?_ ?_
   · exact⟨mle,ke,zot,by rw[lAz,tp];rfl⟩
   omega
  have to:E2.length=iL L i+LN.length:=by omega
  refine qE ?_;refine gqL ((i+1),E2,B2,(II++[LN]),bk,ce,O,bf,ee,fs,me) ?_ ?_
  · exact⟨mle,en.up,bc.up,kg.up,zot,by rw[to,tn,ek];rfl,by rw[dy,ek];rfl,by rw[br,ih,ek];rfl⟩
  omega
 have ei:i=L.length:=by omega
 have ti:=li L.length oM;rw[ei] at rc be br;have hI1:II.length=L.length:=by rw[br];exact yW _ _
 have lt:∀i,i<L.length->(II.getD i []).length=(L.getD i []).length:=λi hi=>by rw[br];exact zM5 hi
 have fe:∀i q,i<L.length->q<(II.getD i []).length->0<=(II.getD i []).getD q 0/\(II.getD i []).getD q 0<↑M.length:=λi q hi hq=>by rw[br] at hq ⊢;rw[be];exact zP3 hi hq
 refine go8 ?_;refine gv (jO mh1 underlying35 I) I (go7 ?_);refine gv (gK (p:=2) I I oM oM) I (go1 ?_);refine gU 6 158 (vB (((512:Int)<((2:Int)*(↑M.length:Int)))\/((256:Int)<((↑ED.length:Int)+(2:Int))))) ?_ ?_
 ·
  refine zY ((512:Int)<((2:Int)*(↑M.length:Int))) (λhg=>?_) (λhg=>?_)
  ·
   refine gT hg I (go6 ?_);refine gqU ?_;exact y4e (uH hg)
  refine gF hg I (go3 ?_);refine gv (jO mh2 underlying117 I) I (go6 ?_);refine gqU ?_;exact y4e (uJ hg)
 refine gc2 (λln=>?_) λln=>?_
 ·
  have lc:prB L:=by unfold prB;show 512<2*(ptB L L.length).length\/_;rw[<-be];omega
  refine go2 ?_;refine lX (xV (ρ:=(rpP (tLs 1) (rpP rpV (rpS (rpP rpI (rpP rpI (rpQ 1))))))) (xN (ps':=[]) underlying39 qQ I I (sM underlying39) trivial I (yA wC (yA fD wC)) zN)) λxj qc=>(zP (A:=[_,_,_,_]) (uB sizeOf39 pH eq qc) λtv ks=>(go5 ?_));obtain⟨e1,e2,e3⟩:=pr_2 fi (zdi cn) dv lc;rw[e1,e2,e3];refine aT 53 14 ?_;have jn:=RL.nil (ρ:=rpP (tPl (1000*k+1000*l1+1000*l2+2000) (1000*k+1000*l1+1000*l2+2000)) (rpP tII qF)) (h:=ma);refine wG (jG (t:=6) jP mh5 I ks) ?_;intro ul hu jg;refine kV (.cons_cons _ (zse _)) (λE S=>qO I hu (gH I) E S) ?_;exact⟨_,_,_,I,(Rp.Is.le jg (Le.p (Le.s (Le.t (Le.q (l:=k+l1+l2+20) oM))) (Le.p (Le.refl _) (Le.s (Le.p (Le.refl _) (Le.p (Le.refl _) (Le.q (l:=5) dC))))))),I,I,jn⟩
 have lc:¬prB L:=by unfold prB;show ¬(512<2*(ptB L L.length).length\/_);rw[<-be];omega
 obtain⟨qy,qx,tj⟩:=yNI fi (zdi cn) dv lc;refine go9 ?_;refine xJ 31 9 ?_;have jm:=RL.nil (ρ:=rpT (rpQ (k+l1+l2+5))) (h:=ma);refine gcL (ι:=Nat×List Tq×List Value×Value×List Value×Mem) (λ(i,PP,bv,bo,dk,mp)=>(MLe ma mp/\((rpP rpV (rpP rpV (rpS (rpP rpI (rpP rpI (rpQ 1)))))).R mp bv (bo,(Value.slice none 0 0,[]))/\RL (tPt (k+l1+l2+5)) mp dk PP/\bo.oneCell'=true/\i<=2*M.length/\PP=zV0 L lo hi i),[(4,vP b4 0),(5,vP b5 0),(6,vP b6 0),(10,vP bb 0),(12,D),(13,C),(20,vI (↑M.length:Int)),(21,vI ↑i)],[.gs 31 9 bo PP.length dk,.gs 22 1 C II.length aq,.gs 31 9 D M.length ay,.gs 118 2 ab ED.length an,.var bb 39 bv,.var b6 39 co,.var b5 29 cp,.var b4 29 cq],mp,2*M.length-i)) (0,[],ct,(.slice none 0 0),[],ma) ?_ ?_
 · exact⟨mle,ns.up,jm,I,zot,I⟩
 rintro⟨i,PP,bv,bo,dk,mp⟩ ⟨yr,aj,cu,sv,hi2,ig⟩
 refine yY ?_;have hPl:PP.length=i:=by rw[ig];exact yW _ _
 refine go5 ?_;refine gv (gK (p:=2) I I oM oM) I (gc3 (λlm=>?_) λlm=>?_)
 ·
  refine go6 ?_;refine lX (xB yC pH kw) λxi qb=>(nA (ρ:=(rpQ 1)) (X:=(0:Rat)) xU (yE dC) λb22 zh nr=>?_);have ix:=(Le.q (l:=l1+1) oM).R nr;refine zP (A:=[]) (uB sizeOf29 pH ix (qb.le (Le.q (l:=l1+1) oM))) λtu ep=>(zAY (λde=>?_) λde=>?_)
  ·
   refine go1 ?_;refine lX (xB yC pH kv) λxh qa=>?_;have iw:=(Le.q (l:=l1+l2+1) oM).R ep;refine zP (A:=[]) (uB sizeOf29 pH iw (qa.le (Le.q (l:=l1+l2+1) oM))) λtt kr=>(go2 ?_);refine qJ (A:=[_]) 21 [] (zai 0 18 [(18,.c),(19,.c),(20,.q),(21,.t)]) zX nX (wL zou) nX (go1 ?_);refine wX I (sN (xB uQ (y6i pH) aj)) λnc fb=>?_;subst fb;refine go3 ?_;refine wZ I (λ_ _=>wI I I oM oM) I (w_q I (λh' L' hh hR=>(yZ (i%M.length) (hR _ mh2) underlying35 sizeOf31 I I rP (by exact zcu _ oM) nP).cv (show _=zI 1 D (((i%M.length)*9+0)) from zbi (zI 1 D) zo5)) I (w_q I (λh' L' hh hR=>(sZ (sz:=3) (q:=0) 0 (y5e (y5u _) zT (i%M.length) (by exact zcu _ oM)) I nP (ao.up.mono hh) (hR _ mh2) underlying31 sizeOf29 I I I dC).cv (show _=zI 1 D (((i%M.length)*9+0)) from zbi (zI 1 D) (by show((i%M.length)*9+0)+0*3=((i%M.length)*9+0);omega))) I (cY (F:=λv_=>(rpQ (k+1)).Is mp v_ ((M.getD (i%M.length) zT).x)) I (wO yC (y5e (y6e (y5u _)) zT (i%M.length) (by exact zcu _ oM)) I nP I ao.up I) (tM mh2) I ?_)));intro nb fa;refine go3 ?_;refine wZ I (λ_ _=>wI I I oM oM) I (w_q I (λh' L' hh hR=>(yZ (i%M.length) (hR _ mh2) underlying35 sizeOf31 I I rP (by exact zcu _ oM) nP).cv (show _=zI 1 D (((i%M.length)*9+0)) from zbi (zI 1 D) zo5)) I (w_q I (λh' L' hh hR=>(sZ (sz:=3) (q:=1) 1 (y5e (y5u _) zT (i%M.length) (by exact zcu _ oM)) I nP (ao.up.mono hh) (hR _ mh2) underlying31 sizeOf29 I I I dC).cv (show _=zI 1 D (((i%M.length)*9+3)) from zbi (zI 1 D) (by show((i%M.length)*9+0)+1*3=((i%M.length)*9+3);omega))) I (cY (F:=λv_=>(rpQ (k+1)).Is mp v_ ((M.getD (i%M.length) zT).y)) I (wO yC (y5e (y7i (y5u _)) zT (i%M.length) (by exact zcu _ oM)) I nP I ao.up I) (tM mh2) I ?_)));intro na ez;refine wX I (xB yC pH kr) λmz ey=>(wX I (xV (ρ:=(tPt (k+l1+l2+1))) (xS (ps':=[(0,_),(1,_),(2,_)]) underlying31 yK I I sizeOf29 e6 I (yR (yE oM)) (zD I (y6e (y5u _)) (fa.le (Le.q (l:=k+l1+l2+1) oM)) (zD I (y7i (y5u _)) (ez.le (Le.q (l:=k+l1+l2+1) oM)) (zD I (y7u (y5u _)) (ey.le (Le.q (l:=k+l1+l2+1) oM)) zN))))) λmy ew=>?_);refine w_c I (jR (λX=>zL (ρ:=(tPt (k+l1+l2+1))) (m:=1) (xs:=[(T3.mk ((M.getD (i%M.length) zT).x) ((M.getD (i%M.length) zT).y) hi)]) (ps':=[(0,_)]) underlying35 yK I I I (yR (yE oM)) e2z (zD I (y5e (y5u _) zT 0 dC) ew zN) zok nP) I ?_)
   rintro mx qp ⟨ml,rfl,cz⟩
   refine w_c I (xY (A:=[]) (ρ:=(tPt (k+l1+l2+1))) cz dK ?_);intro h4 bz ja;refine fK (A:=[_]) (λX=>uK (zR (ρ:=(tPt (k+l1+l2+5))) (bytes:=168) underlying35 yK I I I I nP I I cu.up (ja.le (Le.s (Le.t (Le.q (l:=k+l1+l2+5) oM)))) bO bO)) I (xO zoy) ?_
   rintro ed qo ⟨bq,dn,rfl,cy⟩
   refine go1 ?_;replace aj:=aj.mono bz;refine yG (A:=[_,_,_,_,_]) I (uB sizeOf35 (y6i pH) aj (eH bq)) λmg ko=>(go8 ?_);refine xK (A:=[]) ?_;refine gqL ((i+1),(PP++[(T3.mk ((M.getD (i%M.length) zT).x) ((M.getD (i%M.length) zT).y) hi)]),mg,ed,dn,h4) ?_ ?_
   · exact⟨mle,ko,cy,bq,zot,by rw[ig,be];exact zbi (λz=>zV0 L lo hi i++[T3.mk _ _ z]) (zau (by have h9:=de;rw[be] at h9;exact h9)).symm⟩
   omega
  refine go2 ?_;refine qJ (A:=[_]) 21 [] (zai 0 18 [(18,.c),(19,.c),(20,.q),(21,.t)]) zX nX (wL zou) nX (go1 ?_);refine wX I (sN (xB uQ (y6i pH) aj)) λnc fb=>?_;subst fb;refine go3 ?_;refine wZ I (λ_ _=>wI I I oM oM) I (w_q I (λh' L' hh hR=>(yZ (i%M.length) (hR _ mh2) underlying35 sizeOf31 I I rP (by exact zcu _ oM) nP).cv (show _=zI 1 D (((i%M.length)*9+0)) from zbi (zI 1 D) zo5)) I (w_q I (λh' L' hh hR=>(sZ (sz:=3) (q:=0) 0 (y5e (y5u _) zT (i%M.length) (by exact zcu _ oM)) I nP (ao.up.mono hh) (hR _ mh2) underlying31 sizeOf29 I I I dC).cv (show _=zI 1 D (((i%M.length)*9+0)) from zbi (zI 1 D) (by show((i%M.length)*9+0)+0*3=((i%M.length)*9+0);omega))) I (cY (F:=λv_=>(rpQ (k+1)).Is mp v_ ((M.getD (i%M.length) zT).x)) I (wO yC (y5e (y6e (y5u _)) zT (i%M.length) (by exact zcu _ oM)) I nP I ao.up I) (tM mh2) I ?_)));intro nb fa;refine go3 ?_;refine wZ I (λ_ _=>wI I I oM oM) I (w_q I (λh' L' hh hR=>(yZ (i%M.length) (hR _ mh2) underlying35 sizeOf31 I I rP (by exact zcu _ oM) nP).cv (show _=zI 1 D (((i%M.length)*9+0)) from zbi (zI 1 D) zo5)) I (w_q I (λh' L' hh hR=>(sZ (sz:=3) (q:=1) 1 (y5e (y5u _) zT (i%M.length) (by exact zcu _ oM)) I nP (ao.up.mono hh) (hR _ mh2) underlying31 sizeOf29 I I I dC).cv (show _=zI 1 D (((i%M.length)*9+3)) from zbi (zI 1 D) (by show((i%M.length)*9+0)+1*3=((i%M.length)*9+3);omega))) I (cY (F:=λv_=>(rpQ (k+1)).Is mp v_ ((M.getD (i%M.length) zT).y)) I (wO yC (y5e (y7i (y5u _)) zT (i%M.length) (by exact zcu _ oM)) I nP I ao.up I) (tM mh2) I ?_)));intro na ez;refine wX I (xB yC pH ep) λmz ey=>(wX I (xV (ρ:=(tPt (k+l1+1))) (xS (ps':=[(0,_),(1,_),(2,_)]) underlying31 yK I I sizeOf29 e6 I (yR (yE oM)) (zD I (y6e (y5u _)) (fa.le (Le.q (l:=k+l1+1) oM)) (zD I (y7i (y5u _)) (ez.le (Le.q (l:=k+l1+1) oM)) (zD I (y7u (y5u _)) (ey.le (Le.q (l:=k+l1+1) oM)) zN))))) λmy ew=>?_);refine w_c I (jR (λX=>zL (ρ:=(tPt (k+l1+1))) (m:=1) (xs:=[(T3.mk ((M.getD (i%M.length) zT).x) ((M.getD (i%M.length) zT).y) lo)]) (ps':=[(0,_)]) underlying35 yK I I I (yR (yE oM)) e2z (zD I (y5e (y5u _) zT 0 dC) ew zN) zok nP) I ?_)
  rintro mx qp ⟨ml,rfl,cz⟩
  refine w_c I (xY (A:=[]) (ρ:=(tPt (k+l1+1))) cz dK ?_);intro h4 bz iz;refine fK (A:=[_]) (λX=>uK (zR (ρ:=(tPt (k+l1+l2+5))) (bytes:=168) underlying35 yK I I I I nP I I cu.up (iz.le (Le.s (Le.t (Le.q (l:=k+l1+l2+5) oM)))) bO bO)) I (xO zoy) ?_
  rintro ed qo ⟨bq,dn,rfl,cy⟩
  refine go1 ?_;replace aj:=aj.mono bz;refine yG (A:=[_,_,_,_,_]) I (uB sizeOf35 (y6i pH) aj (eH bq)) λmc kn=>(go8 ?_);refine xK (A:=[]) ?_;refine gqL ((i+1),(PP++[(T3.mk ((M.getD (i%M.length) zT).x) ((M.getD (i%M.length) zT).y) lo)]),mc,ed,dn,h4) ?_ ?_
  · exact⟨mle,kn,cy,bq,zot,by rw[ig,be];exact zbi (λz=>zV0 L lo hi i++[T3.mk _ _ z]) (zae (by have h9:=de;rw[be] at h9;exact h9)).symm⟩
  omega
 have fo:PP=ppZ L lo hi:=by rw[ig,show i=2*M.length by omega,be];rfl
 have za:PP.length=2*M.length:=by rw[fo,be];exact zQ2
 refine go7 ?_;refine zQ (A:=[]) (ρ:=(tPt (k+l1+l2+5))) cu.up ?_;intro h4 bz iy;replace aj:=aj.mono bz;have km:(rpP (tLs (k+l1+l2+5)) (rpP rpV (rpS (rpP rpI (rpP rpI (rpQ 1)))))).R h4 bv (PP,(bo,(Value.slice none 0 0,[])).2):=yD9 aj iy;refine cL (vs:=[vI (1)]) ⟨I,y5i⟩ call27 (λw hs=>qP hs dC dC) λxg h5 lh pz=>(nA (ρ:=(rpQ 2)) (X:=(0:Rat)) xU (yE dC) λms zg nq=>(zP (A:=[]) (uB sizeOf29 pH nq pz) λdj eo=>(go3 ?_)));refine zJ 10 _ [(9,(24,53,[.bool false,.slice none 0 0,.slice none 0 0,.bool false,.slice none 0 0,.slice none 0 0,.bool false,.slice none 0 0,.slice none 0 0,.bool false,.slice none 0 0,.slice none 0 0,.slice none 0 0,.string ⟨#[]⟩]))] [(0,.q),(1,.q),(2,.q),(5,.q),(3,.c),(4,.q),(6,.c),(7,.q),(8,.q),(9,.a),(10,.t)] zX (jD.cons I I (uM jK I I) jD.nil) zou (uN I I kF) (λr hr=>hr) (wX I (xV (ρ:=(rpQ 1)) (xN (ps':=[]) underlying29 xU I I (qG underlying29) trivial I (yE dC) zN)) λxf py=>(wX I (xV (ρ:=(rpQ 1)) (xN (ps':=[]) underlying29 xU I I (qG underlying29) trivial I (yE dC) zN)) λxe px=>(wX I (xB yC pH eo) λxd pw=>(wX I (xB yC pH kw) λxa pt=>?_))));refine w_c I (sC (ev1 I) call87 (λw hs=>oV hs pw dC) λxc h6 th pv=>(wX I (xV (ρ:=(tPt 2)) (xS (ps':=[(0,_),(1,_),(2,_)]) underlying31 yK I I sizeOf29 e6 I (yR (yE dC)) (zD I (y6e (y5u _)) (py.up.le (Le.q (l:=2) dC)) (zD I (y7i (y5u _)) (px.up.le (Le.q (l:=2) dC)) (zD I (y7u (y5u _)) pv zN))))) λxb pu=>?_));refine w_c I (sC (ev1 I) call87 (λw hs=>oV hs pt.up oM) λwz h7 hh7 pq=>(wX I (xV (ρ:=(tPl 2 (l1+1))) (xN (ps':=[(0,_),(1,_)]) underlying50 rK I I (sL underlying50) e4z I (yA (yR (yE dC)) (yE oM)) (zD I (y6i (y5u _)) pu.up (zD I (y6u (y5u _)) (pq.le (Le.q (l:=l1+1) oM)) zN)))) λwy pp=>(wX I (xV (ρ:=(rpP (tPl 2 (l1+1)) (rpP rpV qF))) (xN (ps':=[(0,_),(2,_)]) underlying53 jK I I (bT underlying53) e4z I (yA (yA (yR (yE dC)) (yE oM)) (yA fD gS)) (zD I (y6i (y5u _)) pp (zD I (y6u (y6u (y5u _))) (bK (show ByB [98,111,116,116,111,109] by unfold ByB;decide)) zN)))) λwx po=>?_)));refine w_a I I (λea=>?_);have np:(rpP (tPl 1 1) (rpP rpV qF)).R h7 [.bool false,.slice none 0 0,.slice none 0 0,.bool false,.slice none 0 0,.slice none 0 0,.bool false,.slice none 0 0,.slice none 0 0,.bool false,.slice none 0 0,.slice none 0 0,.slice none 0 0,.string ⟨#[]⟩] ((zT,(0:Rat)),((Value.slice none 0 0),([]:List Nat))):=(yA (yA (yR (yE dC)) (yE dC)) (yA fD gS));have iv:=(Le.p (Le.p (Le.t (Le.q (l:=2) dC)) (Le.q (l:=l1+1) oM)) (Le.refl _)).R np;refine yG (A:=[]) I (uB sizeOf53 pH iv po) λlz kl=>(go4 ?_);refine lX (xV (ρ:=(rpQ 1)) (xN (ps':=[]) underlying29 xU I I (qG underlying29) trivial I (yE dC) zN)) λww pn=>(lX (xV (ρ:=(rpQ 1)) (xN (ps':=[]) underlying29 xU I I (qG underlying29) trivial I (yE dC) zN)) λwv pm=>(lX (xB yC pH eo) λwu pk=>(lX (xV (ρ:=(tPt 2)) (xS (ps':=[(0,_),(1,_),(2,_)]) underlying31 yK I I sizeOf29 e6 I (yR (yE dC)) (zD I (y6e (y5u _)) (pn.le (Le.q (l:=2) dC)) (zD I (y7i (y5u _)) (pm.le (Le.q (l:=2) dC)) (zD I (y7u (y5u _)) pk zN))))) λwt pj=>(lX (xB yC pH kv) λws pi=>(lX (xV (ρ:=(tPl 2 (l2+1))) (xN (ps':=[(0,_),(1,_)]) underlying50 rK I I (sL underlying50) e4z I (yA (yR (yE dC)) (yE oM)) (zD I (y6i (y5u _)) pj (zD I (y6u (y5u _)) (pi.le (Le.q (l:=l2+1) oM)) zN)))) λwq ph=>(lX (xV (ρ:=(rpP (tPl 2 (l2+1)) (rpP rpV qF))) (xN (ps':=[(0,_),(2,_)]) underlying53 jK I I (bT underlying53) e4z I (yA (yA (yR (yE dC)) (yE oM)) (yA fD gS)) (zD I (y6i (y5u _)) ph (zD I (y6u (y6u (y5u _))) (bK (show ByB [116,111,112] by unfold ByB;decide)) zN)))) λwp pg=>(nA (ρ:=(rpP (tPl 1 1) (rpP rpV qF))) (X:=((zT,(0:Rat)),((Value.slice none 0 0),([]:List Nat)))) jK (yA (yA (yR (yE dC)) (yE dC)) (yA fD gS)) λdz zf no=>?_)))))));have iu:=(Le.p (Le.p (Le.t (Le.q (l:=2) dC)) (Le.q (l:=l2+1) oM)) (Le.refl _)).R no
 refine zP (A:=[]) (uB sizeOf53 pH iu pg) λly kk=>(go9 ?_);refine xJ 53 14 ?_;have jl:=RL.nil (ρ:=rpP (tPl (4*k+4*l1+4*l2+40) (100*k+100*l1+100*l2+1000)) (rpP tII qF)) (h:=h7);refine xJ 22 1 ?_;have jk:=RL.nil (ρ:=rpS rpI) (h:=h7);refine xJ 22 1 ?_;have jj:=RL.nil (ρ:=rpS rpI) (h:=h7);refine gcL (ι:=Nat×List Fc×List (List Int)×List (List Int)×List Value×List Value×List Value×Value×List Value×Value×List Value×Value×List Value×Mem) (λ(i,F0,C0,T0,bu,cd,bt,au,bs,ak,di,ai,cc,mq)=>(MLe h7 mq/\((rpP (tLs (k+l1+l2+5)) (rpP rpV (rpS (rpP rpI (rpP rpI (rpQ 1)))))).R mq bu (PP,(au,([]:List En)))/\(rpP (tPl 5 (l1+l2+5)) (rpP rpV qF)).R mq cd ((T3.mk (0:Rat) (0:Rat) (-((1:Int):Rat)),-lo),(ak,[98,111,116,116,111,109]))/\(rpP (tPl 5 (l1+l2+5)) (rpP rpV qF)).R mq bt ((T3.mk (0:Rat) (0:Rat) ((1:Int):Rat),hi),(ai,[116,111,112]))/\RL (tFc (4*k+4*l1+4*l2+40) (100*k+100*l1+100*l2+1000)) mq bs F0/\au.oneCell'=true/\RL (rpS rpI) mq di C0/\ak.oneCell'=true/\RL (rpS rpI) mq cc T0/\ai.oneCell'=true/\i<=II.length/\C0=yDK L i/\T0=zYE L i/\F0=zNO L lo hi i),[(6,vP b6 0),(10,vP bb 0),(13,C),(20,vI (↑M.length:Int)),(24,vP ea 0),(25,vP dz 0),(26,vI ↑i)],[.gs 22 1 ai T0.length cc,.gs 22 1 ak C0.length di,.gs 53 14 au F0.length bs,.var dz 53 bt,.var ea 53 cd,.var ms 29 dj,.gs 22 1 C II.length aq,.gs 31 9 D M.length ay,.gs 118 2 ab ED.length an,.var bb 39 bu,.var b6 39 co,.var b5 29 cp,.var b4 29 cq],mq,II.length-i)) (0,[],[],[],bv,lz,ly,(.slice none 0 0),[],(.slice none 0 0),[],(.slice none 0 0),[],h7) ?_ ?_
 · exact⟨mle,km.up,((Le.p (Le.p (Le.t (Le.q (l:=5) dC)) (Le.q (l:=l1+l2+5) oM)) (Le.refl _)).R kl),((Le.p (Le.p (Le.t (Le.q (l:=5) dC)) (Le.q (l:=l1+l2+5) oM)) (Le.refl _)).R kk),jl,I,jk,I,jj,I,zot,I,I,I⟩
 rintro⟨i,F0,C0,T0,bu,cd,bt,au,bs,ak,di,ai,cc,mq⟩ ⟨yq,dc,bd,ap,em,ld,el,su,eh,re,hi3,ij,ie,ii⟩
 refine yY ?_;have hCl:C0.length=i:=by rw[ij];exact yW _ _
 have hTl:T0.length=i:=by rw[ie];exact yW _ _
 have hFl:F0.length=iL L i:=by rw[ii];exact zYZ oM
 have qw:=li i oM;refine go5 ?_;refine gv (jO mh6 underlying51 I) I (gc3 (λll=>?_) λll=>?_)
 ·
  have iq:=lt i oM;have hp:=ck.2 i oM;refine go5 ?_;refine qJ (A:=[_]) 10 [] (zai 0 6 [(6,.c),(7,.c),(8,.c),(9,.q),(10,.t)]) zX nX zou nX (go1 ?_);refine wX I (sN (xB cC (y6u (y6i pH)) bd)) λwo pf=>?_;subst pf;refine go2 ?_;refine w_q I (λh' L' hh hR=>(yZ i (hR _ mh5) underlying51 sizeOf22 I I I bO nP).cv (show _=zI 1 C ((i*1+0)) from zbi (zI 1 C) zo5)) I (cY (F:=λv_=>(rpS rpI).Is mq v_ (II.getD i [])) I (wO fL (y5e (y5u _) [] i bO) I nP I av.up I) (tM mh5) I ?_);intro wm pe;refine w_c I (sC (ev1 I) call67 (λw hs=>zEP hs pe oM) λwl h8 fj pd=>?_);refine w_c I (jR (λX=>zL (ρ:=(rpS rpI)) (m:=1) (xs:=[lD (II.getD i []) (II.getD i []).length]) (ps':=[(0,_)]) underlying51 jF I I I wC e2z (zD I (y5e (y5u _) [] 0 dC) pd zN) zoj nP) I ?_)
  rintro wk yj ⟨uh,rfl,kd⟩
  refine w_c I (xY (A:=[]) (ρ:=(rpS rpI)) kd dK ?_);intro h9 id gt;refine fK (A:=[_]) (λX=>uK (zR (ρ:=(rpS rpI)) (bytes:=24) underlying51 jF I I I I nP I I el.up gt bO bO)) I (xO zoy) ?_
  rintro ec yi ⟨fh,dm,rfl,kc⟩
  refine go1 ?_;replace bd:=bd.mono (fj.trans id);refine yG (A:=[_,_,_,_]) I (uB sizeOf51 (y6u (y6i pH)) bd (eH fh)) λch ho=>(sH ?_);refine xJ 3 1 ?_;have gw:=RL.nil (ρ:=rpI) (h:=h9);refine gcL (ι:=Nat×List Int×Value×List Value×Mem) (λ(q,TL,bp,cg,mr)=>(MLe h9 mr/\(RL rpI mr cg TL/\q<=(II.getD i []).length/\TL=tpL L i q),[(6,vP b6 0),(10,vP bb 0),(13,C),(20,vI (↑M.length:Int)),(24,vP ea 0),(25,vP dz 0),(26,vI ↑i),(27,bp),(28,vI ↑q)],[.gs 3 1 bp TL.length cg,.gs 22 1 ai T0.length cc,.gs 22 1 ec (C0++[lD (II.getD i []) (II.getD i []).length]).length dm,.gs 53 14 au F0.length bs,.var dz 53 bt,.var ea 53 ch,.var ms 29 dj,.gs 22 1 C II.length aq,.gs 31 9 D M.length ay,.gs 118 2 ab ED.length an,.var bb 39 bu,.var b6 39 co,.var b5 29 cp,.var b4 29 cq],mr,(II.getD i []).length-q)) (0,[],(.slice none 0 0),[],h9) ?_ ?_
  · exact⟨mle,gw,zot,I⟩
  rintro⟨q,TL,bp,cg,mr⟩ ⟨qs,dr,hq2,ls⟩
  refine yY ?_;have yz:TL.length=q:=by rw[ls];exact yW _ _
  have iq:=lt i oM;have hp:=ck.2 i oM;refine go6 ?_;refine gv ((yZ i mh7 underlying51 sizeOf22 I I I bO nP).cv (show _=zI 1 C ((i*1+0)) from zbi (zI 1 C) zo5)) I (zI5 (F:=λv_=>(rpS rpI).Is mr v_ (II.getD i [])) (wO fL (y5e (y5u _) [] i bO) I nP I av.up I) (tM mh7) I ?_);intro wj xz;refine gc4 (λlk=>?_) λlk=>?_
  ·
   have sr:=fe i q oM oM;refine go8 ?_;refine gv ((yZ i mh7 underlying51 sizeOf22 I I I bO nP).cv (show _=zI 1 C ((i*1+0)) from zbi (zI 1 C) zo5)) I (zI5 (F:=λv_=>(rpS rpI).Is mr v_ (II.getD i [])) (wO fL (y5e (y5u _) [] i bO) I nP I av.up I) (tM mh7) I ?_);intro wi pc;refine go1 ?_;refine lX (xI (0:Int) q underlying22 ty3 pc) λwh oz=>(lX (xA ty3 oz) λwg oy=>?_);obtain⟨rfl,td,so⟩:=kX oy;refine go1 ?_;refine gv (yD I I (by(have:=fe i q oM oM;omega)) (by(have:=fe i q oM oM;omega))) I (zG (zL (ρ:=rpI) (m:=1) (xs:=[(((II.getD i []).getD q (0:Int))+(↑M.length:Int))]) (ps':=[(0,_)]) underlying22 jV I I I wQ e2z (zD I (y5e (y5u _) (0:Int) 0 dC) (wM oM oM) zN) zoj nP) I I I ?_)
   rintro wf yh ⟨ug,rfl,kb⟩
   refine zQ (A:=[]) (ρ:=rpI) kb ?_;intro lw fl gr;refine xQ (A:=[]) (uK (zR (ρ:=rpI) (bytes:=8) underlying22 jV I I I I nP I I dr.up gr bO bO)) I I I ?_
   rintro mw yg ⟨sw,mi,rfl,ka⟩
   refine go9 ?_;refine gqL ((q+1),(TL++[(((II.getD i []).getD q (0:Int))+(↑M.length:Int))]),mw,mi,lw) ?_ ?_
   · exact⟨mle,ka,zot,by rw[ls,br,be];rfl⟩
   omega
  have ek:q=(II.getD i []).length:=by omega
  refine go8 ?_;replace ap:=ap.mono ((fj.trans id).trans qs);refine lX (sN (xB cC (y6u (y6i pH)) ap)) λwe ox=>?_;subst ox;refine go1 ?_;refine zQ (A:=[]) (ρ:=rpI) dr.up ?_;intro lw fl gq;refine zG (zL (ρ:=(rpS rpI)) (m:=1) (xs:=[TL]) (ps':=[(0,_)]) underlying51 jF I I I wC e2z (zD I (y5e (y5u _) [] 0 dC) gq zN) zoj nP) I I I ?_
  rintro wd yf ⟨uf,rfl,jz⟩
  refine zQ (A:=[]) (ρ:=(rpS rpI)) jz ?_;intro fq fk go;refine xQ (A:=[]) (uK (zR (ρ:=(rpS rpI)) (bytes:=24) underlying51 jF I I I I nP I I eh.up go bO bO)) I I I ?_
  rintro ip ye ⟨fg,fr,rfl,jy⟩
  refine go1 ?_;replace ap:=ap.mono (fl.trans fk);refine zP (A:=[_,_,_]) (uB sizeOf51 (y6u (y6i pH)) ap (eH fg)) λdx hn=>(go8 ?_);refine gcL (ι:=Nat×List Fc×List Value×Value×List Value×Mem) (λ(q,F1,bn,ac,bm,mf)=>(MLe fq mf/\((rpP (tLs (k+l1+l2+5)) (rpP rpV (rpS (rpP rpI (rpP rpI (rpQ 1)))))).R mf bn (PP,(ac,([]:List En)))/\RL (tFc (4*k+4*l1+4*l2+40) (100*k+100*l1+100*l2+1000)) mf bm F1/\ac.oneCell'=true/\q<=(II.getD i []).length/\F1=zNO L lo hi i++sfX L lo hi i q),[(6,vP b6 0),(10,vP bb 0),(13,C),(20,vI (↑M.length:Int)),(24,vP ea 0),(25,vP dz 0),(26,vI ↑i),(29,vI ↑q)],[.gs 22 1 ip (T0++[TL]).length fr,.gs 22 1 ec (C0++[lD (II.getD i []) (II.getD i []).length]).length dm,.gs 53 14 ac F1.length bm,.var dz 53 dx,.var ea 53 ch,.var ms 29 dj,.gs 22 1 C II.length aq,.gs 31 9 D M.length ay,.gs 118 2 ab ED.length an,.var bb 39 bn,.var b6 39 co,.var b5 29 cp,.var b4 29 cq],mf,(II.getD i []).length-q)) (0,F0,bu,au,bs,fq) ?_ ?_
  · exact⟨mle,dc.up,em.up,ld,zot,by rw[ii];exact(zqi _).symm⟩
  rintro⟨q,F1,bn,ac,bm,mf⟩ ⟨yt,ba,dq,ic,hq3,lu⟩
  refine yY ?_;have zc:F1.length=iL L i+q:=by rw[lu,lAz,zYZ oM];exact zbi _ (yW _ _)
  have iq:=lt i oM;have hp:=ck.2 i oM;have hti:=zA7 (((i:Int):Int):Rat);have htk:=zA7 (((q:Int):Int):Rat);have hqi:=dG (i:Int) oM oM;have hqk:=dG (q:Int) oM oM;refine go6 ?_;refine gv ((yZ i mh6 underlying51 sizeOf22 I I I bO nP).cv (show _=zI 1 C ((i*1+0)) from zbi (zI 1 C) zo5)) I (zI5 (F:=λv_=>(rpS rpI).Is mf v_ (II.getD i [])) (wO fL (y5e (y5u _) [] i bO) I nP I av.up I) (tM mh6) I ?_);intro wc xy;refine gc4 (λlj=>?_) λlj=>?_
  ·
   have sr:=fe i q oM oM;have hrb:=fe i ((q+1)%(II.getD i []).length) oM (zcu _ oM);refine go5 ?_;refine zJ 23 _ [] (zai 0 23 []) zX nX (wL zou) nX (λr hr=>hr) (go2 ?_);refine w_q I (λh' L' hh hR=>(yZ i (hR _ mh6) underlying51 sizeOf22 I I I bO nP).cv (show _=zI 1 C ((i*1+0)) from zbi (zI 1 C) zo5)) I (cY (F:=λv_=>(rpS rpI).Is mf v_ (II.getD i [])) I (wO fL (y5e (y5u _) [] i bO) I nP I av.up I) (tM mh6) I ?_);intro wb ow;refine go1 ?_;refine wX I (xI (0:Int) q underlying22 ty3 ow) λwa ou=>(wX I (xA ty3 ou) λvz ot=>?_);obtain⟨rfl,tc,sn⟩:=kX ot;refine go2 ?_;refine w_q I (λh' L' hh hR=>(yZ i (hR _ mh6) underlying51 sizeOf22 I I I bO nP).cv (show _=zI 1 C ((i*1+0)) from zbi (zI 1 C) zo5)) I (cY (F:=λv_=>(rpS rpI).Is mf v_ (II.getD i [])) I (wO fL (y5e (y5u _) [] i bO) I nP I av.up I) (tM mh6) I ?_);intro vy os;refine go4 ?_;refine w_q I (λh' L' hh hR=>(yZ i (hR _ mh6) underlying51 sizeOf22 I I I bO nP).cv (show _=zI 1 C ((i*1+0)) from zbi (zI 1 C) zo5)) I (cY (F:=λv_=>(rpS rpI).Is mf v_ (II.getD i [])) I (wO fL (y5e (y5u _) [] i bO) I nP I av.up I) (tM mh6) I ?_);intro vx or;refine w_q I (λh' L' hh hR=>jN underlying22 I (or.mono hh)) I (wZ I (λ_ _=>wI I I oM oM) I (wX I (xI (0:Int) ((q+1)%(II.getD i []).length) underlying22 ty3 os (hi:=by exact zcu _ oM)) λvw oq=>(wX I (xA ty3 oq) λvv oo=>?_)));obtain⟨rfl,tb,sm⟩:=kX oo;refine go5 ?_;refine zJ 12 _ [(11,(32,31,y7e))] (zai 0 10 [(10,.c),(11,.a),(12,.t)]) zX (jD.cons I I (uM yK I I) jD.nil) (wL zou) (uN I I kF) (λr hr=>hr) (go1 ?_);refine wX I (xB uQ (y6i pH) ba) λvu on=>(go1 ?_);refine wX I (xI zT (((II.getD i []).getD ((q+1)%(II.getD i []).length) 0).toNat) underlying35 zK on (hi:=by(show _<PP.length;omega))) λvt om=>(wX I (xA zK om) λvq ol=>(go1 ?_));refine wX I (xB uQ (y6i pH) ba) λvp ok=>(go1 ?_);refine wX I (xI zT (((II.getD i []).getD q 0).toNat) underlying35 zK ok (hi:=by(show _<PP.length;omega))) λvo oj=>(wX I (xA zK oj) λvn oi=>?_);refine w_c I (sC (ev2 I I) call22 (λw hs=>zOL hs ol oi oM) λvm lv qv ev=>?_);replace ev:=Rp.Is.le ev (Le.t (Le.q (l:=4*k+4*l1+4*l2+23) oM));refine w_a I I (λb32=>?_);have nn:(tPt 1).R lv y7e zT:=(yR (yE dC));have fv:=(Le.t (Le.q (l:=4*k+4*l1+4*l2+23) oM)).R nn;refine yG (A:=[]) I (uB sizeOf31 pH fv ev) λrh du=>(go3 ?_);refine zJ 8 _ [(7,(33,31,y7e))] (zai 0 4 [(5,.q),(4,.c),(6,.q),(7,.a),(8,.t)]) zX (jD.cons I I (uM yK I I) jD.nil) zou (uN I I kF) (λr hr=>hr) (go1 ?_);refine wX I (xB yC (y7i pH) du) λvl oh=>(go1 ?_);refine wX I (xB yC (y6e pH) du) λvk og=>(wX I (xV (ρ:=(rpQ 1)) (xN (ps':=[]) underlying29 xU I I (qG underlying29) trivial I (yE dC) zN)) λvi od=>?_);refine w_c I (sC (ev1 I) call87 (λw hs=>oV hs og oM) λvj tr yy oe=>(wX I (xV (ρ:=(tPt (4*k+4*l1+4*l2+23))) (xS (ps':=[(0,_),(1,_),(2,_)]) underlying31 yK I I sizeOf29 e6 I (yR (yE oM)) (zD I (y6e (y5u _)) oh.up (zD I (y7i (y5u _)) oe (zD I (y7u (y5u _)) (od.up.le (Le.q (l:=4*k+4*l1+4*l2+23) oM)) zN))))) λvh oc=>?_));refine w_a I I (λb33=>?_);have nm:(tPt 1).R tr y7e zT:=(yR (yE dC))
   have fu:=(Le.t (Le.q (l:=4*k+4*l1+4*l2+23) oM)).R nm;refine yG (A:=[]) I (uB sizeOf31 pH fu oc) λrg dt=>(go2 ?_);refine qJ (A:=[_,_,_,_]) 32 [] (zai 0 9 (zai 11 8 [(21,.q),(25,.q),(0,.x [10,23,24,27] [9,10,22,23,24,26,27] [19,20]),(28,.c),(29,.c),(30,.c),(31,.q),(32,.t)])) zX nX zou nX (go1 ?_);refine wX I (sN (xB fN (y6u (y6i pH)) ba)) λvg ob=>?_;subst ob;refine wX I (xB zK pH dt) λvf eu=>(wX I (xB zK pH dt) λve es=>(go1 ?_));refine wX I (xB uQ (y6i pH) ba) λvd oa=>(go1 ?_);refine wX I (xI zT (((II.getD i []).getD q 0).toNat) underlying35 zK oa (hi:=by(show _<PP.length;omega))) λvc nz=>(wX I (xA zK nz) λvb er=>(uR ?_));refine yIF (N:=9) I ?_;refine zE1 I I I I ?x2 ?x3
   case' x2=>
    refine sC (ev2 I I) call56 (λw hs=>tW hs es er oM) λio rd cl ax=>?_;replace ax:=Rp.Is.le ax (Le.q (l:=15*k+15*l1+15*l2+93) oM);refine tQ I (xX I (xV (ρ:=(tPl (4*k+4*l1+4*l2+23) (15*k+15*l1+15*l2+93))) (xN (ps':=[(0,_),(1,_)]) underlying50 rK I I (sL underlying50) e4z I (yA (yR (yE oM)) (yE oM)) (zD I (y6i (y5u _)) eu.up (zD I (y6u (y5u _)) ax zN)))) λim U=>?_);refine zE1 I I I I ?x4 ?x5
    case' x4=>
     refine sC (ev1 I) call88 (λw hs=>uA hs oM oM) λci fp ae aw=>?_;obtain⟨rfl,bj⟩:=kU aw;refine tQ I (aE I (λ_ _=>vN (pa:=([115]:List Nat)) (pb:=(qS (((↑i:Int):Int):Rat))) I I zov) I (tQ I (aE I (λ_ _=>vN (pa:=(([115]:List Nat)++(qS (((↑i:Int):Int):Rat)))) (pb:=([46]:List Nat)) I I zov) I ?_)));refine zE1 I I I I ?x6 ?x7
     case' x6=>
      refine sC (ev1 I) call88 (λw hs=>uA hs oM oM) λbg cb aa ad=>?_;obtain⟨rfl,am⟩:=kU ad;refine tQ I (aE I (λ_ _=>vN (pa:=((([115]:List Nat)++(qS (((↑i:Int):Int):Rat)))++([46]:List Nat))) (pb:=(qS (((↑q:Int):Int):Rat))) I I zov) I (zQB I I (jR (λX=>zL (ρ:=rpI) (m:=4) (xs:=(lU (II.getD i []) q M)) (ps':=[(0,_),(1,_),(2,_),(3,_)]) underlying22 jV I I I wQ e8 (zD I (y5e (y5u _) (0:Int) 0 dC) (wM oM oM) (zD I (y5e (y5u _) (0:Int) 1 dC) (wM oM oM) (zD I (y5e (y5u _) (0:Int) 2 dC) (wM oM oM) (zD I (y5e (y5u _) (0:Int) 3 dC) (wM oM oM) zN)))) zon nP) I ?_)));intro eb fc kz;obtain⟨dl,rfl,H⟩:=kz;refine zQB I I (xY (A:=[]) (ρ:=rpI) H dK ?_);intro ca Z gn;refine jR (λX=>zL (ρ:=(rpS rpI)) (m:=1) (xs:=[(lU (II.getD i []) q M)]) (ps':=[(0,_)]) underlying51 jF I I I wC e2z (zD I (y5e (y5u _) [] 0 dC) gn zN) zoj nP) I ?_;intro bh bi ah;obtain⟨ar,rfl,J⟩:=ah;refine zAC ?_;replace U:=U.mono ((ae.trans aa).trans Z)
     case' x7=>
      refine jR (λX=>zL (ρ:=rpI) (m:=4) (xs:=(lU (II.getD i []) q M)) (ps':=[(0,_),(1,_),(2,_),(3,_)]) underlying22 jV I I I wQ e8 (zD I (y5e (y5u _) (0:Int) 0 dC) (wM oM oM) (zD I (y5e (y5u _) (0:Int) 1 dC) (wM oM oM) (zD I (y5e (y5u _) (0:Int) 2 dC) (wM oM oM) (zD I (y5e (y5u _) (0:Int) 3 dC) (wM oM oM) zN)))) zon nP) I ?_
      rintro eb fc ⟨dl,rfl,H⟩
      refine zE1 I I I I ?x8 ?x9
      case' x8=>
       refine sC (ev1 I) call88 (λw hs=>uA hs oM oM) λbg cb aa ad=>?_;obtain⟨rfl,am⟩:=kU ad;refine tQ I (aE I (λ_ _=>vN (pa:=((([115]:List Nat)++(qS (((↑i:Int):Int):Rat)))++([46]:List Nat))) (pb:=(qS (((↑q:Int):Int):Rat))) I I zov) I (zQB I I ?_));replace H:=H.mono aa;refine xY (A:=[]) (ρ:=rpI) H dK ?_;intro ca Z gm;refine jR (λX=>zL (ρ:=(rpS rpI)) (m:=1) (xs:=[(lU (II.getD i []) q M)]) (ps':=[(0,_)]) underlying51 jF I I I wC e2z (zD I (y5e (y5u _) [] 0 dC) gm zN) zoj nP) I ?_;intro bh bi ah;obtain⟨ar,rfl,J⟩:=ah;refine zAC ?_;replace U:=U.mono ((ae.trans aa).trans Z)
      case' x9=>
       refine xY (A:=[]) (ρ:=rpI) H dK ?_;intro cb aa gk;refine jR (λX=>zL (ρ:=(rpS rpI)) (m:=1) (xs:=[(lU (II.getD i []) q M)]) (ps':=[(0,_)]) underlying51 jF I I I wC e2z (zD I (y5e (y5u _) [] 0 dC) gk zN) zoj nP) I ?_
       rintro bh bi ⟨ar,rfl,J⟩
       refine zA3 I I (sC (ev1 I) call88 (λw hs=>uA hs oM oM) λbg ca Z ad=>?_);obtain⟨rfl,am⟩:=kU ad;refine tQ I (aE I (λ_ _=>vN (pa:=((([115]:List Nat)++(qS (((↑i:Int):Int):Rat)))++([46]:List Nat))) (pb:=(qS (((↑q:Int):Int):Rat))) I I zov) I (zAC ?_));replace U:=U.mono ((ae.trans aa).trans Z);replace J:=J.mono Z
    case' x5=>
     refine jR (λX=>zL (ρ:=rpI) (m:=4) (xs:=(lU (II.getD i []) q M)) (ps':=[(0,_),(1,_),(2,_),(3,_)]) underlying22 jV I I I wQ e8 (zD I (y5e (y5u _) (0:Int) 0 dC) (wM oM oM) (zD I (y5e (y5u _) (0:Int) 1 dC) (wM oM oM) (zD I (y5e (y5u _) (0:Int) 2 dC) (wM oM oM) (zD I (y5e (y5u _) (0:Int) 3 dC) (wM oM oM) zN)))) zon nP) I ?_
     rintro eb fc ⟨dl,rfl,H⟩
     refine zE1 I I I I ?x10 ?x11
     case' x10=>
      refine sC (ev1 I) call88 (λw hs=>uA hs oM oM) λci fp ae aw=>?_;obtain⟨rfl,bj⟩:=kU aw;refine tQ I (aE I (λ_ _=>vN (pa:=([115]:List Nat)) (pb:=(qS (((↑i:Int):Int):Rat))) I I zov) I (tQ I (aE I (λ_ _=>vN (pa:=(([115]:List Nat)++(qS (((↑i:Int):Int):Rat)))) (pb:=([46]:List Nat)) I I zov) I ?_)));refine zE1 I I I I ?x12 ?x13
      case' x12=>
       refine sC (ev1 I) call88 (λw hs=>uA hs oM oM) λbg cb aa ad=>?_;obtain⟨rfl,am⟩:=kU ad;refine tQ I (aE I (λ_ _=>vN (pa:=((([115]:List Nat)++(qS (((↑i:Int):Int):Rat)))++([46]:List Nat))) (pb:=(qS (((↑q:Int):Int):Rat))) I I zov) I (zQB I I ?_));replace H:=H.mono (ae.trans aa);refine xY (A:=[]) (ρ:=rpI) H dK ?_;intro ca Z gj;refine jR (λX=>zL (ρ:=(rpS rpI)) (m:=1) (xs:=[(lU (II.getD i []) q M)]) (ps':=[(0,_)]) underlying51 jF I I I wC e2z (zD I (y5e (y5u _) [] 0 dC) gj zN) zoj nP) I ?_;intro bh bi ah;obtain⟨ar,rfl,J⟩:=ah;refine zAC ?_;replace U:=U.mono ((ae.trans aa).trans Z)
      case' x13=>
       replace H:=H.mono ae;refine xY (A:=[]) (ρ:=rpI) H dK ?_;intro cb aa gi;refine jR (λX=>zL (ρ:=(rpS rpI)) (m:=1) (xs:=[(lU (II.getD i []) q M)]) (ps':=[(0,_)]) underlying51 jF I I I wC e2z (zD I (y5e (y5u _) [] 0 dC) gi zN) zoj nP) I ?_;intro bh bi ah;obtain⟨ar,rfl,J⟩:=ah;refine zA3 I I (sC (ev1 I) call88 (λw hs=>uA hs oM oM) λbg ca Z ad=>?_);obtain⟨rfl,am⟩:=kU ad;refine tQ I (aE I (λ_ _=>vN (pa:=((([115]:List Nat)++(qS (((↑i:Int):Int):Rat)))++([46]:List Nat))) (pb:=(qS (((↑q:Int):Int):Rat))) I I zov) I (zAC ?_));replace U:=U.mono ((ae.trans aa).trans Z);replace J:=J.mono Z
     case' x11=>
      refine xY (A:=[]) (ρ:=rpI) H dK ?_;intro fp ae gh;refine jR (λX=>zL (ρ:=(rpS rpI)) (m:=1) (xs:=[(lU (II.getD i []) q M)]) (ps':=[(0,_)]) underlying51 jF I I I wC e2z (zD I (y5e (y5u _) [] 0 dC) gh zN) zoj nP) I ?_
      rintro bh bi ⟨ar,rfl,J⟩
      refine zA3 I I (sC (ev1 I) call88 (λw hs=>uA hs oM oM) λci cb aa aw=>?_);obtain⟨rfl,bj⟩:=kU aw;refine tQ I (aE I (λ_ _=>vN (pa:=([115]:List Nat)) (pb:=(qS (((↑i:Int):Int):Rat))) I I zov) I (tQ I (aE I (λ_ _=>vN (pa:=(([115]:List Nat)++(qS (((↑i:Int):Int):Rat)))) (pb:=([46]:List Nat)) I I zov) I (zA3 I I (sC (ev1 I) call88 (λw hs=>uA hs oM oM) λbg ca Z ad=>?_)))));obtain⟨rfl,am⟩:=kU ad;refine tQ I (aE I (λ_ _=>vN (pa:=((([115]:List Nat)++(qS (((↑i:Int):Int):Rat)))++([46]:List Nat))) (pb:=(qS (((↑q:Int):Int):Rat))) I I zov) I (zAC ?_));replace U:=U.mono ((ae.trans aa).trans Z);replace J:=J.mono (aa.trans Z)
   case' x3=>
    refine jR (λX=>zL (ρ:=rpI) (m:=4) (xs:=(lU (II.getD i []) q M)) (ps':=[(0,_),(1,_),(2,_),(3,_)]) underlying22 jV I I I wQ e8 (zD I (y5e (y5u _) (0:Int) 0 dC) (wM oM oM) (zD I (y5e (y5u _) (0:Int) 1 dC) (wM oM oM) (zD I (y5e (y5u _) (0:Int) 2 dC) (wM oM oM) (zD I (y5e (y5u _) (0:Int) 3 dC) (wM oM oM) zN)))) zon nP) I ?_
    rintro eb fc ⟨dl,rfl,H⟩
    refine zE1 I I I I ?x14 ?x15
    case' x14=>
     refine sC (ev2 I I) call56 (λw hs=>tW hs es er oM) λio rd cl ax=>?_;replace ax:=Rp.Is.le ax (Le.q (l:=15*k+15*l1+15*l2+93) oM);refine tQ I (xX I (xV (ρ:=(tPl (4*k+4*l1+4*l2+23) (15*k+15*l1+15*l2+93))) (xN (ps':=[(0,_),(1,_)]) underlying50 rK I I (sL underlying50) e4z I (yA (yR (yE oM)) (yE oM)) (zD I (y6i (y5u _)) eu.up (zD I (y6u (y5u _)) ax zN)))) λim U=>?_);refine zE1 I I I I ?x16 ?x17
     case' x16=>
      refine sC (ev1 I) call88 (λw hs=>uA hs oM oM) λci fp ae aw=>?_;obtain⟨rfl,bj⟩:=kU aw;refine tQ I (aE I (λ_ _=>vN (pa:=([115]:List Nat)) (pb:=(qS (((↑i:Int):Int):Rat))) I I zov) I (tQ I (aE I (λ_ _=>vN (pa:=(([115]:List Nat)++(qS (((↑i:Int):Int):Rat)))) (pb:=([46]:List Nat)) I I zov) I ?_)));refine zE1 I I I I ?x18 ?x19
      case' x18=>
       refine sC (ev1 I) call88 (λw hs=>uA hs oM oM) λbg cb aa ad=>?_;obtain⟨rfl,am⟩:=kU ad;refine tQ I (aE I (λ_ _=>vN (pa:=((([115]:List Nat)++(qS (((↑i:Int):Int):Rat)))++([46]:List Nat))) (pb:=(qS (((↑q:Int):Int):Rat))) I I zov) I (zQB I I ?_));replace H:=H.mono ((cl.trans ae).trans aa);refine xY (A:=[]) (ρ:=rpI) H dK ?_;intro ca Z gg;refine jR (λX=>zL (ρ:=(rpS rpI)) (m:=1) (xs:=[(lU (II.getD i []) q M)]) (ps':=[(0,_)]) underlying51 jF I I I wC e2z (zD I (y5e (y5u _) [] 0 dC) gg zN) zoj nP) I ?_;intro bh bi ah;obtain⟨ar,rfl,J⟩:=ah;refine zAC ?_;replace U:=U.mono ((ae.trans aa).trans Z)
      case' x19=>
       replace H:=H.mono (cl.trans ae);refine xY (A:=[]) (ρ:=rpI) H dK ?_;intro cb aa gf;refine jR (λX=>zL (ρ:=(rpS rpI)) (m:=1) (xs:=[(lU (II.getD i []) q M)]) (ps':=[(0,_)]) underlying51 jF I I I wC e2z (zD I (y5e (y5u _) [] 0 dC) gf zN) zoj nP) I ?_;intro bh bi ah;obtain⟨ar,rfl,J⟩:=ah;refine zA3 I I (sC (ev1 I) call88 (λw hs=>uA hs oM oM) λbg ca Z ad=>?_);obtain⟨rfl,am⟩:=kU ad;refine tQ I (aE I (λ_ _=>vN (pa:=((([115]:List Nat)++(qS (((↑i:Int):Int):Rat)))++([46]:List Nat))) (pb:=(qS (((↑q:Int):Int):Rat))) I I zov) I (zAC ?_));replace U:=U.mono ((ae.trans aa).trans Z);replace J:=J.mono Z
     case' x17=>
      replace H:=H.mono cl;refine xY (A:=[]) (ρ:=rpI) H dK ?_;intro fp ae ge;refine jR (λX=>zL (ρ:=(rpS rpI)) (m:=1) (xs:=[(lU (II.getD i []) q M)]) (ps':=[(0,_)]) underlying51 jF I I I wC e2z (zD I (y5e (y5u _) [] 0 dC) ge zN) zoj nP) I ?_;intro bh bi ah;obtain⟨ar,rfl,J⟩:=ah;refine zA3 I I (sC (ev1 I) call88 (λw hs=>uA hs oM oM) λci cb aa aw=>?_);obtain⟨rfl,bj⟩:=kU aw;refine tQ I (aE I (λ_ _=>vN (pa:=([115]:List Nat)) (pb:=(qS (((↑i:Int):Int):Rat))) I I zov) I (tQ I (aE I (λ_ _=>vN (pa:=(([115]:List Nat)++(qS (((↑i:Int):Int):Rat)))) (pb:=([46]:List Nat)) I I zov) I (zA3 I I (sC (ev1 I) call88 (λw hs=>uA hs oM oM) λbg ca Z ad=>?_)))));obtain⟨rfl,am⟩:=kU ad;refine tQ I (aE I (λ_ _=>vN (pa:=((([115]:List Nat)++(qS (((↑i:Int):Int):Rat)))++([46]:List Nat))) (pb:=(qS (((↑q:Int):Int):Rat))) I I zov) I (zAC ?_));replace U:=U.mono ((ae.trans aa).trans Z);replace J:=J.mono (aa.trans Z)
    case' x15=>
     refine xY (A:=[]) (ρ:=rpI) H dK ?_;intro rd cl gc;refine jR (λX=>zL (ρ:=(rpS rpI)) (m:=1) (xs:=[(lU (II.getD i []) q M)]) (ps':=[(0,_)]) underlying51 jF I I I wC e2z (zD I (y5e (y5u _) [] 0 dC) gc zN) zoj nP) I ?_
     rintro bh bi ⟨ar,rfl,J⟩
     refine zA3 I I (sC (ev2 I I) call56 (λw hs=>tW hs es.up er.up oM) λio fp ae ax=>?_);replace ax:=Rp.Is.le ax (Le.q (l:=15*k+15*l1+15*l2+93) oM);refine tQ I (xX I (xV (ρ:=(tPl (4*k+4*l1+4*l2+23) (15*k+15*l1+15*l2+93))) (xN (ps':=[(0,_),(1,_)]) underlying50 rK I I (sL underlying50) e4z I (yA (yR (yE oM)) (yE oM)) (zD I (y6i (y5u _)) eu.up (zD I (y6u (y5u _)) ax zN)))) λim U=>(zA3 I I (sC (ev1 I) call88 (λw hs=>uA hs oM oM) λci cb aa aw=>?_)));obtain⟨rfl,bj⟩:=kU aw;refine tQ I (aE I (λ_ _=>vN (pa:=([115]:List Nat)) (pb:=(qS (((↑i:Int):Int):Rat))) I I zov) I (tQ I (aE I (λ_ _=>vN (pa:=(([115]:List Nat)++(qS (((↑i:Int):Int):Rat)))) (pb:=([46]:List Nat)) I I zov) I (zA3 I I (sC (ev1 I) call88 (λw hs=>uA hs oM oM) λbg ca Z ad=>?_)))));obtain⟨rfl,am⟩:=kU ad;refine tQ I (aE I (λ_ _=>vN (pa:=((([115]:List Nat)++(qS (((↑i:Int):Int):Rat)))++([46]:List Nat))) (pb:=(qS (((↑q:Int):Int):Rat))) I I zov) I (zAC ?_));replace J:=J.mono ((ae.trans aa).trans Z);replace U:=U.mono (aa.trans Z)
   all_goals
    refine w_c I (xY (A:=[]) (ρ:=(rpS rpI)) J dK ?_);intro h18 qu gb;replace U:=U.mono qu;refine sX (xV (ρ:=(tFc (4*k+4*l1+4*l2+23) (15*k+15*l1+15*l2+93))) (xN (ps':=[(0,_),(1,_),(2,_)]) underlying53 jK I I (bT underlying53) e6 I (yA (yA (yR (yE oM)) (yE oM)) (yA wC gS)) (zD I (y6i (y5u _)) U (zD I (y6u (y6i (y5u _))) gb (zD I (y6u (y6u (y5u _))) (bK ((((show ByB [115] by unfold ByB;decide).app bj).app (show ByB [46] by unfold ByB;decide)).app am)) zN))))) λva ny=>?_;refine w_c I (jR (λX=>zL (ρ:=(tFc (4*k+4*l1+4*l2+23) (15*k+15*l1+15*l2+93))) (m:=1) (xs:=[(((nU PP ac (II.getD i []) q),zF (nU PP ac (II.getD i []) q) (pU PP ac ((II.getD i []).getD q 0))),([(lU (II.getD i []) q M)],(((([115]:List Nat)++(qS (((↑i:Int):Int):Rat)))++([46]:List Nat))++(qS (((↑q:Int):Int):Rat)))))]) (ps':=[(0,_)]) underlying36 jK I I I (yA (yA (yR (yE oM)) (yE oM)) (yA wC gS)) e2z (zD I (y5e (y5u _) zA 0 dC) ny zN) zom nP) I ?_)
    rintro uy yd ⟨ue,rfl,jx⟩
    refine w_c I (xY (A:=[]) (ρ:=(tFc (4*k+4*l1+4*l2+23) (15*k+15*l1+15*l2+93))) jx dK ?_);intro tq yx ga;refine fK (A:=[_,_,_,_]) (λX=>uK (zR (ρ:=(tFc (4*k+4*l1+4*l2+40) (100*k+100*l1+100*l2+1000))) (bytes:=264) underlying36 jK I I I I nP I I dq.up (ga.le (Le.s (Le.p (Le.p (Le.t (Le.q (l:=4*k+4*l1+4*l2+40) oM)) (Le.q (l:=100*k+100*l1+100*l2+1000) oM)) (Le.refl _)))) bO bO)) I (xO zoy) ?_
    rintro mu yc ⟨ff,mh,rfl,jw⟩
    refine go1 ?_;refine yG (A:=[_,_,_,_,_,_,_,_,_,_,_]) I (uB sizeOf36 (y6u (y6i pH)) ba (eH ff)) λil hm=>(go8 ?_);refine xK (A:=[]) (xK (A:=[]) ?_);refine gqL ((q+1),(F1++[(((nU PP ac (II.getD i []) q),zF (nU PP ac (II.getD i []) q) (pU PP ac ((II.getD i []).getD q 0))),([(lU (II.getD i []) q M)],(((([115]:List Nat)++(qS (((↑i:Int):Int):Rat)))++([46]:List Nat))++(qS (((↑q:Int):Int):Rat)))))]),il,mu,mh,tq) ?_ ?_
    · exact⟨mle,hm,jw,ff,zot,by rw[lu,fo,br,be,zki];rfl⟩
    omega
  have ef:q=(II.getD i []).length:=by omega
  refine qE ?_;refine gqL ((i+1),F1,(C0++[lD (II.getD i []) (II.getD i []).length]),(T0++[TL]),bn,ch,dx,ac,bm,ec,dm,ip,fr,mf) ?_ ?_
  · exact⟨mle,ba.up,ho.up,hn.up,dq.up,ic,kc.up,fh,jy.up,fg,zot,by rw[ij,br];rfl,by rw[ie,ls,ek,br];rfl,by rw[lu,ef,br];rfl⟩
  omega
 have ts:i=(bxZ L).length:=by rw[yL5];omega
 rw[ts] at ij ie ii;refine go8 ?_;refine lX (sN (xB fN (y6u (y6i pH)) dc)) λux nw=>?_;subst nw;refine zQ (A:=[_]) (ρ:=(rpS rpI)) el.up ?_;intro h8 fj fz;replace bd:=bd.mono fj;have hj:(tFc 5 (l1+l2+5)).R h8 cd (((T3.mk (0:Rat) (0:Rat) (-((1:Int):Rat)),-lo),(ak,[98,111,116,116,111,109])).1,(C0,(((T3.mk (0:Rat) (0:Rat) (-((1:Int):Rat)),-lo),(ak,[98,111,116,116,111,109])).2).2)):=zFZ bd fz;refine zQ (A:=[]) (ρ:=(rpS rpI)) eh.up ?_;intro h9 id fy;replace ap:=ap.mono (fj.trans id);have hb:(tFc 5 (l1+l2+5)).R h9 bt (((T3.mk (0:Rat) (0:Rat) ((1:Int):Rat),hi),(ai,[116,111,112])).1,(T0,(((T3.mk (0:Rat) (0:Rat) ((1:Int):Rat),hi),(ai,[116,111,112])).2).2)):=zFZ ap fy;refine lX (xB bE pH hj) λuw nv=>(lX (xB bE pH hb) λuv nu=>(zG (zL (ρ:=(tFc 5 (l1+l2+5))) (m:=2) (xs:=[(((T3.mk (0:Rat) (0:Rat) (-((1:Int):Rat)),-lo),(ak,[98,111,116,116,111,109])).1,(C0,(((T3.mk (0:Rat) (0:Rat) (-((1:Int):Rat)),-lo),(ak,[98,111,116,116,111,109])).2).2)),(((T3.mk (0:Rat) (0:Rat) ((1:Int):Rat),hi),(ai,[116,111,112])).1,(T0,(((T3.mk (0:Rat) (0:Rat) ((1:Int):Rat),hi),(ai,[116,111,112])).2).2))]) (ps':=[(0,_),(1,_)]) underlying36 jK I I I (yA (yA (yR (yE dC)) (yE oM)) (yA wC gS)) e4z (zD I (y5e (y5u _) zA 0 dC) nv (zD I (y5e (y5u _) zA 1 dC) nu zN)) (show 2*14<=16777216 from by decide) nP) I I I ?_))
 rintro ut yb ⟨ud,rfl,jv⟩
 refine zQ (A:=[]) (ρ:=(tFc 5 (l1+l2+5))) jv ?_;intro lw fl fx;refine xQ (A:=[]) (uK (zR (ρ:=(tFc (4*k+4*l1+4*l2+40) (100*k+100*l1+100*l2+1000))) (bytes:=264) underlying36 jK I I I I nP I I em.up (fx.le (Le.s (Le.p (Le.p (Le.t (Le.q (l:=4*k+4*l1+4*l2+40) oM)) (Le.q (l:=100*k+100*l1+100*l2+1000) oM)) (Le.refl _)))) bO bO)) I I I ?_
 rintro ur ya ⟨lf,uc,rfl,ju⟩
 refine go1 ?_;refine zP (A:=[_,_,_,_,_,_,_]) (uB sizeOf36 (y6u (y6i pH)) dc (eH lf)) λdw bx=>(go4 ?_);refine zQ (A:=[]) (ρ:=(tFc (4*k+4*l1+4*l2+40) (100*k+100*l1+100*l2+1000))) ju ?_;intro fq fk fw;replace bx:=bx.mono fk;have gz:(tSd (k+l1+l2+5) (4*k+4*l1+4*l2+40) (100*k+100*l1+100*l2+1000) 1).R fq dw ((PP,(au,([]:List En))).1,((F0++[(((T3.mk (0:Rat) (0:Rat) (-((1:Int):Rat)),-lo),(ak,[98,111,116,116,111,109])).1,(C0,(((T3.mk (0:Rat) (0:Rat) (-((1:Int):Rat)),-lo),(ak,[98,111,116,116,111,109])).2).2)),(((T3.mk (0:Rat) (0:Rat) ((1:Int):Rat),hi),(ai,[116,111,112])).1,(T0,(((T3.mk (0:Rat) (0:Rat) ((1:Int):Rat),hi),(ai,[116,111,112])).2).2))]),((PP,(au,([]:List En))).2).2)):=zFZ bx fw;have gy:(tSd (k+l1+l2+5) (4*k+4*l1+4*l2+40) (100*k+100*l1+100*l2+1000) 1).R fq dw (prR L lo hi):=Rp.castR gz (by rw[ii,fo,ij,ie];rfl);refine lX (xB jP pH gy) λuq nt=>?_;refine uY (vs:=[_]) I I I I call47 ⟨I,y5i⟩ (λw hs=>zAM hs nt oM oM oM (by first|omega|exact H4 qy)) ?_;intro uo lv zi qv cj;obtain⟨rj,ik,cj,rfl,ib,bl⟩:=cj
 change RL (tFc (4*(4*k+4*l1+4*l2+40)+12) ((4*k+4*l1+4*l2+40)+(100*k+100*l1+100*l2+1000)+12)) lv ik (nrF (prR L lo hi)) at bl
 replace cj:=Rp.Is.le cj (Le.p (Le.s (Le.t (Le.q (l:=k+l1+l2+6) oM))) (Le.p (Le.refl _) (Le.s (Le.p (Le.refl _) (Le.p (Le.refl _) (Le.q (l:=2) oM))))));replace bl:=(Le.p (Le.p (Le.t (Le.q (l:=16*k+16*l1+16*l2+172) oM)) (Le.q (l:=104*k+104*l1+104*l2+1052) oM)) (Le.refl _)).rl bl;have ft:=(Le.p (Le.s (Le.t (Le.q (l:=k+l1+l2+6) oM))) (Le.p (Le.refl _) (Le.s (Le.p (Le.refl _) (Le.p (Le.refl _) (Le.q (l:=2) dC)))))).R eq;refine zP (A:=[_,_,_,_,_,_,_,_]) (uB sizeOf39 pH ft cj) λrf gx=>(go4 ?_);rw[qy,qx,tj];refine wG (jG (t:=6) jP (.tail _ mh7) I gx) ?_;intro ri fd gu;refine kV (.cons_cons _ (zse _)) (λE S=>qO I fd (gH I) E S) ?_;exact⟨_,_,_,I,(Rp.Is.cast (Rp.Is.le gu (Le.p (Le.s (Le.t (Le.q (l:=k+l1+l2+20) oM))) (Le.p (Le.refl _) (Le.s (Le.p (Le.refl _) (Le.p (Le.refl _) (Le.q (l:=5) dC))))))) (by rw[show nrE (prR L lo hi)=[] from by unfold nrE;split<;>rfl])),I,ib,((Le.p (Le.p (Le.t (Le.q (l:=1000*k+1000*l1+1000*l2+2000) oM)) (Le.q (l:=1000*k+1000*l1+1000*l2+2000) oM)) (Le.refl _)).rl bl)⟩
end Go.Proofs.YtpkaegemlpaenaaGreat
