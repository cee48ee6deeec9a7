/- Texts that the proof needs, part 5. -/
import Derived.Test.YtpkaegemlpaenaaGreatKD4
set_option linter.unusedVariables false
set_option linter.unusedSimpArgs false
noncomputable section
set_option maxRecDepth 10000
set_option maxHeartbeats 1000000
namespace Bk
open Go
abbrev y6u:List Value:=[.bool false,.slice none 0 0,.slice none 0 0,.bool false,.slice none 0 0,.slice none 0 0,.bool false,.slice none 0 0,.slice none 0 0]
end Bk
namespace Go.Proofs.YtpkaegemlpaenaaGreat
open Bk Go Tryz
attribute [local irreducible] GL GC GQ W OpV
section
variable{w0:World}{h0:Mem}(hs:MLe h0 (mem w0))
include hs
theorem bE{k:Nat}{vp:Value}{p:Tq}(rp:(tPt k).Is h0 vp p):
 Calls prog 185 #[vp] w0 (Ret w0 h0 (λh r=>(tPt (k+1)).Is h r (zZ p))):=by
 refine cb1 8 vp func185 hs ?_;refine go2 ?_;refine nB rp λb1 ab J=>(nA (ρ:=(tPt (k+1))) (X:=zT) yS (xW (yM oM)) λb2 aa M=>(go5 ?_));refine lX (xB yI (y5u pH) J) λv4 r4=>(go1 ?_);refine lX (xB yI (y5e pH) J) λv6 r6=>(lX (xV (ρ:=(tPt (k+1))) (wH (ps':=[(0,_),(1,_)]) underlying31 yS I I sizeOf29 e4z I (xW (yM oM)) (zD I (y5u (y4i _)) (r4.le (Le.q (l:=k+1) oM)) (zD I (y5e (y4i _)) (r6.le (Le.q (l:=k+1) oM)) zP)))) λv7 Z=>(yD (A:=[]) (uB sizeOf31 pH M Z) λO H=>(go3 ?_)));refine vM (gG (t:=2) zN mh0 I H) ?_;intro U C D;refine xC (λE S=>yB I C E S) ?_;exact D
theorem jO{k:Nat}{va:Value}{a:Tq}(ra:(tPt k).Is h0 va a){vb:Value}{b:Tq}(rb:(tPt k).Is h0 vb b)(hcd0:k<=2000000000):
 Calls prog 174 #[va,vb] w0 (Ret w0 h0 (λ_ r=>r=vB ((pr a 0 1)=(pr b 0 1)))):=by
 refine cb2 17 va vb func174 hs ?_;refine go2 ?_;refine nB ra λb2 ad D=>(nB rb λb3 ac C=>(go6 ?_));refine lX (xB yI (y5u pH) D) λv6 r6=>(go1 ?_);refine lX (xB yI (y5u pH) C) λv8 r8=>(cL (ev2 I I) call73 (λw hs=>sM hs r6 r8 oM) λv9 h1 ai r9=>?_);obtain rfl:v9=vB (a.x=b.x):=r9;refine qE (ι:=Mem) 7 (λm_=>MLe h1 m_) (λ_=>[(16,vB ((a.x=b.x)/\(a.y=b.y)))]) (λ_=>[.var b3 31 ac,.var b2 31 ad]) (λm_=>m_) ?_ ?_
 ·
  refine zY (a.x=b.x) (λJ=>?_) (λJ=>?_)
  ·
   refine gT J I (go3 ?_);refine lX (xB yI (y5e pH) D) λah Z=>(go3 ?_);refine lX (xB yI (y5e pH) C) λae U=>(go1 ?_);refine cL (ev2 I I) call73 (λw hs=>sM hs Z U oM) λM h2 ab O=>?_;obtain rfl:M=vB (a.y=b.y):=O;refine go2 ?_;refine zV h2 ab ⟨?_,y3e⟩ I I;exact y3u (xL J)
  refine gF J I (go7 ?_);refine zV h1 (MLe.refl _) ⟨?_,y3e⟩ I I;exact y3u (xM J)
 intro aa H;refine sN ?_;refine go4 ?_;refine zC I I ?_
 first|exact kO (by rw[zYY];exact Iff.rfl)|exact(wA (by rw[zYY];exact Iff.rfl)).symm|exact(yN (by rw[zYY];exact Iff.rfl)).symm
theorem pT{k:Nat}{va:Value}{a:Tq}(ra:(tPt k).Is h0 va a){vb:Value}{b:Tq}(rb:(tPt k).Is h0 vb b)(hcd0:k<=2000000000):
 Calls prog 200 #[va,vb] w0 (Ret w0 h0 (λ_ r=>r=vB (lx (pr a 0 1) (pr b 0 1)))):=by
 refine cb2 21 va vb func200 hs ?_;refine go2 ?_;refine nB ra λb2 ak H=>(nB rb λb3 aj D=>(go7 ?_));refine lX (xB yI (y5u pH) H) λv7 r7=>(go1 ?_);refine lX (xB yI (y5u pH) D) λv9 r9=>(cL (ev2 I I) call17 (λw hs=>tK hs r7 r9 oM) λM h1 ai aa=>?_);obtain rfl:M=vI (xU a.x b.x):=aa;have ac:=jF a.x b.x;refine gc9 (λC=>?_) λC=>?_
 ·
  refine go9 ?_;refine zC I I ?_;exact kO (yKN C)
 refine go5 ?_;refine lX (xB yI (y5e pH) H) λae Z=>(go1 ?_);refine lX (xB yI (y5e pH) D) λad U=>(cL (ev2 I I) call17 (λw hs=>tK hs Z U oM) λJ h2 ah O=>?_);obtain rfl:J=vI (xU a.y b.y):=O;have ab:=jF a.y b.y;refine go5 ?_;refine zC I I ?_;exact kO (yKM C)
theorem pV{k:Nat}{vl:Value}{l:(List Tq)}(rl:(tLs k).Is h0 vl l)(hcd0:k<=100000)(hcd1:l.length<=1000):
 Calls prog 131 #[vl] w0 (Ret w0 h0 (λh r=>(rpQ 1000000000).Is h r (uV l 0 1 l.length))):=by
 refine cb1 40 vl func131 hs ?_;refine go2 ?_;refine nA (ρ:=(rpQ 1)) (X:=(0:Rat)) wD (yM dC) λb2 bj au=>(go4 ?_);refine lX (xV (ρ:=(rpQ 1)) (wE (ps':=[]) underlying29 wD I I (qH underlying29) trivial I (yM dC) zP)) λv7 r7=>(nA (ρ:=(rpQ 1)) (X:=(0:Rat)) wD (yM dC) λb3 ch ar=>(yD (A:=[]) (uB sizeOf29 pH ar r7) λao am=>(go9 ?_)));refine gcL (ι:=Nat×Nat×List Value×Mem) (λ(m,q,J,ma)=>(MLe h0 ma/\((rpQ q).R ma J (uV l 0 1 m)/\m<=l.length/\q<=(4*k+9)*m+1),[(0,vl),(2,vP b2 0),(3,vP b3 0),(4,vI ↑m)],[.var b3 29 J,.var b2 29 bj],ma,l.length-m)) (0,1,ao,h0) ?_ ?_
 · exact⟨mle,am,by omega,by omega⟩
 rintro⟨m,q,J,ma⟩ ⟨bl,C,cc,cb⟩
 refine xD ?_;have bf:=zre (4*k+9) (show m<=1000 by omega);refine gc9 (λan=>?_) λan=>?_
 ·
  refine go5 ?_;refine zL 16 _ [(12,(5,31,y6u)),(13,(6,31,y6u))] (zai 0 12 [(12,.a),(13,.a),(14,.c),(15,.c)]) yF (kL.cons I I (qQ yS I I) (kL.cons I I (qQ yS I I) kL.nil)) (wS zou) (qR I I (qR I I gY)) (λr hr=>hr) (go2 ?_);refine wX I (xI zT m underlying35 zN rl) λca be=>(wX I (xA zN be) λbz bd=>(go4 ?_));refine w_q I (λh' L' hh hR=>qO underlying35 I (rl.up.mono hh)) I (xY I (λ_ _=>wI I I oM oM) I (wX I (xI zT ((m+1)%l.length) underlying35 zN rl (hi:=by exact zcu _ oM)) λbx bc=>(wX I (xA zN bc) λbw bb=>?_)));refine w_a I I (λb5=>?_);have aq:(tPt 1).R ma y6u zT:=(xW (yM dC));refine w_a I I (λb6=>?_);have ap:(tPt 1).R ma y6u zT:=(xW (yM dC));refine w_c I ?_;have ak:=(Le.t (Le.q (l:=k+1) oM)).R aq;refine lG (A:=[_]) (uB sizeOf31 pH ak (bd.le (Le.t (Le.q (l:=k+1) oM)))) (xQ zoy) λbi H=>?_;refine w_c I ?_;have Z:=(Le.t (Le.q (l:=k+1) oM)).R ap;refine lG (A:=[]) (uB sizeOf31 pH Z (bb.le (Le.t (Le.q (l:=k+1) oM)))) (xQ zoy) λbh D=>(go2 ?_);refine zL 13 _ [] (zai 0 5 (zai 6 4 [(5,.c),(10,.c),(11,.c),(12,.c),(13,.t)])) yF nX (wS zou) nX (λr hr=>hr) (wX I (xB yI pH C) λbv ba=>(go1 ?_));refine wX I (xB yI (y5u pH) H) λbu az=>(go1 ?_);refine wX I (xB yI (y5e pH) D) λbt ay=>(go1 ?_);refine wX I (xB yI (y5u pH) D) λbr ax=>(go1 ?_);refine wX I (xB yI (y5e pH) H) λbq aw=>?_;refine w_c I (sC (ev2 I I) call53 (λw hs=>jC hs az ay oM) λbs h1 cg ai=>?_);replace ai:=Rp.Is.le ai (Le.q (l:=2*k+2) oM);refine w_c I (sC (ev2 I I) call53 (λw hs=>jC hs ax.up aw.up oM) λbp h2 cf ah=>?_);replace ah:=Rp.Is.le ah (Le.q (l:=2*k+2) oM);refine w_c I (sC (ev2 I I) call55 (λw hs=>tJ hs ai.up ah oM) λbo h3 ce ae=>?_);replace ae:=Rp.Is.le ae (Le.q (l:=4*k+5) oM);refine w_c I (sC (ev2 I I) call45 (λw hs=>oZ hs ba.up ae oM) λbn h4 cd ad=>?_);replace ad:=Rp.Is.le ad (Le.q (l:=4*k+q+6) oM);have U:=(Le.q (l:=4*k+q+6) oM).R C;refine yJ (A:=[_,_]) I (uB sizeOf29 pH U ad) λaj ac=>(go8 ?_);refine yW (A:=[]) (yW (A:=[]) ?_);refine gqL ((m+1),(q+(4*k+9)),aj,h4) ?_ ?_
  · exact⟨mle,(Rp.castR (Le.R (Le.q (l:=q+(4*k+9)) oM) ac) I),by omega,by rw[Nat.mul_succ];omega⟩
  omega
 have em:m=l.length:=by omega
 have bf:=zre (4*k+9) (show m<=1000 by omega);refine go7 ?_;refine lX (xB yI pH C) λbm av=>?_;have O:=(Le.q (l:=q+1) oM).R au;refine yD (A:=[_]) (uB sizeOf29 pH O (av.le (Le.q (l:=q+1) oM))) λbg ab=>(go3 ?_);refine vM (gG (t:=2) yI mh1 I ab) ?_;intro bk M aa;refine xC (λE S=>yB I M E S) ?_;exact(Rp.Is.cast (Rp.Is.le aa (Le.q (l:=1000000000) oM)) (by rw[em]))
theorem tW{k:Nat}{va:Value}{a:Tq}(ra:(tPt k).Is h0 va a){vb:Value}{b:Tq}(rb:(tPt k).Is h0 vb b){vc:Value}{c:Tq}(rc:(tPt k).Is h0 vc c)(hcd0:k<=10000):
 Calls prog 186 #[va,vb,vc] w0 (Ret w0 h0 (λ_ r=>r=vI (orZ (pr a 0 1) (pr b 0 1) (pr c 0 1)))):=by
 refine cb3 13 va vb vc func186 hs ?_;refine go2 ?_;refine nB ra λb3 an O=>(nB rb λb4 am M=>(nB rc λb5 ak J=>(go5 ?_)));refine lX (xB zN pH O) λv7 r7=>(lX (xB zN pH M) λv8 r8=>(lX (xB zN pH J) λv9 r9=>(zH (zJ (ρ:=(tPt (k+1))) (m:=3) (xs:=[a,b,c]) (ps':=[(0,_),(1,_),(2,_)]) underlying35 yS I I I (xW (yM oM)) e6z (zD I (y4u (y4i _) zT 0 dC) (r7.le (Le.t (Le.q (l:=k+1) oM))) (zD I (y4u (y4i _) zT 1 dC) (r8.le (Le.t (Le.q (l:=k+1) oM))) (zD I (y4u (y4i _) zT 2 dC) (r9.le (Le.t (Le.q (l:=k+1) oM))) zP))) zol nP) I I I ?_)))
 rintro ad ae ⟨ab,rfl,D⟩
 refine zQ (A:=[]) (ρ:=(tPt (k+1))) D ?_;intro h1 aj C;refine cL (ev1 I) call131 (λw hs=>pV hs C oM (by first|omega|exact(by decide:3<=1000))) λac h2 ai Z=>(cL (ev1 I) call48 (λw hs=>qI hs Z dC) λH h3 ah U=>?_);obtain rfl:H=vI (yX (uV [a,b,c] 0 1 [a,b,c].length)):=U;have aa:=xK (uV [a,b,c] 0 1 [a,b,c].length);refine go4 ?_;refine zC I I ?_;exact zbi vI (yDR a b c)
theorem eC{k:Nat}{va:Value}{a:Tq}(ra:(tPt k).Is h0 va a){vb:Value}{b:Tq}(rb:(tPt k).Is h0 vb b){vp:Value}{p:Tq}(rp:(tPt k).Is h0 vp p)(hcd0:k<=10000):
 Calls prog 184 #[va,vb,vp] w0 (Ret w0 h0 (λ_ r=>r=vB (onS (pr a 0 1) (pr b 0 1) (pr p 0 1)))):=by
 refine cb3 29 va vb vp func184 hs ?_;refine go2 ?_;refine nB ra λb3 bj aa=>(nB rb λb4 bi Z=>(nB rp λb5 am ae=>(go3 ?_)));refine jR (ι:=List Value×List Value×Mem) (λ(D,C,m1)=>MLe h0 m1/\((tPt k).R m1 D (loT a b 0 1)/\(tPt k).R m1 C (hiT a b 0 1)/\True)) (λ(D,C,m1)=>[(3,vP b3 0),(4,vP b4 0),(5,vP b5 0)]) (λ(D,C,m1)=>[.var b5 31 am,.var b4 31 C,.var b3 31 D]) (λ(D,C,m1)=>m1) ?_ ?_
 ·
  refine go2 ?_;refine lX (xB zN pH Z) λv7 r7=>(lX (xB zN pH aa) λv8 r8=>(cL (ev2 I I) call200 (λw hs=>pT hs r7 r8 oM) λv9 h1 ai r9=>?_));obtain rfl:v9=vB (lx (pr b 0 1) (pr a 0 1)):=r9;refine gc2 (λU=>?_) λU=>?_
  ·
   refine go1 ?_;refine lX (xB zN pH Z) λbt bg=>(lX (xB zN pH aa) λbs bf=>(yD (A:=[_,_]) (uB sizeOf31 pH aa bg) λak ad=>(yD (A:=[_]) (uB sizeOf31 pH Z bf) λaj ac=>(go1 ?_))));refine zV (ak,aj,h1) ?_ e3z I I;refine⟨ai,?_⟩;refine⟨(Rp.castR ad (zau U).symm),(Rp.castR ac (zau U).symm),?_⟩
   trivial
  refine go1 ?_;refine zV (bj,bi,h1) ?_ e3z I I;refine⟨ai,?_⟩;refine⟨(Rp.castR aa.up (zae U).symm),(Rp.castR Z.up (zae U).symm),?_⟩
  trivial
 rintro⟨D,C,m1⟩ ⟨bk,ab⟩
 refine xD ?_;obtain⟨J,H,ab⟩:=ab;refine go2 ?_;refine lX (xB zN pH J) λbr be=>(lX (xB zN pH H) λbq bd=>(lX (xB zN pH ae) λbp bc=>(cL (ev3 I I I) call186 (λw hs=>tW hs be bd bc oM) λau h1 ai bb=>?_)));obtain rfl:au=vI (orZ (pr (loT a b 0 1) 0 1) (pr (hiT a b 0 1) 0 1) (pr p 0 1)):=bb;have bh:=tU (pr (loT a b 0 1) 0 1) (pr (hiT a b 0 1) 0 1) (pr p 0 1);refine go1 ?_;refine qE (ι:=Mem) 6 (λm_=>MLe h1 m_) (λ_=>[(22,vB (((orZ (pr (loT a b 0 1) 0 1) (pr (hiT a b 0 1) 0 1) (pr p 0 1))=(0:Int))/\(¬(lx (pr p 0 1) (pr (loT a b 0 1) 0 1))))),(4,vP b4 0),(5,vP b5 0)]) (λ_=>[.var b5 31 am,.var b4 31 C,.var b3 31 D]) (λm_=>m_) ?_ ?_
 ·
  refine zY ((orZ (pr (loT a b 0 1) 0 1) (pr (hiT a b 0 1) 0 1) (pr p 0 1))=(0:Int)) (λO=>?_) (λO=>?_)
  ·
   refine gT O I (go1 ?_);refine lX (xB zN pH ae) λbo ba=>(go1 ?_);refine lX (xB zN pH J) λbn az=>(go1 ?_);refine cL (ev2 I I) call200 (λw hs=>pT hs ba az oM) λar h2 ah ay=>?_;obtain rfl:ar=vB (lx (pr p 0 1) (pr (loT a b 0 1) 0 1)):=ay;refine go4 ?_;refine zV h2 ah ⟨?_,I,I,y3e⟩ I I;exact y3u (xL O)
  refine gF O I (go6 ?_);refine zV h1 (MLe.refl _) ⟨?_,I,I,y3e⟩ I I;exact y3u (xM O)
 intro M ao;refine sN ?_;refine qE (ι:=Mem) 6 (λm_=>MLe M m_) (λ_=>[(28,vB ((((orZ (pr (loT a b 0 1) 0 1) (pr (hiT a b 0 1) 0 1) (pr p 0 1))=(0:Int))/\(¬(lx (pr p 0 1) (pr (loT a b 0 1) 0 1))))/\(¬(lx (pr (hiT a b 0 1) 0 1) (pr p 0 1)))))]) (λ_=>[.var b5 31 am,.var b4 31 C,.var b3 31 D]) (λm_=>m_) ?_ ?_
 ·
  refine zY (((orZ (pr (loT a b 0 1) 0 1) (pr (hiT a b 0 1) 0 1) (pr p 0 1))=(0:Int))/\(¬(lx (pr p 0 1) (pr (loT a b 0 1) 0 1)))) (λO=>?_) (λO=>?_)
  ·
   refine gT O I (go1 ?_);refine lX (xB zN pH H) λbm ax=>(go1 ?_);refine lX (xB zN pH ae) λbl aw=>(go1 ?_);refine cL (ev2 I I) call200 (λw hs=>pT hs ax aw oM) λaq h2 ah av=>?_;obtain rfl:aq=vB (lx (pr (hiT a b 0 1) 0 1) (pr p 0 1)):=av;refine go4 ?_;refine zV h2 ah ⟨?_,y3e⟩ I I;exact y3u (xL O)
  refine gF O I (go6 ?_);refine zV M (MLe.refl _) ⟨?_,y3e⟩ I I;exact y3u (xM O)
 intro ap an;refine sN ?_;refine go4 ?_;refine zC I I ?_
 first|exact kO (by rw[<-yJ5];grind)|exact(wA (by rw[<-yJ5];grind)).symm|exact(yN (by rw[<-yJ5];grind)).symm
theorem zVQ{k:Nat}{va:Value}{a:Tq}(ra:(tPt k).Is h0 va a){vb:Value}{b:Tq}(rb:(tPt k).Is h0 vb b){vc:Value}{c:Tq}(rc:(tPt k).Is h0 vc c){vd:Value}{d:Tq}(rd:(tPt k).Is h0 vd d)(hcd0:k<=9000):
 Calls prog 201 #[va,vb,vc,vd] w0 (Ret w0 h0 (λ_ r=>r=vI (zEI (pr a 0 1) (pr b 0 1) (pr c 0 1) (pr d 0 1)))):=by
 refine jT (n:=72) (e:=[(0,va),(1,vb),(2,vc),(3,vd)]) (vs:=[va,vb,vc,vd]) func201 rfl rfl (bL rfl) hs e4z (go2 ?_);refine nB ra λb4 ae ay=>(nB rb λb5 ad ax=>(nB rc λb6 ac aq=>(nB rd λb7 ab ap=>(go4 ?_))));refine zL 6 _ [(2,(9,31,y6u)),(3,(10,31,y6u))] [(0,.q),(1,.q),(2,.a),(3,.a),(4,.c),(5,.c)] yF (kL.cons I I (qQ yS I I) (kL.cons I I (qQ yS I I) kL.nil)) zou (qR I I (qR I I gY)) (λr hr=>hr) (wX I (xB zN pH ay) λfm ec=>(wX I (xB zN pH ax) λfl eb=>?_));refine w_a I I (λb9=>?_);have ce:(tPt (k+1)).R h0 y6u zT:=(xW (yM oM));refine w_a I I (λO=>?_);have bk:(tPt (k+1)).R h0 y6u zT:=(xW (yM oM));refine w_c I (lG (A:=[_]) (uB sizeOf31 pH ce (ec.le (Le.t (Le.q (l:=k+1) oM)))) (xQ zoy) λbg ai=>?_);refine w_c I (lG (A:=[]) (uB sizeOf31 pH bk (eb.le (Le.t (Le.q (l:=k+1) oM)))) (xQ zoy) λaw ah=>(go2 ?_));refine jR (ι:=List Value×Mem) (λ(C,m1)=>MLe h0 m1/\((tPt (k+1)).R m1 C (mxT a c 0 1)/\True)) (λ(C,m1)=>[(4,vP b4 0),(5,vP b5 0),(6,vP b6 0),(7,vP b7 0),(9,vP b9 0),(10,vP O 0)]) (λ(C,m1)=>[.var O 31 aw,.var b9 31 C,.var b7 31 ab,.var b6 31 ac,.var b5 31 ad,.var b4 31 ae]) (λ(C,m1)=>m1) ?_ ?_
 ·
  refine go2 ?_;refine lX (xB zN pH ai) λfk ea=>(lX (xB zN pH aq) λfj dz=>(cL (ev2 I I) call200 (λw hs=>pT hs ea (dz.le (Le.t (Le.q (l:=k+1) oM))) oM) λcd h1 an dy=>?_));obtain rfl:cd=vB (lx (pr a 0 1) (pr c 0 1)):=dy;refine gc2 (λav=>?_) λav=>?_
  ·
   refine go1 ?_;refine lX (xB zN pH aq) λfi dx=>(yD (A:=[_]) (uB sizeOf31 pH ai (dx.le (Le.t (Le.q (l:=k+1) oM)))) λbf ba=>(go1 ?_));refine zV (bf,h1) ?_ e6z I I;refine⟨an,?_⟩;refine⟨(Rp.castR ba (zau av).symm),?_⟩
   trivial
  refine go1 ?_;refine zV (bg,h1) ?_ e6z I I;refine⟨an,?_⟩;refine⟨(Rp.castR ai.up (zae av).symm),?_⟩
  trivial
 rintro⟨C,m1⟩ ⟨ee,aa⟩
 refine xD ?_;obtain⟨H,aa⟩:=aa;refine jR (ι:=List Value×Mem) (λ(D,m2)=>MLe m1 m2/\((tPt (k+1)).R m2 D (mnT b d 0 1)/\True)) (λ(D,m2)=>[(4,vP b4 0),(5,vP b5 0),(6,vP b6 0),(7,vP b7 0),(9,vP b9 0),(10,vP O 0)]) (λ(D,m2)=>[.var O 31 D,.var b9 31 C,.var b7 31 ab,.var b6 31 ac,.var b5 31 ad,.var b4 31 ae]) (λ(D,m2)=>m2) ?_ ?_
 ·
  refine go2 ?_;refine lX (xB zN pH ap) λfh dw=>(lX (xB zN pH ah) λfg dv=>(cL (ev2 I I) call200 (λw hs=>pT hs (dw.le (Le.t (Le.q (l:=k+1) oM))) dv oM) λcc h1 an du=>?_));obtain rfl:cc=vB (lx (pr d 0 1) (pr b 0 1)):=du;refine gc2 (λau=>?_) λau=>?_
  ·
   refine go1 ?_;refine lX (xB zN pH ap) λff dt=>(yD (A:=[]) (uB sizeOf31 pH ah (dt.le (Le.t (Le.q (l:=k+1) oM)))) λbe az=>(go1 ?_));refine zV (be,h1) ?_ e6z I I;refine⟨an,?_⟩;refine⟨(Rp.castR az (zau au).symm),?_⟩
   trivial
  refine go1 ?_;refine zV (aw,h1) ?_ e6z I I;refine⟨an,?_⟩;refine⟨(Rp.castR ah.up (zae au).symm),?_⟩
  trivial
 rintro⟨D,m2⟩ ⟨ed,aa⟩
 refine xD ?_;obtain⟨ao,aa⟩:=aa;refine go4 ?_;refine lX (xB zN pH ao) λfe dr=>(lX (xB zN pH H) λfd dq=>(cL (ev2 I I) call200 (λw hs=>pT hs dr dq oM) λcb h1 an dp=>?_));obtain rfl:cb=vB (lx (pr (mnT b d 0 1) 0 1) (pr (mxT a c 0 1) 0 1)):=dp;refine gc3 (λbp=>?_) λbp=>?_
 ·
  refine go8 ?_;refine zC I I ?_;refine zbi vI ?_;rw[<-zG7 I I];unfold zG8;grind
 refine go2 ?_;refine lX (xB zN pH H) λfc dn=>(lX (xB zN pH ao) λfb dm=>(cL (ev2 I I) call174 (λw hs=>jO hs dn dm oM) λca h2 fp dl=>?_));obtain rfl:ca=vB ((pr (mxT a c 0 1) 0 1)=(pr (mnT b d 0 1) 0 1)):=dl;refine gc4 (λbo=>?_) λbo=>?_
 ·
  refine go8 ?_;refine zC I I ?_;refine zbi vI ?_;rw[<-zG7 I I];unfold zG8;grind
 refine go2 ?_;refine lX (xB zN pH H) λfa dk=>(lX (xB zN pH ay) λez dj=>(cL (ev2 I I) call174 (λw hs=>jO hs dk (dj.le (Le.t (Le.q (l:=k+1) oM))) oM) λbz h3 fo di=>?_));obtain rfl:bz=vB ((pr (mxT a c 0 1) 0 1)=(pr a 0 1)):=di;refine qE (ι:=Mem) 5 (λM=>MLe h3 M) (λ_=>[(38,vB (((pr (mxT a c 0 1) 0 1)=(pr a 0 1))\/((pr (mxT a c 0 1) 0 1)=(pr b 0 1)))),(4,vP b4 0),(5,vP b5 0),(6,vP b6 0),(7,vP b7 0),(9,vP b9 0)]) (λ_=>[.var O 31 D,.var b9 31 C,.var b7 31 ab,.var b6 31 ac,.var b5 31 ad,.var b4 31 ae]) (λM=>M) ?_ ?_
 ·
  refine zY ((pr (mxT a c 0 1) 0 1)=(pr a 0 1)) (λJ=>?_) (λJ=>?_)
  ·
   refine gT J I (go5 ?_);refine zV h3 (MLe.refl _) ⟨?_,I,I,I,I,I,y3e⟩ I I;exact y3u (vV J)
  refine gF J I (go1 ?_);refine lX (xB zN pH H) λey dh=>(go1 ?_);refine lX (xB zN pH ax) λew df=>(go1 ?_);refine cL (ev2 I I) call174 (λw hs=>jO hs dh (df.le (Le.t (Le.q (l:=k+1) oM))) oM) λbx h4 Z de=>?_;obtain rfl:bx=vB ((pr (mxT a c 0 1) 0 1)=(pr b 0 1)):=de;refine go2 ?_;refine zV h4 Z ⟨?_,I,I,I,I,I,y3e⟩ I I;exact y3u (vW J)
 intro am bj;refine sN ?_;refine qE (ι:=Mem) 10 (λM=>MLe am M) (λ_=>[(48,vB ((((pr (mxT a c 0 1) 0 1)=(pr a 0 1))\/((pr (mxT a c 0 1) 0 1)=(pr b 0 1)))/\(((pr (mxT a c 0 1) 0 1)=(pr c 0 1))\/((pr (mxT a c 0 1) 0 1)=(pr d 0 1))))),(4,vP b4 0),(5,vP b5 0),(6,vP b6 0),(7,vP b7 0),(9,vP b9 0)]) (λ_=>[.var O 31 D,.var b9 31 C,.var b7 31 ab,.var b6 31 ac,.var b5 31 ad,.var b4 31 ae]) (λM=>M) ?_ ?_
 ·
  refine zY (((pr (mxT a c 0 1) 0 1)=(pr a 0 1))\/((pr (mxT a c 0 1) 0 1)=(pr b 0 1))) (λJ=>?_) (λJ=>?_)
  ·
   refine gT J I (go1 ?_);refine lX (xB zN pH H) λev dd=>(go1 ?_);refine lX (xB zN pH aq) λeu dc=>(go1 ?_);refine cL (ev2 I I) call174 (λw hs=>jO hs dd (dc.le (Le.t (Le.q (l:=k+1) oM))) oM) λbw h4 Z db=>?_;obtain rfl:bw=vB ((pr (mxT a c 0 1) 0 1)=(pr c 0 1)):=db;refine qE (ι:=Mem) 5 (λM=>MLe h4 M) (λ_=>[(47,vB (((pr (mxT a c 0 1) 0 1)=(pr c 0 1))\/((pr (mxT a c 0 1) 0 1)=(pr d 0 1)))),(4,vP b4 0),(5,vP b5 0),(6,vP b6 0),(7,vP b7 0),(9,vP b9 0),(39,.bool true)]) (λ_=>[.var O 31 D,.var b9 31 C,.var b7 31 ab,.var b6 31 ac,.var b5 31 ad,.var b4 31 ae]) (λM=>M) ?_ ?_
   ·
    refine zY ((pr (mxT a c 0 1) 0 1)=(pr c 0 1)) (λJ=>?_) (λJ=>?_)
    ·
     refine go1 ?_;refine gT J I (go6 ?_);refine zV h4 (MLe.refl _) ⟨?_,I,I,I,I,I,I,y3e⟩ I I;exact y3u (vV J)
    refine go1 ?_;refine gF J I (go1 ?_);refine lX (xB zN pH H) λes da=>(go1 ?_);refine lX (xB zN pH ap) λer cz=>(go1 ?_);refine cL (ev2 I I) call174 (λw hs=>jO hs da (cz.le (Le.t (Le.q (l:=k+1) oM))) oM) λbv h5 bd cy=>?_;obtain rfl:bv=vB ((pr (mxT a c 0 1) 0 1)=(pr d 0 1)):=cy;refine go3 ?_;refine zV h5 bd ⟨?_,I,I,I,I,I,I,y3e⟩ I I;exact y3u (vW J)
   intro ar aj;refine sN ?_;refine go2 ?_;refine zV ar (Z.trans aj) ⟨?_,I,I,I,I,I,y3e⟩ I I;exact y3u (xL J)
  refine gF J I (uQ ?_);refine zV am (MLe.refl _) ⟨?_,I,I,I,I,I,y3e⟩ I I;exact y3u (xM J)
 intro ak bi;refine sN ?_;refine qE (ι:=Mem) 6 (λM=>MLe ak M) (λ_=>[(54,vB (((((pr (mxT a c 0 1) 0 1)=(pr a 0 1))\/((pr (mxT a c 0 1) 0 1)=(pr b 0 1)))/\(((pr (mxT a c 0 1) 0 1)=(pr c 0 1))\/((pr (mxT a c 0 1) 0 1)=(pr d 0 1))))/\(onS (pr a 0 1) (pr b 0 1) (pr (mxT a c 0 1) 0 1)))),(4,vP b4 0),(5,vP b5 0),(6,vP b6 0),(7,vP b7 0),(9,vP b9 0)]) (λ_=>[.var O 31 D,.var b9 31 C,.var b7 31 ab,.var b6 31 ac,.var b5 31 ad,.var b4 31 ae]) (λM=>M) ?_ ?_
 ·
  refine zY ((((pr (mxT a c 0 1) 0 1)=(pr a 0 1))\/((pr (mxT a c 0 1) 0 1)=(pr b 0 1)))/\(((pr (mxT a c 0 1) 0 1)=(pr c 0 1))\/((pr (mxT a c 0 1) 0 1)=(pr d 0 1)))) (λJ=>?_) (λJ=>?_)
  ·
   refine gT J I (go1 ?_);refine lX (xB zN pH ay) λeq cw=>(go1 ?_);refine lX (xB zN pH ax) λep cv=>(go1 ?_);refine lX (xB zN pH H) λeo cu=>(go1 ?_);refine cL (ev3 I I I) call184 (λw hs=>eC hs (cw.le (Le.t (Le.q (l:=k+1) oM))) (cv.le (Le.t (Le.q (l:=k+1) oM))) cu oM) λbu h4 Z ct=>?_;obtain rfl:bu=vB (onS (pr a 0 1) (pr b 0 1) (pr (mxT a c 0 1) 0 1)):=ct;refine go2 ?_;refine zV h4 Z ⟨?_,I,I,I,I,I,y3e⟩ I I;exact y3u (xL J)
  refine gF J I (go6 ?_);refine zV ak (MLe.refl _) ⟨?_,I,I,I,I,I,y3e⟩ I I;exact y3u (xM J)
 intro U bc;refine sN ?_;refine qE (ι:=Mem) 6 (λM=>MLe U M) (λ_=>[(60,vB ((((((pr (mxT a c 0 1) 0 1)=(pr a 0 1))\/((pr (mxT a c 0 1) 0 1)=(pr b 0 1)))/\(((pr (mxT a c 0 1) 0 1)=(pr c 0 1))\/((pr (mxT a c 0 1) 0 1)=(pr d 0 1))))/\(onS (pr a 0 1) (pr b 0 1) (pr (mxT a c 0 1) 0 1)))/\(onS (pr c 0 1) (pr d 0 1) (pr (mxT a c 0 1) 0 1)))),(4,vP b4 0),(5,vP b5 0),(6,vP b6 0),(7,vP b7 0),(9,vP b9 0)]) (λ_=>[.var O 31 D,.var b9 31 C,.var b7 31 ab,.var b6 31 ac,.var b5 31 ad,.var b4 31 ae]) (λM=>M) ?_ ?_
 ·
  refine zY (((((pr (mxT a c 0 1) 0 1)=(pr a 0 1))\/((pr (mxT a c 0 1) 0 1)=(pr b 0 1)))/\(((pr (mxT a c 0 1) 0 1)=(pr c 0 1))\/((pr (mxT a c 0 1) 0 1)=(pr d 0 1))))/\(onS (pr a 0 1) (pr b 0 1) (pr (mxT a c 0 1) 0 1))) (λJ=>?_) (λJ=>?_)
  ·
   refine gT J I (go1 ?_);refine lX (xB zN pH aq) λen cq=>(go1 ?_);refine lX (xB zN pH ap) λem cp=>(go1 ?_);refine lX (xB zN pH H) λel co=>(go1 ?_);refine cL (ev3 I I I) call184 (λw hs=>eC hs (cq.le (Le.t (Le.q (l:=k+1) oM))) (cp.le (Le.t (Le.q (l:=k+1) oM))) co oM) λbt h4 Z cn=>?_;obtain rfl:bt=vB (onS (pr c 0 1) (pr d 0 1) (pr (mxT a c 0 1) 0 1)):=cn;refine go2 ?_;refine zV h4 Z ⟨?_,I,I,I,I,I,y3e⟩ I I;exact y3u (xL J)
  refine gF J I (go6 ?_);refine zV U (MLe.refl _) ⟨?_,I,I,I,I,I,y3e⟩ I I;exact y3u (xM J)
 intro bl bb;refine sN ?_;refine gc3 (λbn=>?_) λbn=>?_
 ·
  refine go8 ?_;refine zC I I ?_;refine zbi vI ?_;rw[<-zG7 I I];unfold zG8;grind
 refine go2 ?_;refine lX (xB zN pH ay) λek cm=>(lX (xB zN pH ax) λej cl=>(lX (xB zN pH H) λei ck=>(cL (ev3 I I I) call184 (λw hs=>eC hs (cm.le (Le.t (Le.q (l:=k+1) oM))) (cl.le (Le.t (Le.q (l:=k+1) oM))) ck oM) λbs h4 Z cj=>?_)));obtain rfl:bs=vB (onS (pr a 0 1) (pr b 0 1) (pr (mxT a c 0 1) 0 1)):=cj;refine qE (ι:=Mem) 6 (λM=>MLe h4 M) (λ_=>[(71,vB ((onS (pr a 0 1) (pr b 0 1) (pr (mxT a c 0 1) 0 1))/\(onS (pr c 0 1) (pr d 0 1) (pr (mxT a c 0 1) 0 1))))]) (λ_=>[.var O 31 D,.var b9 31 C,.var b7 31 ab,.var b6 31 ac,.var b5 31 ad,.var b4 31 ae]) (λM=>M) ?_ ?_
 ·
  refine zY (onS (pr a 0 1) (pr b 0 1) (pr (mxT a c 0 1) 0 1)) (λJ=>?_) (λJ=>?_)
  ·
   refine gT J I (go1 ?_);refine lX (xB zN pH aq) λeh ci=>(go1 ?_);refine lX (xB zN pH ap) λeg ch=>(go1 ?_);refine lX (xB zN pH H) λef cg=>(go1 ?_);refine cL (ev3 I I I) call184 (λw hs=>eC hs (ci.le (Le.t (Le.q (l:=k+1) oM))) (ch.le (Le.t (Le.q (l:=k+1) oM))) cg oM) λbr h5 bd cf=>?_;obtain rfl:br=vB (onS (pr c 0 1) (pr d 0 1) (pr (mxT a c 0 1) 0 1)):=cf;refine go2 ?_;refine zV h5 bd ⟨?_,y3e⟩ I I;exact y3u (xL J)
  refine gF J I (go6 ?_);refine zV h4 (MLe.refl _) ⟨?_,y3e⟩ I I;exact y3u (xM J)
 intro bq bh;refine sN ?_;refine gc3 (λbm=>?_) λbm=>?_
 ·
  refine go8 ?_;refine zC I I ?_;refine zbi vI ?_;rw[<-zG7 I I];unfold zG8;grind
 refine go9 ?_;refine zC I I ?_;refine zbi vI ?_;rw[<-zG7 I I];unfold zG8;grind
theorem zNW{k:Nat}{va:Value}{a:Tq}(ra:(tPt k).Is h0 va a){vb:Value}{b:Tq}(rb:(tPt k).Is h0 vb b){vc:Value}{c:Tq}(rc:(tPt k).Is h0 vc c){vd:Value}{d:Tq}(rd:(tPt k).Is h0 vd d)(hcd0:k<=10000):
 Calls prog 202 #[va,vb,vc,vd] w0 (Ret w0 h0 (λ_ r=>r=vI (dY (pr a 0 1) (pr b 0 1) (pr c 0 1) (pr d 0 1)))):=by
 refine jT (n:=29) (e:=[(0,va),(1,vb),(2,vc),(3,vd)]) (vs:=[va,vb,vc,vd]) func202 rfl rfl (bL rfl) hs e4z (go2 ?_);refine nB ra λb4 ae Z=>(nB rb λb5 ad ai=>(nB rc λb6 ac U=>(nB rd λb7 ab ah=>(go6 ?_))));refine lX (xB zN pH Z) λv9 r9=>(lX (xB zN pH ai) λbp be=>(cL (ev2 I I) call174 (λw hs=>jO hs r9 be oM) λap h1 bq bd=>?_));obtain rfl:ap=vB ((pr a 0 1)=(pr b 0 1)):=bd;refine qE (ι:=Mem) 6 (λJ=>MLe h1 J) (λ_=>[(17,vB (((pr a 0 1)=(pr b 0 1))/\(onS (pr c 0 1) (pr d 0 1) (pr a 0 1)))),(4,vP b4 0),(5,vP b5 0),(6,vP b6 0),(7,vP b7 0)]) (λ_=>[.var b7 31 ab,.var b6 31 ac,.var b5 31 ad,.var b4 31 ae]) (λJ=>J) ?_ ?_
 ·
  refine zY ((pr a 0 1)=(pr b 0 1)) (λC=>?_) (λC=>?_)
  ·
   refine gT C I (go1 ?_);refine lX (xB zN pH U) λbo bc=>(go1 ?_);refine lX (xB zN pH ah) λbn bb=>(go1 ?_);refine lX (xB zN pH Z) λbm ba=>(go1 ?_);refine cL (ev3 I I I) call184 (λw hs=>eC hs bc bb ba oM) λao h2 aa az=>?_;obtain rfl:ao=vB (onS (pr c 0 1) (pr d 0 1) (pr a 0 1)):=az;refine go2 ?_;refine zV h2 aa ⟨?_,I,I,I,I,y3e⟩ I I;exact y3u (xL C)
  refine gF C I (go6 ?_);refine zV h1 (MLe.refl _) ⟨?_,I,I,I,I,y3e⟩ I I;exact y3u (xM C)
 intro H ak;refine sN ?_;refine qE (ι:=Mem) 11 (λJ=>MLe H J) (λ_=>[(28,vB ((((pr a 0 1)=(pr b 0 1))/\(onS (pr c 0 1) (pr d 0 1) (pr a 0 1)))\/(((pr c 0 1)=(pr d 0 1))/\(onS (pr a 0 1) (pr b 0 1) (pr c 0 1)))))]) (λ_=>[.var b7 31 ab,.var b6 31 ac,.var b5 31 ad,.var b4 31 ae]) (λJ=>J) ?_ ?_
 ·
  refine zY (((pr a 0 1)=(pr b 0 1))/\(onS (pr c 0 1) (pr d 0 1) (pr a 0 1))) (λC=>?_) (λC=>?_)
  ·
   refine gT C I (qK ?_);refine zV H (MLe.refl _) ⟨?_,y3e⟩ I I;exact y3u (vV C)
  refine gF C I (go1 ?_);refine lX (xB zN pH U) λbl ay=>(go1 ?_);refine lX (xB zN pH ah) λbk ax=>(go1 ?_);refine cL (ev2 I I) call174 (λw hs=>jO hs ay ax oM) λan h2 aa aw=>?_;obtain rfl:an=vB ((pr c 0 1)=(pr d 0 1)):=aw;refine qE (ι:=Mem) 6 (λJ=>MLe h2 J) (λ_=>[(27,vB (((pr c 0 1)=(pr d 0 1))/\(onS (pr a 0 1) (pr b 0 1) (pr c 0 1)))),(18,.bool false)]) (λ_=>[.var b7 31 ab,.var b6 31 ac,.var b5 31 ad,.var b4 31 ae]) (λJ=>J) ?_ ?_
  ·
   refine zY ((pr c 0 1)=(pr d 0 1)) (λC=>?_) (λC=>?_)
   ·
    refine go1 ?_;refine gT C I (go1 ?_);refine lX (xB zN pH Z) λbj av=>(go1 ?_);refine lX (xB zN pH ai) λbi au=>(go1 ?_);refine lX (xB zN pH U) λbh ar=>(go1 ?_);refine cL (ev3 I I I) call184 (λw hs=>eC hs av au ar oM) λam h3 bg aq=>?_;obtain rfl:am=vB (onS (pr a 0 1) (pr b 0 1) (pr c 0 1)):=aq;refine go3 ?_;refine zV h3 bg ⟨?_,I,y3e⟩ I I;exact y3u (xL C)
   refine go1 ?_;refine gF C I (go7 ?_);refine zV h2 (MLe.refl _) ⟨?_,I,y3e⟩ I I;exact y3u (xM C)
  intro O D;refine sN ?_;refine go2 ?_;refine zV O (aa.trans D) ⟨?_,y3e⟩ I I;exact y3u (vW C)
 intro bf aj;refine sN ?_;refine gc2 (λM=>?_) λM=>?_
 ·
  refine go7 ?_;refine zC I I ?_;exact zbi vI (zau M).symm
 refine go8 ?_;refine zC I I ?_;exact zbi vI (zae M).symm
theorem zGM{k:Nat}{va:Value}{a:Tq}(ra:(tPt k).Is h0 va a){vb:Value}{b:Tq}(rb:(tPt k).Is h0 vb b){vc:Value}{c:Tq}(rc:(tPt k).Is h0 vc c){vd:Value}{d:Tq}(rd:(tPt k).Is h0 vd d)(hcd0:k<=5000):
 Calls prog 175 #[va,vb,vc,vd] w0 (Ret w0 h0 (λ_ r=>r=vI (oO (pr a 0 1) (pr b 0 1) (pr c 0 1) (pr d 0 1)))):=by
 refine jT (n:=117) (e:=[(0,va),(1,vb),(2,vc),(3,vd)]) (vs:=[va,vb,vc,vd]) func175 rfl rfl (bL rfl) hs e4z (go2 ?_);refine nB ra λb4 kg cc=>(nB rb λb5 kf cb=>(nB rc λb6 ke ca=>(nB rd λb7 kd bz=>(go4 ?_))));refine zL 8 _ [] [(0,.q),(2,.q),(4,.q),(6,.q),(1,.c),(3,.c),(5,.c),(7,.c),(8,.t),(9,.t),(10,.t),(11,.t)] yF nX (wS zou) nX (λr hr=>hr) (wX I (xB zN pH cc) λjv gj=>(wX I (xB zN pH cb) λjt gh=>(wX I (xB zN pH ca) λjr gf=>(wX I (xB zN pH bz) λjp gc=>?_))));refine w_c I (sC (ev1 I) call185 (λw hs=>bE hs gj) λju h1 kb gi=>?_);refine w_c I (sC (ev1 I) call185 (λw hs=>bE hs gh.up) λjs h2 ka gg=>?_);refine w_c I (sC (ev1 I) call185 (λw hs=>bE hs gf.up) λjq h3 jz ge=>?_);refine w_c I (sC (ev1 I) call185 (λw hs=>bE hs gc.up) λjo h4 jy gb=>?_);have bd:=(Le.t (Le.q (l:=k+1) oM)).R cc;refine yJ (A:=[_,_,_]) I (uB sizeOf31 pH bd gi) λbp ad=>?_;have bc:=(Le.t (Le.q (l:=k+1) oM)).R cb;refine yJ (A:=[_,_]) I (uB sizeOf31 pH bc gg) λbo ac=>?_;have bb:=(Le.t (Le.q (l:=k+1) oM)).R ca;refine yJ (A:=[_]) I (uB sizeOf31 pH bb ge) λaz ab=>?_;have ba:=(Le.t (Le.q (l:=k+1) oM)).R bz;refine yJ (A:=[]) I (uB sizeOf31 pH ba gb) λay aa=>(go2 ?_);refine jR (ι:=List Value×List Value×Mem) (λ(D,C,m1)=>MLe h4 m1/\((tPt (k+1)).R m1 D (loT (zZ a) (zZ b) 0 1)/\(tPt (k+1)).R m1 C (hiT (zZ a) (zZ b) 0 1)/\True)) (λ(D,C,m1)=>[(4,vP b4 0),(5,vP b5 0),(6,vP b6 0),(7,vP b7 0)]) (λ(D,C,m1)=>[.var b7 31 ay,.var b6 31 az,.var b5 31 C,.var b4 31 D]) (λ(D,C,m1)=>m1) ?_ ?_
 ·
  refine go2 ?_;refine lX (xB zN pH ac) λjn ga=>(lX (xB zN pH ad) λjm fz=>(cL (ev2 I I) call200 (λw hs=>pT hs ga fz oM) λdp h5 ap fy=>?_));obtain rfl:dp=vB (lx (pr (zZ b) 0 1) (pr (zZ a) 0 1)):=fy;refine gc2 (λaj=>?_) λaj=>?_
  ·
   refine go1 ?_;refine lX (xB zN pH ac) λjl fx=>(lX (xB zN pH ad) λjk fw=>(yD (A:=[_,_,_]) (uB sizeOf31 pH ad fx) λbn bh=>(yD (A:=[_,_]) (uB sizeOf31 pH ac fw) λbm bg=>(go1 ?_))));refine zV (bn,bm,h5) ?_ e4z I I;refine⟨ap,?_⟩;refine⟨(Rp.castR bh (zau aj).symm),(Rp.castR bg (zau aj).symm),?_⟩
   trivial
  refine go1 ?_;refine zV (bp,bo,h5) ?_ e4z I I;refine⟨ap,?_⟩;refine⟨(Rp.castR ad.up (zae aj).symm),(Rp.castR ac.up (zae aj).symm),?_⟩
  trivial
 rintro⟨D,C,m1⟩ ⟨ha,ah⟩
 refine xD ?_;obtain⟨Z,U,ah⟩:=ah;refine jR (ι:=List Value×List Value×Mem) (λ(J,H,m2)=>MLe m1 m2/\((tPt (k+1)).R m2 J (loT (zZ c) (zZ d) 0 1)/\(tPt (k+1)).R m2 H (hiT (zZ c) (zZ d) 0 1)/\True)) (λ(J,H,m2)=>[(4,vP b4 0),(5,vP b5 0),(6,vP b6 0),(7,vP b7 0)]) (λ(J,H,m2)=>[.var b7 31 H,.var b6 31 J,.var b5 31 C,.var b4 31 D]) (λ(J,H,m2)=>m2) ?_ ?_
 ·
  refine go2 ?_;refine lX (xB zN pH aa) λjj fv=>(lX (xB zN pH ab) λji fu=>(cL (ev2 I I) call200 (λw hs=>pT hs fv fu oM) λdn h5 ap ft=>?_));obtain rfl:dn=vB (lx (pr (zZ d) 0 1) (pr (zZ c) 0 1)):=ft;refine gc2 (λai=>?_) λai=>?_
  ·
   refine go1 ?_;refine lX (xB zN pH aa) λjh fs=>(lX (xB zN pH ab) λjg fr=>(yD (A:=[_]) (uB sizeOf31 pH ab fs) λbl bf=>(yD (A:=[]) (uB sizeOf31 pH aa fr) λbk be=>(go1 ?_))));refine zV (bl,bk,h5) ?_ e4z I I;refine⟨ap,?_⟩;refine⟨(Rp.castR bf (zau ai).symm),(Rp.castR be (zau ai).symm),?_⟩
   trivial
  refine go1 ?_;refine zV (az,ay,h5) ?_ e4z I I;refine⟨ap,?_⟩;refine⟨(Rp.castR ab.up (zae ai).symm),(Rp.castR aa.up (zae ai).symm),?_⟩
  trivial
 rintro⟨J,H,m2⟩ ⟨gz,ah⟩
 refine xD ?_;obtain⟨O,M,ah⟩:=ah;refine go3 ?_;refine lX (xB zN pH Z) λjf fq=>(lX (xB zN pH U) λje fp=>(lX (xB zN pH O) λjd fo=>(cL (ev3 I I I) call186 (λw hs=>tW hs fq fp fo oM) λdm h5 ap fm=>?_)));obtain rfl:dm=vI (orZ (pr (loT (zZ a) (zZ b) 0 1) 0 1) (pr (hiT (zZ a) (zZ b) 0 1) 0 1) (pr (loT (zZ c) (zZ d) 0 1) 0 1)):=fm;have gq:=tU (pr (loT (zZ a) (zZ b) 0 1) 0 1) (pr (hiT (zZ a) (zZ b) 0 1) 0 1) (pr (loT (zZ c) (zZ d) 0 1) 0 1);refine go1 ?_;refine qE (ι:=Mem) 7 (λm_=>MLe h5 m_) (λ_=>[(40,vB (((orZ (pr (loT (zZ a) (zZ b) 0 1) 0 1) (pr (hiT (zZ a) (zZ b) 0 1) 0 1) (pr (loT (zZ c) (zZ d) 0 1) 0 1))=(0:Int))/\((orZ (pr (loT (zZ a) (zZ b) 0 1) 0 1) (pr (hiT (zZ a) (zZ b) 0 1) 0 1) (pr (hiT (zZ c) (zZ d) 0 1) 0 1))=(0:Int)))),(4,vP b4 0),(5,vP b5 0),(6,vP b6 0),(7,vP b7 0)]) (λ_=>[.var b7 31 H,.var b6 31 J,.var b5 31 C,.var b4 31 D]) (λm_=>m_) ?_ ?_
 ·
  refine zY ((orZ (pr (loT (zZ a) (zZ b) 0 1) 0 1) (pr (hiT (zZ a) (zZ b) 0 1) 0 1) (pr (loT (zZ c) (zZ d) 0 1) 0 1))=(0:Int)) (λhg=>?_) (λhg=>?_)
  ·
   refine gT hg I (go1 ?_);refine lX (xB zN pH Z) λjc fl=>(go1 ?_);refine lX (xB zN pH U) λjb fk=>(go1 ?_);refine lX (xB zN pH M) λja fj=>(go1 ?_);refine cL (ev3 I I I) call186 (λw hs=>tW hs fl fk fj oM) λdl h6 ak fi=>?_;obtain rfl:dl=vI (orZ (pr (loT (zZ a) (zZ b) 0 1) 0 1) (pr (hiT (zZ a) (zZ b) 0 1) 0 1) (pr (hiT (zZ c) (zZ d) 0 1) 0 1)):=fi;have go:=tU (pr (loT (zZ a) (zZ b) 0 1) 0 1) (pr (hiT (zZ a) (zZ b) 0 1) 0 1) (pr (hiT (zZ c) (zZ d) 0 1) 0 1);refine go4 ?_;refine zV h6 ak ⟨?_,I,I,I,I,y3e⟩ I I;exact y3u (xL hg)
  refine gF hg I (go7 ?_);refine zV h5 (MLe.refl _) ⟨?_,I,I,I,I,y3e⟩ I I;exact y3u (xM hg)
 intro aq cq;refine sN ?_;refine qE (ι:=Mem) 7 (λm_=>MLe aq m_) (λ_=>[(47,vB ((((orZ (pr (loT (zZ a) (zZ b) 0 1) 0 1) (pr (hiT (zZ a) (zZ b) 0 1) 0 1) (pr (loT (zZ c) (zZ d) 0 1) 0 1))=(0:Int))/\((orZ (pr (loT (zZ a) (zZ b) 0 1) 0 1) (pr (hiT (zZ a) (zZ b) 0 1) 0 1) (pr (hiT (zZ c) (zZ d) 0 1) 0 1))=(0:Int)))/\((orZ (pr (loT (zZ c) (zZ d) 0 1) 0 1) (pr (hiT (zZ c) (zZ d) 0 1) 0 1) (pr (loT (zZ a) (zZ b) 0 1) 0 1))=(0:Int)))),(4,vP b4 0),(5,vP b5 0),(6,vP b6 0),(7,vP b7 0)]) (λ_=>[.var b7 31 H,.var b6 31 J,.var b5 31 C,.var b4 31 D]) (λm_=>m_) ?_ ?_
 ·
  refine zY (((orZ (pr (loT (zZ a) (zZ b) 0 1) 0 1) (pr (hiT (zZ a) (zZ b) 0 1) 0 1) (pr (loT (zZ c) (zZ d) 0 1) 0 1))=(0:Int))/\((orZ (pr (loT (zZ a) (zZ b) 0 1) 0 1) (pr (hiT (zZ a) (zZ b) 0 1) 0 1) (pr (hiT (zZ c) (zZ d) 0 1) 0 1))=(0:Int))) (λhg=>?_) (λhg=>?_)
  ·
   refine gT hg I (go1 ?_);refine lX (xB zN pH O) λiz fh=>(go1 ?_);refine lX (xB zN pH M) λiy fg=>(go1 ?_);refine lX (xB zN pH Z) λix ff=>(go1 ?_);refine cL (ev3 I I I) call186 (λw hs=>tW hs fh fg ff oM) λdk h6 ak fe=>?_;obtain rfl:dk=vI (orZ (pr (loT (zZ c) (zZ d) 0 1) 0 1) (pr (hiT (zZ c) (zZ d) 0 1) 0 1) (pr (loT (zZ a) (zZ b) 0 1) 0 1)):=fe;have gn:=tU (pr (loT (zZ c) (zZ d) 0 1) 0 1) (pr (hiT (zZ c) (zZ d) 0 1) 0 1) (pr (loT (zZ a) (zZ b) 0 1) 0 1);refine go4 ?_;refine zV h6 ak ⟨?_,I,I,I,I,y3e⟩ I I;exact y3u (xL hg)
  refine gF hg I (go7 ?_);refine zV aq (MLe.refl _) ⟨?_,I,I,I,I,y3e⟩ I I;exact y3u (xM hg)
 intro am br;refine sN ?_;refine qE (ι:=Mem) 7 (λm_=>MLe am m_) (λ_=>[(54,vB (((((orZ (pr (loT (zZ a) (zZ b) 0 1) 0 1) (pr (hiT (zZ a) (zZ b) 0 1) 0 1) (pr (loT (zZ c) (zZ d) 0 1) 0 1))=(0:Int))/\((orZ (pr (loT (zZ a) (zZ b) 0 1) 0 1) (pr (hiT (zZ a) (zZ b) 0 1) 0 1) (pr (hiT (zZ c) (zZ d) 0 1) 0 1))=(0:Int)))/\((orZ (pr (loT (zZ c) (zZ d) 0 1) 0 1) (pr (hiT (zZ c) (zZ d) 0 1) 0 1) (pr (loT (zZ a) (zZ b) 0 1) 0 1))=(0:Int)))/\((orZ (pr (loT (zZ c) (zZ d) 0 1) 0 1) (pr (hiT (zZ c) (zZ d) 0 1) 0 1) (pr (hiT (zZ a) (zZ b) 0 1) 0 1))=(0:Int)))),(4,vP b4 0),(5,vP b5 0),(6,vP b6 0),(7,vP b7 0)]) (λ_=>[.var b7 31 H,.var b6 31 J,.var b5 31 C,.var b4 31 D]) (λm_=>m_) ?_ ?_
 ·
  refine zY ((((orZ (pr (loT (zZ a) (zZ b) 0 1) 0 1) (pr (hiT (zZ a) (zZ b) 0 1) 0 1) (pr (loT (zZ c) (zZ d) 0 1) 0 1))=(0:Int))/\((orZ (pr (loT (zZ a) (zZ b) 0 1) 0 1) (pr (hiT (zZ a) (zZ b) 0 1) 0 1) (pr (hiT (zZ c) (zZ d) 0 1) 0 1))=(0:Int)))/\((orZ (pr (loT (zZ c) (zZ d) 0 1) 0 1) (pr (hiT (zZ c) (zZ d) 0 1) 0 1) (pr (loT (zZ a) (zZ b) 0 1) 0 1))=(0:Int))) (λhg=>?_) (λhg=>?_)
  ·
   refine gT hg I (go1 ?_);refine lX (xB zN pH O) λiw fd=>(go1 ?_);refine lX (xB zN pH M) λiv fc=>(go1 ?_);refine lX (xB zN pH U) λiu fb=>(go1 ?_);refine cL (ev3 I I I) call186 (λw hs=>tW hs fd fc fb oM) λdj h6 ak fa=>?_;obtain rfl:dj=vI (orZ (pr (loT (zZ c) (zZ d) 0 1) 0 1) (pr (hiT (zZ c) (zZ d) 0 1) 0 1) (pr (hiT (zZ a) (zZ b) 0 1) 0 1)):=fa;have gm:=tU (pr (loT (zZ c) (zZ d) 0 1) 0 1) (pr (hiT (zZ c) (zZ d) 0 1) 0 1) (pr (hiT (zZ a) (zZ b) 0 1) 0 1);refine go4 ?_;refine zV h6 ak ⟨?_,I,I,I,I,y3e⟩ I I;exact y3u (xL hg)
  refine gF hg I (go7 ?_);refine zV am (MLe.refl _) ⟨?_,I,I,I,I,y3e⟩ I I;exact y3u (xM hg)
 intro cz bq;refine sN ?_;refine gc2 (λcw=>?_) λcw=>?_
 ·
  refine go2 ?_;refine lX (xB zN pH Z) λir ez=>(lX (xB zN pH U) λiq ey=>(lX (xB zN pH O) λip ew=>(lX (xB zN pH M) λio ev=>(cL (ev4 I I I I) call201 (λw hs=>zVQ hs ez ey ew ev oM) λdi h6 ak eu=>?_))));obtain rfl:di=vI (zEI (pr (loT (zZ a) (zZ b) 0 1) 0 1) (pr (hiT (zZ a) (zZ b) 0 1) 0 1) (pr (loT (zZ c) (zZ d) 0 1) 0 1) (pr (hiT (zZ c) (zZ d) 0 1) 0 1)):=eu;refine go5 ?_;refine zC I I ?_;refine zbi vI ?_;rw[<-zA2 I I I I];unfold s8;grind
 refine go5 ?_;refine lX (xB zN pH Z) λim es=>(lX (xB zN pH U) λil er=>(cL (ev2 I I) call174 (λw hs=>jO hs es er oM) λdh h6 ak eq=>?_));obtain rfl:dh=vB ((pr (loT (zZ a) (zZ b) 0 1) 0 1)=(pr (hiT (zZ a) (zZ b) 0 1) 0 1)):=eq;refine qE (ι:=Mem) 5 (λm_=>MLe h6 m_) (λ_=>[(67,vB (((pr (loT (zZ a) (zZ b) 0 1) 0 1)=(pr (hiT (zZ a) (zZ b) 0 1) 0 1))\/((pr (loT (zZ c) (zZ d) 0 1) 0 1)=(pr (hiT (zZ c) (zZ d) 0 1) 0 1)))),(4,vP b4 0),(5,vP b5 0),(6,vP b6 0),(7,vP b7 0)]) (λ_=>[.var b7 31 H,.var b6 31 J,.var b5 31 C,.var b4 31 D]) (λm_=>m_) ?_ ?_
 ·
  refine zY ((pr (loT (zZ a) (zZ b) 0 1) 0 1)=(pr (hiT (zZ a) (zZ b) 0 1) 0 1)) (λhg=>?_) (λhg=>?_)
  ·
   refine gT hg I (go5 ?_);refine zV h6 (MLe.refl _) ⟨?_,I,I,I,I,y3e⟩ I I;exact y3u (vV hg)
  refine gF hg I (go1 ?_);refine lX (xB zN pH O) λik ep=>(go1 ?_);refine lX (xB zN pH M) λij eo=>(go1 ?_);refine cL (ev2 I I) call174 (λw hs=>jO hs ep eo oM) λdf h7 bj en=>?_;obtain rfl:df=vB ((pr (loT (zZ c) (zZ d) 0 1) 0 1)=(pr (hiT (zZ c) (zZ d) 0 1) 0 1)):=en;refine go2 ?_;refine zV h7 bj ⟨?_,I,I,I,I,y3e⟩ I I;exact y3u (vW hg)
 intro gk cp;refine sN ?_;refine gc2 (λcv=>?_) λcv=>?_
 ·
  refine go2 ?_;refine lX (xB zN pH Z) λii em=>(lX (xB zN pH U) λih el=>(lX (xB zN pH O) λig ek=>(lX (xB zN pH M) λie ej=>(cL (ev4 I I I I) call202 (λw hs=>zNW hs em el ek ej oM) λde h7 bj ei=>?_))));obtain rfl:de=vI (dY (pr (loT (zZ a) (zZ b) 0 1) 0 1) (pr (hiT (zZ a) (zZ b) 0 1) 0 1) (pr (loT (zZ c) (zZ d) 0 1) 0 1) (pr (hiT (zZ c) (zZ d) 0 1) 0 1)):=ei;refine go5 ?_;refine zC I I ?_;refine zbi vI ?_;rw[<-zA2 I I I I];unfold s8;grind
 refine go3 ?_;refine zL 20 _ [] [(0,.q),(1,.q),(2,.q),(4,.q),(5,.q),(6,.q),(9,.q),(10,.q),(11,.q),(13,.q),(14,.q),(15,.q),(3,.c),(7,.c),(8,.q),(12,.c),(16,.c),(17,.q),(18,.q),(19,.q)] yF nX (wS zou) nX (λr hr=>hr) (wX I (xB zN pH Z) λid eh=>(wX I (xB zN pH U) λic eg=>(wX I (xB zN pH O) λib ef=>(wX I (xB zN pH Z) λia ed=>(wX I (xB zN pH U) λhv ec=>(wX I (xB zN pH M) λhu eb=>(wX I (xB zN pH O) λhq dz=>(wX I (xB zN pH M) λhp dy=>(wX I (xB zN pH Z) λho dx=>(wX I (xB zN pH O) λhn dv=>(wX I (xB zN pH M) λhm du=>(wX I (xB zN pH U) λhl dt=>?_))))))))))));refine w_c I (sC (ev3 I I I) call186 (λw hs=>tW hs eh eg ef oM) λdd h7 bj ee=>?_);obtain rfl:dd=vI (orZ (pr (loT (zZ a) (zZ b) 0 1) 0 1) (pr (hiT (zZ a) (zZ b) 0 1) 0 1) (pr (loT (zZ c) (zZ d) 0 1) 0 1)):=ee;have aw:=tU (pr (loT (zZ a) (zZ b) 0 1) 0 1) (pr (hiT (zZ a) (zZ b) 0 1) 0 1) (pr (loT (zZ c) (zZ d) 0 1) 0 1);refine w_c I (sC (ev3 I I I) call186 (λw hs=>tW hs ed.up ec.up eb.up oM) λdc h8 jx ea=>?_);obtain rfl:dc=vI (orZ (pr (loT (zZ a) (zZ b) 0 1) 0 1) (pr (hiT (zZ a) (zZ b) 0 1) 0 1) (pr (hiT (zZ c) (zZ d) 0 1) 0 1)):=ea;have av:=tU (pr (loT (zZ a) (zZ b) 0 1) 0 1) (pr (hiT (zZ a) (zZ b) 0 1) 0 1) (pr (hiT (zZ c) (zZ d) 0 1) 0 1);refine xY I (λ_ _=>gX I I (by have:=w3 aw av;omega) (by have:=w3 aw av;omega)) I ?_;refine w_c I (sC (ev3 I I I) call186 (λw hs=>tW hs dz.up dy.up dx.up oM) λdb h9 jw dw=>?_);obtain rfl:db=vI (orZ (pr (loT (zZ c) (zZ d) 0 1) 0 1) (pr (hiT (zZ c) (zZ d) 0 1) 0 1) (pr (loT (zZ a) (zZ b) 0 1) 0 1)):=dw;have au:=tU (pr (loT (zZ c) (zZ d) 0 1) 0 1) (pr (hiT (zZ c) (zZ d) 0 1) 0 1) (pr (loT (zZ a) (zZ b) 0 1) 0 1);refine w_c I (sC (ev3 I I I) call186 (λw hs=>tW hs dv.up du.up dt.up oM) λda kc he dr=>?_);obtain rfl:da=vI (orZ (pr (loT (zZ c) (zZ d) 0 1) 0 1) (pr (hiT (zZ c) (zZ d) 0 1) 0 1) (pr (hiT (zZ a) (zZ b) 0 1) 0 1)):=dr;have ar:=tU (pr (loT (zZ c) (zZ d) 0 1) 0 1) (pr (hiT (zZ c) (zZ d) 0 1) 0 1) (pr (hiT (zZ a) (zZ b) 0 1) 0 1);refine xY I (λ_ _=>gX I I (by have:=w3 au ar;omega) (by have:=w3 au ar;omega)) I (uQ ?_);refine gU 4 97 (vB (((0:Int)<((orZ (pr (loT (zZ a) (zZ b) 0 1) 0 1) (pr (hiT (zZ a) (zZ b) 0 1) 0 1) (pr (loT (zZ c) (zZ d) 0 1) 0 1))*(orZ (pr (loT (zZ a) (zZ b) 0 1) 0 1) (pr (hiT (zZ a) (zZ b) 0 1) 0 1) (pr (hiT (zZ c) (zZ d) 0 1) 0 1))))\/((0:Int)<((orZ (pr (loT (zZ c) (zZ d) 0 1) 0 1) (pr (hiT (zZ c) (zZ d) 0 1) 0 1) (pr (loT (zZ a) (zZ b) 0 1) 0 1))*(orZ (pr (loT (zZ c) (zZ d) 0 1) 0 1) (pr (hiT (zZ c) (zZ d) 0 1) 0 1) (pr (hiT (zZ a) (zZ b) 0 1) 0 1)))))) ?_ ?_
 ·
  refine zY ((0:Int)<((orZ (pr (loT (zZ a) (zZ b) 0 1) 0 1) (pr (hiT (zZ a) (zZ b) 0 1) 0 1) (pr (loT (zZ c) (zZ d) 0 1) 0 1))*(orZ (pr (loT (zZ a) (zZ b) 0 1) 0 1) (pr (hiT (zZ a) (zZ b) 0 1) 0 1) (pr (hiT (zZ c) (zZ d) 0 1) 0 1)))) (λhg=>?_) (λhg=>?_)
  ·
   refine gT hg I (go4 ?_);refine gqU ?_;exact y3u (vV hg)
  refine gF hg I (go6 ?_);refine gqU ?_;exact y3u (vW hg)
 refine gc3 (λcu=>?_) λcu=>?_
 ·
  refine go8 ?_;refine zC I I ?_;refine zbi vI ?_;rw[<-zA2 I I I I];unfold s8;grind
 refine go2 ?_;refine lX (xB zN pH Z) λhj dq=>(lX (xB zN pH O) λgy cn=>(cL (ev2 I I) call174 (λw hs=>jO hs dq cn oM) λbx cy hb cm=>?_));obtain rfl:bx=vB ((pr (loT (zZ a) (zZ b) 0 1) 0 1)=(pr (loT (zZ c) (zZ d) 0 1) 0 1)):=cm;refine qE (ι:=Mem) 5 (λm_=>MLe cy m_) (λ_=>[(106,vB (((pr (loT (zZ a) (zZ b) 0 1) 0 1)=(pr (loT (zZ c) (zZ d) 0 1) 0 1))\/((pr (loT (zZ a) (zZ b) 0 1) 0 1)=(pr (hiT (zZ c) (zZ d) 0 1) 0 1)))),(5,vP b5 0),(6,vP b6 0),(7,vP b7 0)]) (λ_=>[.var b7 31 H,.var b6 31 J,.var b5 31 C,.var b4 31 D]) (λm_=>m_) ?_ ?_
 ·
  refine zY ((pr (loT (zZ a) (zZ b) 0 1) 0 1)=(pr (loT (zZ c) (zZ d) 0 1) 0 1)) (λhg=>?_) (λhg=>?_)
  ·
   refine gT hg I (go5 ?_);refine zV cy (MLe.refl _) ⟨?_,I,I,I,y3e⟩ I I;exact y3u (vV hg)
  refine gF hg I (go1 ?_);refine lX (xB zN pH Z) λgx cl=>(go1 ?_);refine lX (xB zN pH M) λgw ck=>(go1 ?_);refine cL (ev2 I I) call174 (λw hs=>jO hs cl ck oM) λbw ax ae cj=>?_;obtain rfl:bw=vB ((pr (loT (zZ a) (zZ b) 0 1) 0 1)=(pr (hiT (zZ c) (zZ d) 0 1) 0 1)):=cj;refine go2 ?_;refine zV ax ae ⟨?_,I,I,I,y3e⟩ I I;exact y3u (vW hg)
 intro ao bt;refine sN ?_;refine qE (ι:=Mem) 5 (λm_=>MLe ao m_) (λ_=>[(111,vB ((((pr (loT (zZ a) (zZ b) 0 1) 0 1)=(pr (loT (zZ c) (zZ d) 0 1) 0 1))\/((pr (loT (zZ a) (zZ b) 0 1) 0 1)=(pr (hiT (zZ c) (zZ d) 0 1) 0 1)))\/((pr (hiT (zZ a) (zZ b) 0 1) 0 1)=(pr (loT (zZ c) (zZ d) 0 1) 0 1)))),(5,vP b5 0),(7,vP b7 0)]) (λ_=>[.var b7 31 H,.var b6 31 J,.var b5 31 C,.var b4 31 D]) (λm_=>m_) ?_ ?_
 ·
  refine zY (((pr (loT (zZ a) (zZ b) 0 1) 0 1)=(pr (loT (zZ c) (zZ d) 0 1) 0 1))\/((pr (loT (zZ a) (zZ b) 0 1) 0 1)=(pr (hiT (zZ c) (zZ d) 0 1) 0 1))) (λhg=>?_) (λhg=>?_)
  ·
   refine gT hg I (go5 ?_);refine zV ao (MLe.refl _) ⟨?_,I,I,y3e⟩ I I;exact y3u (vV hg)
  refine gF hg I (go1 ?_);refine lX (xB zN pH U) λgu ci=>(go1 ?_);refine lX (xB zN pH O) λgt ch=>(go1 ?_);refine cL (ev2 I I) call174 (λw hs=>jO hs ci ch oM) λbv ax ae cg=>?_;obtain rfl:bv=vB ((pr (hiT (zZ a) (zZ b) 0 1) 0 1)=(pr (loT (zZ c) (zZ d) 0 1) 0 1)):=cg;refine go2 ?_;refine zV ax ae ⟨?_,I,I,y3e⟩ I I;exact y3u (vW hg)
 intro an bs;refine sN ?_;refine qE (ι:=Mem) 5 (λm_=>MLe an m_) (λ_=>[(116,vB (((((pr (loT (zZ a) (zZ b) 0 1) 0 1)=(pr (loT (zZ c) (zZ d) 0 1) 0 1))\/((pr (loT (zZ a) (zZ b) 0 1) 0 1)=(pr (hiT (zZ c) (zZ d) 0 1) 0 1)))\/((pr (hiT (zZ a) (zZ b) 0 1) 0 1)=(pr (loT (zZ c) (zZ d) 0 1) 0 1)))\/((pr (hiT (zZ a) (zZ b) 0 1) 0 1)=(pr (hiT (zZ c) (zZ d) 0 1) 0 1))))]) (λ_=>[.var b7 31 H,.var b6 31 J,.var b5 31 C,.var b4 31 D]) (λm_=>m_) ?_ ?_
 ·
  refine zY ((((pr (loT (zZ a) (zZ b) 0 1) 0 1)=(pr (loT (zZ c) (zZ d) 0 1) 0 1))\/((pr (loT (zZ a) (zZ b) 0 1) 0 1)=(pr (hiT (zZ c) (zZ d) 0 1) 0 1)))\/((pr (hiT (zZ a) (zZ b) 0 1) 0 1)=(pr (loT (zZ c) (zZ d) 0 1) 0 1))) (λhg=>?_) (λhg=>?_)
  ·
   refine gT hg I (go5 ?_);refine zV an (MLe.refl _) ⟨?_,y3e⟩ I I;exact y3u (vV hg)
  refine gF hg I (go1 ?_);refine lX (xB zN pH U) λgs cf=>(go1 ?_);refine lX (xB zN pH M) λgr ce=>(go1 ?_);refine cL (ev2 I I) call174 (λw hs=>jO hs cf ce oM) λbu ax ae cd=>?_;obtain rfl:bu=vB ((pr (hiT (zZ a) (zZ b) 0 1) 0 1)=(pr (hiT (zZ c) (zZ d) 0 1) 0 1)):=cd;refine go2 ?_;refine zV ax ae ⟨?_,y3e⟩ I I;exact y3u (vW hg)
 intro co bi;refine sN ?_;refine gc3 (λct=>?_) λct=>?_
 ·
  refine go8 ?_;refine zC I I ?_;refine zbi vI ?_;rw[<-zA2 I I I I];unfold s8;grind
 refine go9 ?_;refine zC I I ?_;refine zbi vI ?_;rw[<-zA2 I I I I];unfold s8;grind
theorem zN0{k:Nat}{vl:Value}{l:(List Tq)}(rl:(tLs k).Is h0 vl l){vp:Value}{p:Tq}(rp:(tPt k).Is h0 vp p)(hcd0:k<=9900)(hcd1:l.length<=1000):
 Calls prog 150 #[vl,vp] w0 (Ret w0 h0 (λ_ r=>r=vI (kW l (pr p 0 1) 0 1))):=by
 refine cb2 66 vl vp func150 hs ?_;refine go2 ?_;refine nB rp λb3 ae ac=>(pX ?_);refine gcL (ι:=Nat×Mem) (λ(m,ma)=>(MLe h0 ma/\(m<=l.length/\∀q,q<m->¬onS (vG l 0 1 q) (vD l 0 1 q) (pr p 0 1)),[(0,vl),(3,vP b3 0),(5,vB (jN l (pr p 0 1) 0 1 m)),(6,vI ↑m)],[.var b3 31 ae],ma,l.length-m)) (0,h0) ?_ ?_ (he:=⟨I,I,y3u (yN id).symm,I,y3e⟩)
 · exact⟨mle,by omega,λq hq=>by omega⟩
 rintro⟨m,ma⟩ ⟨cm,aw,ad⟩
 refine xD ?_;refine gc9 (λax=>?_) λax=>?_
 ·
  refine go5 ?_;refine zL 16 _ [(12,(7,31,y6u)),(13,(8,31,y6u))] (zai 0 12 [(12,.a),(13,.a),(14,.c),(15,.c)]) yF (kL.cons I I (qQ yS I I) (kL.cons I I (qQ yS I I) kL.nil)) (wS zou) (qR I I (qR I I gY)) (λr hr=>hr) (go2 ?_);refine wX I (xI zT m underlying35 zN rl) λdl cg=>(wX I (xA zN cg) λdk cf=>(go4 ?_));refine w_q I (λh' L' hh hR=>qO underlying35 I (rl.up.mono hh)) I (xY I (λ_ _=>wI I I oM oM) I (wX I (xI zT ((m+1)%l.length) underlying35 zN rl (hi:=by exact zcu _ oM)) λdj ce=>(wX I (xA zN ce) λdi cd=>?_)));refine w_a I I (λb7=>?_);have bh:(tPt (k+1)).R ma y6u zT:=(xW (yM oM));refine w_a I I (λb8=>?_);have bg:(tPt (k+1)).R ma y6u zT:=(xW (yM oM));refine w_c I (lG (A:=[_]) (uB sizeOf31 pH bh (cf.le (Le.t (Le.q (l:=k+1) oM)))) (xQ zoy) λba J=>?_);refine w_c I (lG (A:=[]) (uB sizeOf31 pH bg (cd.le (Le.t (Le.q (l:=k+1) oM)))) (xQ zoy) λaz H=>(go4 ?_));refine zL 7 _ [] [(0,.q),(2,.q),(4,.q),(1,.c),(3,.c),(5,.c),(6,.c)] yF nX zou nX (λr hr=>hr) (wX I (xB zN pH J) λdh cc=>(wX I (xB zN pH H) λde cb=>(wX I (xB zN pH ac) λdc ca=>?_)));refine w_c I (sC (ev1 I) call185 (λw hs=>bE hs cc) λdf h1 dq ao=>?_);replace ao:=Rp.Is.le ao (Le.t (Le.q (l:=k+2) oM));refine w_c I (sC (ev1 I) call185 (λw hs=>bE hs cb.up) λdd h2 dp an=>?_);replace an:=Rp.Is.le an (Le.t (Le.q (l:=k+2) oM));refine w_c I (sC (ev1 I) call185 (λw hs=>bE hs ca.up) λdb h3 dn bz=>?_);refine w_c I (sC (ev3 I I I) call184 (λw hs=>eC hs ao.up an.up (bz.le (Le.t (Le.q (l:=k+2) oM))) oM) λbf h4 dm bx=>?_);obtain rfl:bf=vB (onS (pr (T3.mk ((l.getD m zT).x) ((l.getD m zT).y) (0:Rat)) 0 1) (pr (T3.mk ((l.getD ((m+1)%l.length) zT).x) ((l.getD ((m+1)%l.length) zT).y) (0:Rat)) 0 1) (pr (zZ p) 0 1)):=bx;refine gc2 (λZ=>?_) λZ=>?_
  ·
   refine uY ?_;refine zC I I ?_;exact zbi vI (yA0 oM Z)
  refine go2 ?_;refine jR (ι:=List Value×List Value×Mem) (λ(D,C,mc)=>MLe h4 mc/\((tPt (k+1)).R mc D (zCO (l.getD m zT) (l.getD ((m+1)%l.length) zT))/\(tPt (k+1)).R mc C (zEO (l.getD m zT) (l.getD ((m+1)%l.length) zT))/\True)) (λ(D,C,mc)=>[(0,vl),(3,vP b3 0),(5,vB (jN l (pr p 0 1) 0 1 m)),(6,vI ↑m),(7,vP b7 0),(8,vP b8 0)]) (λ(D,C,mc)=>[.var b8 31 C,.var b7 31 D,.var b3 31 ae]) (λ(D,C,mc)=>mc) ?_ ?_
  ·
   refine go3 ?_;refine lX (xB yI (y5e pH) J) λda bw=>(go1 ?_);refine lX (xB yI (y5e pH) H) λcz bv=>(cL (ev2 I I) call17 (λw hs=>tK hs bw bv oM) λbe h5 ar bu=>?_);obtain rfl:be=vI (xU ((l.getD m zT).y) ((l.getD ((m+1)%l.length) zT).y)):=bu;have ck:=jF ((l.getD m zT).y) ((l.getD ((m+1)%l.length) zT).y);refine gc3 (λO=>?_) λO=>?_
   ·
    refine go1 ?_;refine lX (xB zN pH H) λcy bt=>(lX (xB zN pH J) λcw bs=>(yD (A:=[_]) (uB sizeOf31 pH J bt) λay am=>(yD (A:=[]) (uB sizeOf31 pH H bs) λau ak=>(go1 ?_))));refine zV (ay,au,h5) ?_ e6z I I;refine⟨ar,?_⟩;refine⟨(Rp.castR am (zau O).symm),(Rp.castR ak (zau O).symm),?_⟩
    trivial
   refine go1 ?_;refine zV (ba,az,h5) ?_ e6z I I;refine⟨ar,?_⟩;refine⟨(Rp.castR J.up (zae O).symm),(Rp.castR H.up (zae O).symm),?_⟩
   trivial
  rintro⟨D,C,mc⟩ ⟨cl,aj⟩
  refine xD ?_;obtain⟨ai,ah,aj⟩:=aj;refine go3 ?_;refine lX (xB yI (y5e pH) ai) λcv br=>(go1 ?_);refine lX (xB yI (y5e pH) ac) λcu bq=>(cL (ev2 I I) call17 (λw hs=>tK hs br bq oM) λbd h5 ar bp=>?_);obtain rfl:bd=vI (xU ((zCO (l.getD m zT) (l.getD ((m+1)%l.length) zT)).y) p.y):=bp;have cj:=jF ((zCO (l.getD m zT) (l.getD ((m+1)%l.length) zT)).y) p.y;refine go1 ?_;refine qE (ι:=Mem) 8 (λm_=>MLe h5 m_) (λ_=>[(55,vB (((xU ((zCO (l.getD m zT) (l.getD ((m+1)%l.length) zT)).y) p.y)<=(0:Int))/\((xU p.y ((zEO (l.getD m zT) (l.getD ((m+1)%l.length) zT)).y))<(0:Int)))),(0,vl),(3,vP b3 0),(5,vB (jN l (pr p 0 1) 0 1 m)),(6,vI ↑m),(7,vP b7 0),(8,vP b8 0)]) (λ_=>[.var b8 31 C,.var b7 31 D,.var b3 31 ae]) (λm_=>m_) ?_ ?_
  ·
   refine zY ((xU ((zCO (l.getD m zT) (l.getD ((m+1)%l.length) zT)).y) p.y)<=(0:Int)) (λhg=>?_) (λhg=>?_)
   ·
    refine gT hg I (go3 ?_);refine lX (xB yI (y5e pH) ac) λct bo=>(go3 ?_);refine lX (xB yI (y5e pH) ah) λcq bn=>(go1 ?_);refine cL (ev2 I I) call17 (λw hs=>tK hs bo bn oM) λbc h6 aq bm=>?_;obtain rfl:bc=vI (xU p.y ((zEO (l.getD m zT) (l.getD ((m+1)%l.length) zT)).y)):=bm;have ci:=jF p.y ((zEO (l.getD m zT) (l.getD ((m+1)%l.length) zT)).y);refine go4 ?_;refine zV h6 aq ⟨?_,I,I,I,I,I,I,y3e⟩ I I;exact y3u (xL hg)
   refine gF hg I (go8 ?_);refine zV h5 (MLe.refl _) ⟨?_,I,I,I,I,I,I,y3e⟩ I I;exact y3u (xM hg)
  intro U av;refine sN ?_;refine qE (ι:=Mem) 7 (λm_=>MLe U m_) (λ_=>[(62,vB ((((xU ((zCO (l.getD m zT) (l.getD ((m+1)%l.length) zT)).y) p.y)<=(0:Int))/\((xU p.y ((zEO (l.getD m zT) (l.getD ((m+1)%l.length) zT)).y))<(0:Int)))/\((0:Int)<(orZ (pr (zCO (l.getD m zT) (l.getD ((m+1)%l.length) zT)) 0 1) (pr (zEO (l.getD m zT) (l.getD ((m+1)%l.length) zT)) 0 1) (pr p 0 1))))),(0,vl),(3,vP b3 0),(5,vB (jN l (pr p 0 1) 0 1 m)),(6,vI ↑m)]) (λ_=>[.var b8 31 C,.var b7 31 D,.var b3 31 ae]) (λm_=>m_) ?_ ?_
  ·
   refine zY (((xU ((zCO (l.getD m zT) (l.getD ((m+1)%l.length) zT)).y) p.y)<=(0:Int))/\((xU p.y ((zEO (l.getD m zT) (l.getD ((m+1)%l.length) zT)).y))<(0:Int))) (λhg=>?_) (λhg=>?_)
   ·
    refine gT hg I (go1 ?_);refine lX (xB zN pH ai) λcp bl=>(go1 ?_);refine lX (xB zN pH ah) λco bk=>(go1 ?_);refine lX (xB zN pH ac) λcn bj=>(go1 ?_);refine cL (ev3 I I I) call186 (λw hs=>tW hs bl bk (bj.le (Le.t (Le.q (l:=k+1) oM))) oM) λbb h6 aq bi=>?_;obtain rfl:bb=vI (orZ (pr (zCO (l.getD m zT) (l.getD ((m+1)%l.length) zT)) 0 1) (pr (zEO (l.getD m zT) (l.getD ((m+1)%l.length) zT)) 0 1) (pr p 0 1)):=bi;have ch:=tU (pr (zCO (l.getD m zT) (l.getD ((m+1)%l.length) zT)) 0 1) (pr (zEO (l.getD m zT) (l.getD ((m+1)%l.length) zT)) 0 1) (pr p 0 1);refine go4 ?_;refine zV h6 aq ⟨?_,I,I,I,I,y3e⟩ I I;exact y3u (xL hg)
   refine gF hg I (go7 ?_);refine zV U (MLe.refl _) ⟨?_,I,I,I,I,y3e⟩ I I;exact y3u (xM hg)
  intro M ap;refine sN ?_;refine gc2 (λab=>?_) λab=>?_
  ·
   refine uY ?_;refine yW (A:=[]) (yW (A:=[]) ?_);refine gqL ((m+1),M) ?_ ?_ (he:=⟨I,I,zbi (λz=>some (vB z)) (yJ7 ((zHU _ _ _).1 ab)),I,y3e⟩)
   · exact⟨mle,by omega,zBL ad Z⟩
   omega
  refine go8 ?_;refine yW (A:=[]) (yW (A:=[]) ?_);refine gqL ((m+1),M) ?_ ?_ (he:=⟨I,I,zbi (λz=>some (vB z)) (yET λe=>ab ((zHU _ _ _).2 e)),I,y3e⟩)
  · exact⟨mle,by omega,zBL ad Z⟩
  omega
 refine zDO (λaa=>?_) λaa=>?_
 ·
  refine go7 ?_;refine zC I I ?_;exact zbi vI (yA1 oM aw ad aa)
 refine go8 ?_;refine zC I I ?_;exact zbi vI (zTJ oM aw ad aa)
theorem zQ4{k:Nat}{vL:Value}{L:(List (List Tq))}(rL:(tLL k).Is h0 vL L){vp:Value}{p:Tq}(rp:(tPt k).Is h0 vp p){i:Nat}{j:Nat}(hcd0:i<3)(hcd1:j<3)(hcd2:k<=100000)(hcd3:∀x,x∈L->x.length<=1000)(hcd4:L.length<=1000):
 Calls prog 149 #[vL,vp,vI ↑i,vI ↑j] w0 (Ret w0 h0 (λ_ r=>r=vI (whZ L (pr p i j) i j))):=by
 refine jT (n:=31) (e:=[(0,vL),(1,vp),(2,vI ↑i),(3,vI ↑j)]) (vs:=[vL,vp,vI ↑i,vI ↑j]) func149 rfl rfl (bL rfl) hs e4z (go2 ?_);refine nB rp λb5 ad O=>(mF ?_);refine gcL (ι:=Nat×Mem) (λ(m,ma)=>(MLe h0 ma/\(m<=L.length/\∀q,q<m->¬kW (L.getD q []) (pr p i j) i j=0),[(2,vI ↑i),(3,vI ↑j),(5,vP b5 0),(9,vI (mL L (pr p i j) i j m)),(12,vL),(13,vI (↑(L).length:Int)),(14,vI ↑m)],[.var b5 31 ad],ma,L.length-m)) (0,h0) ?_ ?_
 · exact⟨mle,by omega,λq hq=>by omega⟩
 rintro⟨m,ma⟩ ⟨ae,ac,H⟩
 refine xD ?_;have ak:=zFI L (pr p i j) i j m;refine gc6 (λJ=>?_) λJ=>?_
 ·
  refine go6 ?_;refine lX (xI [] m underlying76 qD rL) λaj ab=>(lX (xA qD ab) λai aa=>(go6 ?_));refine lX (xB zN pH O) λah Z=>(go2 ?_);refine cL (ev4 I I I I) call183 (λw hs=>zN5 (i:=i) (j:=j) hs aa Z oM oM oM (by first|omega|exact yBI zo4 _)) λM h1 am U=>?_;obtain rfl:M=vI (kW (L.getD m []) (pr p i j) i j):=U;refine gc9 (λC=>?_) λC=>?_
  ·
   refine uY ?_;refine zC I I ?_;exact zbi vI (zau ⟨m,by omega,C⟩).symm
  refine gc6 (λD=>?_) λD=>?_
  ·
   refine go2 ?_;refine gv (lK I oM oM) I (go9 ?_);refine gqL ((m+1),h1) ?_ ?_ (he:=⟨I,I,I,zbi (λz=>some (vI z)) (zau D).symm,I,I,I,y3e⟩)
   · exact⟨mle,by omega,zSF H C⟩
   omega
  refine go8 ?_;refine gqL ((m+1),h1) ?_ ?_ (he:=⟨I,I,I,zbi (λz=>some (vI z)) (zae D).symm,I,I,I,y3e⟩)
  · exact⟨mle,by omega,zSF H C⟩
  omega
 refine uY ?_;refine zC I I ?_;exact zbi vI (yHT oM ac H)
end
end Go.Proofs.YtpkaegemlpaenaaGreat
namespace Bk
open Classical
def zUP(R:Nat->Nat->Prop)(q b:Nat):Prop:=∀p,p<b->R p q
def zMX(R:Nat->Nat->Prop)(a:Nat):Prop:=∀q,q<a->zUP R q q
theorem zXI{R:Nat->Nat->Prop}:zMX R 0:=λq h=>by omega
theorem yDL{R:Nat->Nat->Prop}{q:Nat}:zUP R q 0:=λp h=>by omega
theorem yDM{R:Nat->Nat->Prop}{q b:Nat}(h:zUP R q b)(h1:R b q):zUP R q (b+1):=λp h3=>by
 rcases zhu.1 h3 with h4|h4
 · exact h p h4
 · subst h4;exact h1
theorem zXJ{R:Nat->Nat->Prop}{a b:Nat}(h:zMX R a)(h1:zUP R a b)(hb:a<=b):zMX R (a+1):=λq h2=>by
 rcases zhu.1 h2 with h5|h5
 · exact h q h5
 · subst h5;exactλp hp=>h1 p zot
def yCK(l:List Pt)(k i:Nat):Prop:=yOJ l 0 1 k i/\okT l 0 1 k i
theorem yD6{l:List Pt}(h3:3<=l.length)(h:zMX (yCK l) l.length):aM l 0 1:=
 ⟨h3,λp q h1 h2 h4=>(h q h4 p h2).1,λp q h1 h2 h4=>(h q h4 p h2).2⟩
theorem zZH{l:List Pt}{k i:Nat}:oO (vG l 0 1 i) (vD l 0 1 i) (vG l 0 1 k) (vD l 0 1 k)=zIX l.length k i↔okT l 0 1 k i:=by
 unfold okT;rw[<-zMW,zFQ]
end Bk
namespace Go.Proofs.YtpkaegemlpaenaaGreat
open Bk Go Tryz
attribute [local irreducible] GL GC GQ W OpV
section
variable{w0:World}{h0:Mem}(hs:MLe h0 (mem w0))
include hs
theorem zNX{k:Nat}{vl:Value}{l:(List Tq)}(rl:(tLs k).Is h0 vl l)(hcd0:k<=5000)(hcd1:l.length<=1000):
 Calls prog 129 #[vl] w0 (Ret w0 h0 (λ_ r=>r=vB (aM l 0 1))):=by
 refine cb1 69 vl func129 hs ?_;refine yBF ?_;refine cnd (λab=>?_) λab=>?_
 ·
  refine go7 ?_;refine zC I I ?_;exact(yN (λe=>by have:=e.1;omega)).symm
 refine go9 ?_;refine gcL (ι:=Nat×Mem) (λ(i,M)=>(MLe h0 M/\(i<=l.length/\zMX (yCK l) i),[(0,vl),(3,vI (↑(l).length:Int)),(4,vI ↑i)],[],M,l.length-i)) (0,h0) ?_ ?_
 · exact⟨mle,by omega,zXI⟩
 rintro⟨i,M⟩ ⟨az,bo,hi2⟩
 refine xD ?_;refine gc8 (λaa=>?_) λaa=>?_
 ·
  refine uQ ?_;refine gcL (ι:=Nat×Mem) (λ(q,mq)=>(MLe M mq/\(q<=i/\zUP (yCK l) i q),[(0,vl),(3,vI (↑(l).length:Int)),(4,vI ↑i),(5,vI ↑q)],[],mq,i-q)) (0,M) ?_ ?_
  · exact⟨mle,by omega,yDL⟩
  rintro⟨q,mq⟩ ⟨ay,bn,O⟩
  refine xD ?_;refine gc8 (λZ=>?_) λZ=>?_
  ·
   refine go6 ?_;refine zL 9 _ [] (zai 0 8 [(8,.c)]) yF nX zou nX (λr hr=>hr) (go2 ?_);refine wX I (xI zT i underlying35 zN rl) λbm aw=>(wX I (xA zN aw) λbl av=>(go2 ?_));refine wX I (xI zT q underlying35 zN rl) λbk au=>(wX I (xA zN au) λbj ar=>?_);refine w_c I (sC (ev2 I I) call174 (λw hs=>jO hs av ar oM) λad h1 bq aq=>?_);obtain rfl:ad=vB ((pr (l.getD i zT) 0 1)=(pr (l.getD q zT) 0 1)):=aq;refine gc2 (λH=>?_) λH=>?_
   ·
    refine zAQ ?_;refine zC I I ?_;exact(yN (λe=>e.2.1 q i oM oM oM H.symm)).symm
   refine go7 ?_;refine jR (ι:=Mem) (λ(J:(Mem))=>MLe h1 J/\(True)) (λ(J:(Mem))=>[(0,vl),(3,vI (↑(l).length:Int)),(4,vI ↑i),(5,vI ↑q),(6,vI (zIX l.length q i))]) (λ(J:(Mem))=>[]) (λ(J:(Mem))=>J) ?_ ?_
   ·
    refine go6 ?_;refine gU 10 43 (vB (((↑i:Int)=((↑q:Int)+(1:Int)))\/(((↑q:Int)=(0:Int))/\((↑i:Int)=((↑(l).length:Int)-(1:Int)))))) ?_ ?_
    ·
     refine zY ((↑i:Int)=((↑q:Int)+(1:Int))) (λC=>?_) (λC=>?_)
     ·
      refine gT C I (uQ ?_);refine gqU ?_;exact y3u (vV C)
     refine gF C I (go4 ?_);refine gU 6 42 (vB (((↑q:Int)=(0:Int))/\((↑i:Int)=((↑(l).length:Int)-(1:Int))))) ?_ ?_
     ·
      refine zY ((↑q:Int)=(0:Int)) (λC=>?_) (λC=>?_)
      ·
       refine go1 ?_;refine gT C I (qK ?_);refine gqU ?_;exact y3u (xL C)
      refine go1 ?_;refine gF C I (go7 ?_);refine gqU ?_;exact y3u (xM C)
     refine go2 ?_;refine gqU ?_;exact y3u (vW C)
    refine gc2 (λU=>?_) λU=>?_
    ·
     refine go3 ?_;refine zV (h1) ?_ ⟨I,I,I,I,?_,y3e⟩ I I
     ·
      refine⟨MLe.refl _,?_⟩
      trivial
     · exact zbi (λz=>some (vI z)) (yHV oM)
    refine go1 ?_;refine zV (h1) ?_ ⟨I,I,I,I,?_,y3e⟩ I I
    ·
     refine⟨MLe.refl _,?_⟩
     trivial
    · exact zbi (λz=>some (vI z)) (yHW oM)
   rintro J ⟨ax,ba⟩
   refine xD ?_;refine go1 ?_;refine zL 25 _ [] (zai 0 22 [(23,.q),(22,.c),(24,.q)]) yF nX (wS zou) nX (λr hr=>hr) (go2 ?_);refine wX I (xI zT i underlying35 zN rl) λbi ap=>(wX I (xA zN ap) λbh ao=>(go4 ?_));refine xY I (λ_ _=>wI I I oM oM) I (wX I (xI zT ((i+1)%l.length) underlying35 zN rl (hi:=by exact zcu _ oM)) λbg an=>(wX I (xA zN an) λbf am=>(go2 ?_)));refine wX I (xI zT q underlying35 zN rl) λbe ak=>(wX I (xA zN ak) λbd aj=>(go4 ?_));refine xY I (λ_ _=>wI I I oM oM) I (wX I (xI zT ((q+1)%l.length) underlying35 zN rl (hi:=by exact zcu _ oM)) λbc ai=>(wX I (xA zN ai) λbb ah=>(go1 ?_)));refine w_c I (sC (ev4 I I I I) call175 (λw hs=>zGM hs ao am aj ah oM) λac h2 bp ae=>?_);obtain rfl:ac=vI (oO (pr (l.getD i zT) 0 1) (pr (l.getD ((i+1)%l.length) zT) 0 1) (pr (l.getD q zT) 0 1) (pr (l.getD ((q+1)%l.length) zT) 0 1)):=ae;refine gc3 (λD=>?_) λD=>?_
   ·
    refine pX ?_;refine zC I I ?_;exact(yN (λe=>D (zZH.2 (e.2.2 q i oM oM oM)))).symm
   refine go8 ?_;refine gqL ((q+1),h2) ?_ ?_
   · exact⟨mle,by omega,yDM O ⟨λe=>H e.symm,zZH.1 (zdi D)⟩⟩
   omega
  refine qK ?_;refine gqL ((i+1),mq) ?_ ?_
  · exact⟨mle,by omega,zXJ hi2 O oM⟩
  omega
 have ei:i=l.length:=by omega
 have hT:=hi2;rw[ei] at hT;refine qK ?_;refine zC I I ?_;exact(wA (yD6 oM hT)).symm
theorem zLA{k:Nat}{va:Value}{a:(List Tq)}(ra:(tLs k).Is h0 va a){vb:Value}{b:(List Tq)}(rb:(tLs k).Is h0 vb b)(hcd0:k<=5000)(hcd1:a.length<=1000)(hcd2:b.length<=1000):
 Calls prog 130 #[va,vb] w0 (Ret w0 h0 (λ_ r=>r=vB (gZ a b 0 1))):=by
 refine cb2 45 va vb func130 hs ?_;refine uY ?_;refine gcL (ι:=Nat×Mem) (λ(p,D)=>(MLe h0 D/\(p<=a.length/\∀u v,u<p->v<b.length->¬s5 a b 0 1 u v),[(0,va),(1,vb),(5,vI ↑p)],[],D,a.length-p)) (0,h0) ?_ ?_
 · exact⟨mle,by omega,λu v h=>by omega⟩
 rintro⟨p,D⟩ ⟨an,az,J⟩
 refine xD ?_;refine gc9 (λO=>?_) λO=>?_
 ·
  refine uQ ?_;refine gcL (ι:=Nat×Mem) (λ(q,U)=>(MLe D U/\(q<=b.length/\∀v,v<q->¬s5 a b 0 1 p v),[(0,va),(1,vb),(5,vI ↑p),(6,vI ↑q)],[],U,b.length-q)) (0,D) ?_ ?_
  · exact⟨mle,by omega,λv h=>by omega⟩
  rintro⟨q,U⟩ ⟨am,ay,H⟩
  refine xD ?_;refine gc9 (λM=>?_) λM=>?_
  ·
   refine go5 ?_;refine zL 26 _ [] (zai 0 24 [(24,.c),(25,.q)]) yF nX (wS zou) nX (λr hr=>hr) (go2 ?_);refine wX I (xI zT p underlying35 zN ra) λax ak=>(wX I (xA zN ak) λaw aj=>(go4 ?_));refine w_q I (λh' L' hh hR=>qO underlying35 I (ra.up.mono hh)) I (xY I (λ_ _=>wI I I oM oM) I (wX I (xI zT ((p+1)%a.length) underlying35 zN ra (hi:=by exact zcu _ oM)) λav ai=>(wX I (xA zN ai) λau ah=>(go2 ?_))));refine wX I (xI zT q underlying35 zN rb) λar ae=>(wX I (xA zN ae) λaq ad=>(go4 ?_));refine w_q I (λh' L' hh hR=>qO underlying35 I (rb.up.mono hh)) I (xY I (λ_ _=>wI I I oM oM) I (wX I (xI zT ((q+1)%b.length) underlying35 zN rb (hi:=by exact zcu _ oM)) λap ac=>(wX I (xA zN ac) λao ab=>?_)));refine w_c I (sC (ev4 I I I I) call175 (λw hs=>zGM hs aj ah ad ab oM) λZ h1 ba aa=>?_);obtain rfl:Z=vI (oO (pr (a.getD p zT) 0 1) (pr (a.getD ((p+1)%a.length) zT) 0 1) (pr (b.getD q zT) 0 1) (pr (b.getD ((q+1)%b.length) zT) 0 1)):=aa;refine gc3 (λC=>?_) λC=>?_
   ·
    refine pX ?_;refine zC I I ?_;exact(wA ⟨p,q,by omega,by omega,(yB7.1 C)⟩).symm
   refine go8 ?_;refine gqL ((q+1),h1) ?_ ?_
   · exact⟨mle,by omega,zYK (n:=0) (Q:=s5 a b 0 1) H (λe=>C (yB7.2 e))⟩
   omega
  refine qK ?_;refine gqL ((p+1),U) ?_ ?_
  · exact⟨mle,by omega,zVB J H oM⟩
  omega
 refine qK ?_;refine zC I I ?_;exact(yN (λ⟨u,v,h1,h2,h3⟩=>J u v oM h2 h3)).symm
theorem zNZ{k:Nat}{vp:Value}{p:Tq}(rp:(tPt k).Is h0 vp p){vq:Value}{q:Tq}(rq:(tPt k).Is h0 vq q)(hcd0:k<=100000):
 Calls prog 176 #[vp,vq] w0 (Ret w0 h0 (λh r=>(tPt (2*k+2)).Is h r (T3.mk (zDD p.x q.x) (zDD p.y q.y) (0:Rat)))):=by
 refine cb2 16 vp vq func176 hs ?_;refine go2 ?_;refine nB rp λb2 aq O=>(nB rq λb3 ap M=>(nA (ρ:=(tPt (2*k+2))) (X:=zT) yS (xW (yM oM)) λb4 ao U=>(go3 ?_)));refine zL 11 _ [] (zai 0 4 (zai 5 4 [(4,.c),(9,.c),(10,.q),(11,.t)])) yF nX (wS zou) nX (λr hr=>hr) (go1 ?_);refine wX I (xB yI (y5u pH) O) λv6 r6=>(go1 ?_);refine wX I (xB yI (y5u pH) M) λv8 r8=>(go1 ?_);refine wX I (xB yI (y5e pH) O) λak ac=>(go1 ?_);refine wX I (xB yI (y5e pH) M) λaj ab=>?_;refine w_c I (sC (ev2 I I) call203 (λw hs=>zGJ hs r6 r8 oM) λv9 h1 an Z=>?_);replace Z:=Rp.Is.le Z (Le.q (l:=2*k+2) oM);refine w_c I (sC (ev2 I I) call203 (λw hs=>zGJ hs ac.up ab.up oM) λai h2 am C=>?_);replace C:=Rp.Is.le C (Le.q (l:=2*k+2) oM);refine wX I (xV (ρ:=(tPt (2*k+2))) (wH (ps':=[(0,_),(1,_)]) underlying31 yS I I sizeOf29 e4z I (xW (yM oM)) (zD I (y5u (y4i _)) Z.up (zD I (y5e (y4i _)) C zP)))) λah aa=>(yJ (A:=[]) I (uB sizeOf31 pH U aa) λad J=>(go3 ?_));refine vM (gG (t:=4) zN mh0 I J) ?_;intro ae D H;refine xC (λE S=>yB I D E S) ?_;exact H
theorem zEC{k:Nat}{va:Value}{a:(List Tq)}(ra:(tLs k).Is h0 va a){vb:Value}{b:(List Tq)}(rb:(tLs k).Is h0 vb b)(hcd0:k<=2000)(hcd1:a.length<=1000)(hcd2:b.length<=1000):
 Calls prog 133 #[va,vb] w0 (Ret w0 h0 (λ_ r=>r=vI (wiZ a b 0 1))):=by
 refine cb2 32 va vb func133 hs ?_;refine mF ?_;refine gcL (ι:=Nat×Mem) (λ(m,ma)=>(MLe h0 ma/\(m<=b.length),[(0,va),(1,vb),(5,vI (cA a b 0 1 m)),(6,vI ↑m)],[],ma,b.length-m)) (0,h0) ?_ ?_
 · exact⟨mle,oM⟩
 rintro⟨m,ma⟩ ⟨ac,D⟩
 refine xD ?_;have am:=D;have ak:=oL a b 0 1 m;refine gc9 (λH=>?_) λH=>?_
 ·
  refine go5 ?_;refine zL 16 _ [] (zai 0 13 [(13,.c),(14,.c),(15,.q)]) yF nX (wS zou) nX (λr hr=>hr) (go3 ?_);refine wX I (xI zT m underlying35 zN rb) λaj ab=>(wX I (xA zN ab) λai aa=>(go4 ?_));refine w_q I (λh' L' hh hR=>qO underlying35 I (rb.up.mono hh)) I (xY I (λ_ _=>wI I I oM oM) I (wX I (xI zT ((m+1)%b.length) underlying35 zN rb (hi:=by exact zcu _ oM)) λah Z=>(wX I (xA zN Z) λae U=>?_)));refine w_c I (sC (ev2 I I) call176 (λw hs=>zNZ hs aa U oM) λad h1 ao O=>?_);refine w_c I (sC (ev2 I I) call150 (λw hs=>zN0 hs (ra.up.le (Le.s (Le.t (Le.q (l:=2*k+2) oM)))) O oM oM) λJ h2 an M=>?_);obtain rfl:J=vI (kW a (pr (T3.mk (zDD (b.getD m zT).x (b.getD ((m+1)%b.length) zT).x) (zDD (b.getD m zT).y (b.getD ((m+1)%b.length) zT).y) (0:Rat)) 0 1) 0 1):=M;refine gc3 (λC=>?_) λC=>?_
  ·
   refine uY ?_;refine gqL ((m+1),h2) ?_ ?_ (he:=⟨I,I,zbi (λz=>some (vI z)) (yHP (yG0 _ _) C),I,y3e⟩)
   · exact⟨mle,oM⟩
   omega
  refine go8 ?_;refine gqL ((m+1),h2) ?_ ?_ (he:=⟨I,I,zbi (λz=>some (vI z)) (yHQ (yG0 _ _) C),I,y3e⟩)
  · exact⟨mle,oM⟩
  omega
 refine uY ?_;refine zC I I ?_;have em:m=b.length:=by omega
 subst em
 rfl
theorem zNY{k:Nat}{vL:Value}{L:(List (List Tq))}(rL:(tLL k).Is h0 vL L){f:Nat}(hcd0:f<L.length)(hcd1:L.length<=16)(hcd2:k<=2000)(hcd3:∀u,u<L.length->¬64<(gl L u).length):
 Calls prog 132 #[vL,vI ↑f] w0 (Ret w0 h0 (λ_ r=>r=vI (sD L 0 1 f L.length))):=by
 have hE:=hcd3;refine cb2 55 vL (vI ↑f) func132 hs ?_;refine mF ?_;refine gcL (ι:=Nat×Mem) (λ(g,ma)=>(MLe h0 ma/\(g<=L.length),[(0,vL),(1,vI ↑f),(5,vI (sD L 0 1 f g)),(6,vI ↑g)],[],ma,L.length-g)) (0,h0) ?_ ?_
 · exact⟨mle,oM⟩
 rintro⟨g,ma⟩ ⟨ba,bx⟩
 refine xD ?_;have bq:=zC4 L 0 1 f g;refine gc9 (λM=>?_) λM=>?_
 ·
  refine go6 ?_;refine zL 24 _ [] (zai 0 4 ((4,.c)::(5,.c)::zai 6 10 (zai 17 5 [(16,.c),(22,.q),(23,.q)]))) yF nX (wS zou) nX (λr hr=>hr) (go2 ?_);refine wX I (xI [] g underlying76 qD rL) λbp aw=>(wX I (xA qD aw) λbo av=>?_);refine w_c I (sC (ev1 I) call131 (λw hs=>pV hs av oM (by first|omega|exact zci (zye.1 (hE _ oM)) dC|exact zci (hF _ oM) dC)) λbn h1 bw au=>?_);refine w_c I (sC (ev1 I) call48 (λw hs=>qI hs au dC) λZ h2 bv ar=>?_);obtain rfl:Z=vI (yX (uV (L.getD g []) 0 1 (L.getD g []).length)):=ar;have ay:=xK (uV (L.getD g []) 0 1 (L.getD g []).length);refine go2 ?_;refine kD ((yX (uV (L.getD g []) 0 1 (L.getD g []).length))<=(0:Int)) (λH=>?_) (λH=>?_)
  ·
   rw[wA H];refine pL ?_;refine w_c I (mO I I I I (sS ?_));refine gqL ((g+1),h2) ?_ ?_ (he:=⟨I,I,zbi (λz=>some (vI z)) ((zae (λe=>absurd e.1.1 (Int.not_lt.2 zo4))).symm),I,y3e⟩)
   · exact⟨mle,oM⟩
   omega
  rw[yN H];refine yV I I I (λh' L' hh hR=>xG I) I (yV I I I (λh' L' hh hR=>xG I) I (oX I (xI [] g underlying76 qD rL) λbm aq=>(oX I (xA qD aq) λbl ap=>(yV I I I (λh' L' hh hR=>xG I) I (yV I I I (λh' L' hh hR=>xG I) I (oX I (xI [] f underlying76 qD rL) λbk ao=>(oX I (xA qD ao) λbj an=>(yV I I I (λh' L' hh hR=>xG I) I (yV I I I (λh' L' hh hR=>xG I) I (oX I (xI [] f underlying76 qD rL) λbi ak=>(oX I (xA qD ak) λbh aj=>(yV I I I (λh' L' hh hR=>qO underlying35 I (aj.mono hh)) I ?_))))))))))));refine w_c I (zCW I I (sC (ev2 I I) call133 (λw hs=>zEC hs ap an oM (by first|omega|exact zci (zye.1 (hE _ oM)) dC|exact zci (hF _ oM) dC) (by first|omega|exact zci (zye.1 (hE _ oM)) dC|exact zci (hF _ oM) dC)) λU h3 bu am=>?_));obtain rfl:U=vI (wiZ (L.getD g []) (L.getD f []) 0 1):=am;have ax:=oL (L.getD g []) (L.getD f []) 0 1 (L.getD f []).length;refine gc4 (λC=>?_) λC=>?_
  ·
   refine go9 ?_;refine gqL ((g+1),h3) ?_ ?_ (he:=⟨I,I,zbi (λz=>some (vI z)) ((zae (λe=>C e.1.2)).symm),I,y3e⟩)
   · exact⟨mle,oM⟩
   omega
  refine go3 ?_;refine zL 16 _ [] (zai 0 7 (zai 8 4 [(7,.c),(12,.c),(13,.c),(14,.q),(15,.q)])) yF nX (wS zou) nX (λr hr=>hr) (go3 ?_);refine kD ((sD L 0 1 f g)<(0:Int)) (λD=>?_) (λD=>?_)
  ·
   rw[wA D];refine go8 ?_;refine w_c I (mO I I I I ?_);refine w_c I (mO I I I I ?_);refine w_c I (mO I I I I (zAQ ?_));refine gqL ((g+1),h3) ?_ ?_ (he:=⟨I,I,zbi (λz=>some (vI z)) ((zau ⟨⟨yue.1 zo4,zdi C⟩,.inl zo4⟩).symm),I,y3e⟩)
   · exact⟨mle,oM⟩
   omega
  rw[yN D];refine yV I I I (λh' L' hh hR=>xG I) I (yV I I I (λh' L' hh hR=>xG I) I (oX I (xI [] g underlying76 qD rL) λbg ai=>(oX I (xA qD ai) λbf ah=>(yV I I I (λh' L' hh hR=>xG I) I (yV I I I (λh' L' hh hR=>xG I) I (oX I (xI [] ((sD L 0 1 f g).toNat) underlying76 qD rL) λbd ad=>(oX I (xA qD ad) λbc ac=>?_)))))));refine w_c I (zCW I I (sC (ev1 I) call131 (λw hs=>pV hs ah oM (by first|omega|exact zci (zye.1 (hE _ oM)) dC|exact zci (hF _ oM) dC)) λbe h4 bt ae=>?_));refine w_c I (zCW I I (sC (ev1 I) call131 (λw hs=>pV hs ac.up oM (by first|omega|exact zci (zye.1 (hE _ oM)) dC|exact zci (hF _ oM) dC)) λbb h5 bs ab=>?_));refine w_c I (zCW I I (sC (ev2 I I) call17 (λw hs=>tK hs ae.up ab dC) λO h6 br aa=>?_));obtain rfl:O=vI (xU (uV (L.getD g []) 0 1 (L.getD g []).length) (uV (L.getD ((sD L 0 1 f g).toNat) []) 0 1 (L.getD ((sD L 0 1 f g).toNat) []).length)):=aa;have az:=jF (uV (L.getD g []) 0 1 (L.getD g []).length) (uV (L.getD ((sD L 0 1 f g).toNat) []) 0 1 (L.getD ((sD L 0 1 f g).toNat) []).length);refine gc4 (λJ=>?_) λJ=>?_
  ·
   refine qK ?_;refine gqL ((g+1),h6) ?_ ?_ (he:=⟨I,I,zbi (λz=>some (vI z)) ((zau ⟨⟨yue.1 zo4,zdi C⟩,.inr J⟩).symm),I,y3e⟩)
   · exact⟨mle,oM⟩
   omega
  refine go8 ?_;refine gqL ((g+1),h6) ?_ ?_ (he:=⟨I,I,zbi (λz=>some (vI z)) ((zae (λe=>e.2.elim (λh=>absurd h zo4) J)).symm),I,y3e⟩)
  · exact⟨mle,oM⟩
  omega
 refine uY ?_;refine zC I I ?_;have eg:g=L.length:=by omega
 rw[eg]
end
set_option maxHeartbeats 2000000 in
section
variable{w0:World}{h0:Mem}(hs:MLe h0 (mem w0))
include hs
theorem zJI{k:Nat}{vL:Value}{L:(List (List Tq))}(rL:(tLL k).Is h0 vL L)(hcd0:k<=2000)(hcd1:∀x,x∈L->cY x):
 Calls prog 85 #[vL] w0 (Ret w0 h0 (λh r=>∃u0,r=.tuple #[u0,vI (uG L 0 1)]/\(rpS rpI).Is h u0 (sO L 0 1))):=by
 have hF:=hcd1;refine cb1 133 vL func85 hs ?_;refine sS ?_;refine cnd (λbv=>?_) λbv=>?_
 ·
  refine go8 ?_;refine wU I I I ?_;refine⟨_,?_,(Rp.Is.cast (eO _) (by exact(show uG L 0 1=2/\sO L 0 1=[] from zLJ (.inl oM)).2.symm))⟩;rw[(show uG L 0 1=2/\sO L 0 1=[] from zLJ (.inl oM)).1]
 refine go9 ?_;refine gcL (ι:=Nat×Mem) (λ(q,ma)=>(MLe h0 ma/\(q<=L.length/\∀u,u<q->¬64<(gl L u).length),[(0,vL),(4,vI ↑q)],[],ma,L.length-q)) (0,h0) ?_ ?_
 · exact⟨mle,by omega,λu h=>by omega⟩
 rintro⟨q,ma⟩ ⟨ec,fc,bg⟩
 refine xD ?_;refine gc9 (λbu=>?_) λbu=>?_
 ·
  refine go8 ?_;refine lX (xI [] q underlying76 qD rL) λeu da=>(lX (xA qD da) λes ev=>(gc4 (λbt=>?_) λbt=>?_))
  ·
   refine uY ?_;refine wU I I I ?_;refine⟨_,?_,(Rp.Is.cast (eO _) (by exact(show uG L 0 1=2/\sO L 0 1=[] from zLJ (.inr ⟨q,by omega,(by show 64<(L.getD q []).length;omega)⟩)).2.symm))⟩;rw[(show uG L 0 1=2/\sO L 0 1=[] from zLJ (.inr ⟨q,by omega,(by show 64<(L.getD q []).length;omega)⟩)).1]
  refine go8 ?_;refine gqL ((q+1),ma) ?_ ?_
  · exact⟨mle,by omega,vX (Q:=λu=>¬64<(gl L u).length) bg (by show ¬64<(L.getD q []).length;omega)⟩
  omega
 have hE:∀u,u<L.length->¬64<(gl L u).length:=λu hu=>bg u oM;refine uY ?_;refine gcL (ι:=Nat×Mem) (λ(s,ms)=>(MLe ma ms/\(s<=L.length/\∀u,u<s->aM (gl L u) 0 1),[(0,vL),(5,vI ↑s)],[],ms,L.length-s)) (0,ma) ?_ ?_
 · exact⟨mle,by omega,λu h=>by omega⟩
 rintro⟨s,ms⟩ ⟨dx,fb,bf⟩
 refine xD ?_;refine gc9 (λbs=>?_) λbs=>?_
 ·
  refine go8 ?_;refine lX (xI [] s underlying76 qD rL) λer cz=>(lX (xA qD cz) λeq cy=>(cL (ev1 I) call129 (λw hs=>zNX hs cy oM (by first|omega|assumption|exact zci (zye.1 (hE _ oM)) dC)) λce h1 M cw=>?_));obtain rfl:ce=vB (aM (L.getD s []) 0 1):=cw;refine gc3 (λaa=>?_) λaa=>?_
  ·
   refine uY ?_;refine wU I I I ?_;refine⟨_,?_,(Rp.Is.cast (eO _) (by exact(show uG L 0 1=8/\sO L 0 1=[] from zZ0 oM hE ⟨s,by omega,aa⟩).2.symm))⟩;rw[(show uG L 0 1=8/\sO L 0 1=[] from zZ0 oM hE ⟨s,by omega,aa⟩).1]
  refine go8 ?_;refine gqL ((s+1),h1) ?_ ?_
  · exact⟨mle,by omega,vX (Q:=λu=>aM (gl L u) 0 1) bf (zdi aa)⟩
  omega
 have hS:∀u,u<L.length->aM (gl L u) 0 1:=λu hu=>bf u oM;refine uY ?_;refine gcL (ι:=Nat×Mem) (λ(c,mc)=>(MLe ms mc/\(c<=L.length/\∀u v,v<c->u<v->¬gZ (gl L u) (gl L v) 0 1),[(0,vL),(6,vI ↑c)],[],mc,L.length-c)) (0,ms) ?_ ?_
 · exact⟨mle,by omega,λu v h=>by omega⟩
 rintro⟨c,mc⟩ ⟨eb,ed,ak⟩
 refine xD ?_;refine gc9 (λbr=>?_) λbr=>?_
 ·
  refine uQ ?_;refine gcL (ι:=Nat×Mem) (λ(d,md)=>(MLe mc md/\(d<=c/\∀u,u<d->¬gZ (gl L u) (gl L c) 0 1),[(0,vL),(6,vI ↑c),(7,vI ↑d)],[],md,c-d)) (0,mc) ?_ ?_
  · exact⟨mle,by omega,λu h=>by omega⟩
  rintro⟨d,md⟩ ⟨ea,ff,bl⟩
  refine xD ?_;refine gc8 (λbq=>?_) λbq=>?_
  ·
   refine go5 ?_;refine zL 9 _ [] (zai 0 8 [(8,.c)]) yF nX zou nX (λr hr=>hr) (go2 ?_);refine wX I (xI [] c underlying76 qD rL) λep cu=>(wX I (xA qD cu) λeo ct=>(go2 ?_));refine wX I (xI [] d underlying76 qD rL) λen cq=>(wX I (xA qD cq) λem cp=>?_);refine w_c I (sC (ev2 I I) call130 (λw hs=>zLA hs ct cp oM (by first|omega|assumption|exact zci (zye.1 (hE _ oM)) dC) (by first|omega|assumption|exact zci (zye.1 (hE _ oM)) dC)) λcd h1 M co=>?_);obtain rfl:cd=vB (gZ (L.getD c []) (L.getD d []) 0 1):=co;refine gc2 (λZ=>?_) λZ=>?_
   ·
    refine zAQ ?_;refine wU I I I ?_;refine⟨_,?_,(Rp.Is.cast (eO _) (by exact(show uG L 0 1=32/\sO L 0 1=[] from zS4 oM hE hS ⟨d,c,by omega,by omega,eV Z⟩).2.symm))⟩;rw[(show uG L 0 1=32/\sO L 0 1=[] from zS4 oM hE hS ⟨d,c,by omega,by omega,eV Z⟩).1]
   refine go8 ?_;refine gqL ((d+1),h1) ?_ ?_
   · exact⟨mle,by omega,vX (Q:=λu=>¬gZ (gl L u) (gl L c) 0 1) bl (λe=>Z (eV e))⟩
   omega
  refine qK ?_;refine gqL ((c+1),md) ?_ ?_
  · exact⟨mle,by omega,zXH ak bl oM⟩
  omega
 have hX:∀a b,b<L.length->a<b->¬gZ (gl L a) (gl L b) 0 1:=λa b hb ha=>ak a b oM ha;refine mF ?_;refine xN 3 1 ?_;have au:=RL.nil (ρ:=rpI) (h:=mc);refine gcL (ι:=Nat×List Int×Value×List Value×Mem) (λ(f,H,C,D,mf)=>(MLe mc mf/\(RL rpI mf D H/\(f<=L.length/\H.length=f)/\∀u,u<f->H.getD u (0:Int)=pZ L 0 1 u),[(0,vL),(8,C),(9,vI ↑f)],[.gs 3 1 C H.length D],mf,L.length-f)) (0,([]:List Int),(.slice none 0 0),[],mc) ?_ ?_
 · exact⟨mle,au,⟨by omega,I⟩,λu h=>by omega⟩
 rintro⟨f,H,C,D,mf⟩ ⟨dz,J,⟨fe,bk⟩,ao⟩
 refine xD ?_;refine gc9 (λbp=>?_) λbp=>?_
 ·
  refine go9 ?_;refine jR (ι:=Int×Mem) (λ(p,mp)=>MLe mf mp/\((-1<=p/\p<9223372036854775808)/\p=pZ L 0 1 f)) (λ(p,mp)=>[(0,vL),(8,C),(9,vI ↑f),(10,vI p)]) (λ(p,mp)=>[.gs 3 1 C H.length D]) (λ(p,mp)=>mp) ?_ ?_
  ·
   refine go4 ?_;refine lX (xI [] f underlying76 qD rL) λel cn=>(lX (xA qD cn) λek cm=>(cL (ev1 I) call131 (λw hs=>pV hs cm oM (by first|omega|assumption|exact zci (zye.1 (hE _ oM)) dC)) λej h1 M cl=>(cL (ev1 I) call48 (λw hs=>qI hs cl dC) λcc h2 an ck=>?_)));obtain rfl:cc=vI (yX (uV (L.getD f []) 0 1 (L.getD f []).length)):=ck;have dh:=xK (uV (L.getD f []) 0 1 (L.getD f []).length);refine gc3 (λae=>?_) λae=>?_
   ·
    refine go3 ?_;refine cL (ev2 I I) call132 (λw hs=>zNY (f:=f) hs rL.up (by first|omega|assumption|exact zci (zye.1 (hE _ oM)) dC) (by first|omega|assumption|exact zci (zye.1 (hE _ oM)) dC) oM (by first|omega|assumption|exact zci (zye.1 (hE _ oM)) dC)) λcb h3 bj cj=>?_;obtain rfl:cb=vI (sD L 0 1 f L.length):=cj;have di:=zC4 L 0 1 f L.length;refine go2 ?_;refine zV ((sD L 0 1 f L.length),h3) ?_ e4z I I;refine⟨((M.trans an).trans bj),?_⟩;exact⟨⟨by omega,by omega⟩,yJ0 ae⟩
   refine go1 ?_;refine zV ((-1:Int),h2) ?_ e4z I I;refine⟨(M.trans an),?_⟩;exact⟨⟨by omega,by omega⟩,yJZ hF (hS f oM) ae⟩
  rintro⟨p,mp⟩ ⟨dy,bm⟩
  refine xD ?_;obtain⟨fd,bh⟩:=bm;refine go3 ?_;refine zH (zJ (ρ:=rpI) (m:=1) (xs:=[p]) (ps':=[(0,_)]) underlying22 jY I I I wL e2z (zD I (y4u (y4i _) (0:Int) 0 dC) (xZ oM oM) zP) zoj nP) I I I ?_
  rintro ei ey ⟨ee,rfl,aw⟩
  refine zQ (A:=[]) (ρ:=rpI) aw ?_;intro h1 M ar;refine xP (A:=[]) (zS (ρ:=rpI) (bytes:=8) underlying22 jY I I I I nP I I J.up ar bO bO) I I I ?_
  rintro ca ew ⟨bw,rfl,av⟩
  refine go9 ?_;refine gqL ((f+1),(H++[p]),ca,bw,h1) ?_ ?_
  · exact⟨mle,av,⟨by omega,(zJ1 bk ao bh).1⟩,(zJ1 bk ao bh).2⟩
  omega
 have hO:∀u,u<L.length->H.getD u (0:Int)=pZ L 0 1 u:=λu hu=>ao u oM;have bi:H.length=L.length:=by omega
 refine uY ?_;refine gcL (ι:=Nat×Mem) (λ(v,am)=>(MLe mf am/\(v<=L.length/\∀a,a<v->¬iD L 0 1 a/\∀b,b<L.length->¬zCV L 0 1 a b),[(0,vL),(8,C),(11,vI ↑v)],[.gs 3 1 C H.length D],am,L.length-v)) (0,mf) ?_ ?_
 · exact⟨mle,by omega,λa h=>by omega⟩
 rintro⟨v,am⟩ ⟨dj,fa,ai⟩
 refine xD ?_;refine gc9 (λbo=>?_) λbo=>?_
 ·
  refine go9 ?_;refine lX (xI [] v underlying76 qD rL) λeh ci=>(lX (xA qD ci) λeg ch=>(cL (ev1 I) call131 (λw hs=>pV hs ch oM (by first|omega|assumption|exact zci (zye.1 (hE _ oM)) dC)) λef h1 M cg=>(cL (ev1 I) call48 (λw hs=>qI hs cg dC) λbz h2 an cf=>?_)));obtain rfl:bz=vI (yX (uV (L.getD v []) 0 1 (L.getD v []).length)):=cf;have df:=xK (uV (L.getD v []) 0 1 (L.getD v []).length);refine gc3 (λU=>?_) λU=>?_
  ·
   refine go9 ?_;refine gqL ((v+1),h2) ?_ ?_
   · exact⟨mle,by omega,vX (Q:=λa=>¬iD L 0 1 a/\∀b,b<L.length->¬zCV L 0 1 a b) ai (yJ8 (yK8 hF (hS v oM) U))⟩
   omega
  refine go8 ?_;refine gcL (ι:=Nat×Mem) (λ(w,mw)=>(MLe h2 mw/\((w<=L.length/\(0<w->¬iD L 0 1 v))/\∀b,b<w->¬zCV L 0 1 v b),[(0,vL),(8,C),(11,vI ↑v),(12,vI ↑w)],[.gs 3 1 C H.length D],mw,L.length-w)) (0,h2) ?_ ?_
  · exact⟨mle,⟨by omega,λh=>by omega⟩,λb h=>by omega⟩
  rintro⟨w,mw⟩ ⟨dw,⟨ez,db⟩,ah⟩
  refine xD ?_;refine gc9 (λbn=>?_) λbn=>?_
  ·
   refine go5 ?_;refine zL 33 _ [] (zai 0 29 [(29,.c),(30,.q),(31,.q),(32,.q)]) yF nX (wS zou) nX (λr hr=>hr) (go2 ?_);refine w_q I (λh' L' hh hR=>(yK v (hR _ mh0) underlying22 sizeOf3 I I I bO nP).cv (show _=zG 1 C ((v*1+0)) from zbi (zG 1 C) zo3)) I (aI (F:=λv_=>rpI.Is mw v_ (H.getD v (0:Int))) I (xE ty3 (y4u (y4i _) (0:Int) v bO) I nP I J.up I) (gC mh0) I ?_);intro dv be;obtain⟨rfl,dm,de⟩:=jM be;refine go2 ?_;refine kD ((H.getD v (0:Int))<(0:Int)) (λad=>?_) (λad=>?_)
   ·
    rw[wA ad];refine go23 ?_;refine w_c I (yJL I I I (go22 ?_));refine wU I I I ?_;refine⟨_,?_,(Rp.Is.cast (eO _) (by exact(show uG L 0 1=33/\sO L 0 1=[] from zE3 oM hE hS hX (.inl ⟨v,by omega,zTE U (hO v oM) zo4⟩)).2.symm))⟩;rw[(show uG L 0 1=33/\sO L 0 1=[] from zE3 oM hE hS hX (.inl ⟨v,by omega,zTE U (hO v oM) zo4⟩)).1]
   rw[yN ad];refine yV I I I (λh' L' hh hR=>xG I) I (yV I I I (λh' L' hh hR=>xG I) I (go1 ?_));refine yV I I I (λh' L' hh hR=>xG I) I ?_;refine kD ((↑w:Int)≠(↑v:Int)) (λac=>?_) (λac=>?_)
   ·
    rw[wA ac];refine yV I I I (λh' L' hh hR=>xG I) I (yV I I I (λh' L' hh hR=>xG I) I (yV I I I (λh' L' hh hR=>(yK w (hR _ mh0) underlying22 sizeOf3 I I I bO nP).cv (show _=zG 1 C ((w*1+0)) from zbi (zG 1 C) zo3)) I (nH (F:=λv_=>rpI.Is mw v_ (H.getD w (0:Int))) I I I (xE ty3 (y4u (y4i _) (0:Int) w bO) I nP I J.up I) (gC mh0) I ?_)));intro du bd;obtain⟨rfl,dl,dd⟩:=jM bd;refine yV I I I (λh' L' hh hR=>xG I) I (yV I I I (λh' L' hh hR=>xG I) I (yV I I I (λh' L' hh hR=>(yK v (hR _ mh0) underlying22 sizeOf3 I I I bO nP).cv (show _=zG 1 C ((v*1+0)) from zbi (zG 1 C) zo3)) I (nH (F:=λv_=>rpI.Is mw v_ (H.getD v (0:Int))) I I I (xE ty3 (y4u (y4i _) (0:Int) v bO) I nP I J.up I) (gC mh0) I ?_)));intro dt bc;obtain⟨rfl,dk,dc⟩:=jM bc;refine go2 ?_;refine yV I I I (λh' L' hh hR=>xG I) I ?_;refine kD ((H.getD w (0:Int))=(H.getD v (0:Int))) (λab=>?_) (λab=>?_)
    ·
     rw[wA ab];refine yV I I I (λh' L' hh hR=>xG I) I (yV I I I (λh' L' hh hR=>xG I) I (oX I (xI [] w underlying76 qD rL) λdr bb=>(oX I (xA qD bb) λdq ba=>(yV I I I (λh' L' hh hR=>xG I) I (yV I I I (λh' L' hh hR=>xG I) I (oX I (xI [] v underlying76 qD rL) λdp az=>(oX I (xA qD az) λdn ay=>?_)))))));refine w_c I (zCW I I (sC (ev2 I I) call133 (λw hs=>zEC hs ba ay oM (by first|omega|assumption|exact zci (zye.1 (hE _ oM)) dC) (by first|omega|assumption|exact zci (zye.1 (hE _ oM)) dC)) λap h3 bj ax=>?_));obtain rfl:ap=vI (wiZ (L.getD w []) (L.getD v []) 0 1):=ax;have bx:=oL (L.getD w []) (L.getD v []) 0 1 (L.getD v []).length;refine gc5 (λO=>?_) λO=>?_
     ·
      have aj:zCV L 0 1 v w:=⟨⟨⟨by omega,by have:=zBR (hO v oM) zo4;rw[<-hO v oM];omega⟩,by rw[<-hO w oM,<-hO v oM];assumption⟩,O⟩;refine zAQ ?_;refine wU I I I ?_;refine⟨_,?_,(Rp.Is.cast (eO _) (by exact(show uG L 0 1=33/\sO L 0 1=[] from zE3 oM hE hS hX (.inr ⟨v,w,by omega,by omega,aj⟩)).2.symm))⟩;rw[(show uG L 0 1=33/\sO L 0 1=[] from zE3 oM hE hS hX (.inr ⟨v,w,by omega,by omega,aj⟩)).1]
     refine go8 ?_;refine gqL ((w+1),h3) ?_ ?_
     · exact⟨mle,⟨by omega,λ_=>zBR (hO v oM) zo4⟩,vX (Q:=λb=>¬zCV L 0 1 v b) ah (λe=>O e.2)⟩
     omega
    rw[yN ab];refine go8 ?_;refine w_c I (mO I I I I (sS ?_));refine gqL ((w+1),mw) ?_ ?_
    · exact⟨mle,⟨by omega,λ_=>zBR (hO v oM) zo4⟩,vX (Q:=λb=>¬zCV L 0 1 v b) ah (λe=>absurd e.1.2 (by rw[<-hO w oM,<-hO v oM];assumption))⟩
    omega
   rw[yN ac];refine uQ ?_;refine yV I I I (λh' L' hh hR=>xG I) I (go8 ?_);refine w_c I (mO I I I I (sS ?_));refine gqL ((w+1),mw) ?_ ?_
   · exact⟨mle,⟨by omega,λ_=>zBR (hO v oM) zo4⟩,vX (Q:=λb=>¬zCV L 0 1 v b) ah (λe=>absurd e.1.1.1 oM)⟩
   omega
  refine qK ?_;refine gqL ((v+1),mw) ?_ ?_
  · exact⟨mle,by omega,vX (Q:=λa=>¬iD L 0 1 a/\∀b,b<L.length->¬zCV L 0 1 a b) ai ⟨db oM,λb hb=>ah b oM⟩⟩
  omega
 have hB:∀a b,a<L.length->b<L.length->¬zCV L 0 1 a b:=λa b ha hb=>(ai a oM).2 b hb;have hL:∀a,a<L.length->¬iD L 0 1 a:=λa ha=>(ai a oM).1;refine pL ?_;refine wT (A:=[]) (ρ:=rpI) J.up ?_;intro h1 M aq;refine wU I I I ?_;refine⟨_,?_,(Rp.Is.cast aq (by exact(show uG L 0 1=0/\sO L 0 1=H from zZ1 oM hE hS hX hL hB bi hO).2.symm))⟩;rw[(show uG L 0 1=0/\sO L 0 1=H from zZ1 oM hE hS hX hL hB bi hO).1]
theorem zGP{k m n j:Nat}{vs:Value}{s:Sq}(rs:(tSd k m n j).Is h0 vs s){f:Nat}{vix:Value}{ix:(List Int)}(rix:(rpS rpI).Is h0 vix ix)(hcd0:k<=1000)(hcd1:m<=100000)(hcd2:n<=100000)(hcd3:okS s)(hcd4:f<s.2.1.length)(hcd5:nmP s f)(hcd6:ix.length=s.1.length):
 Calls prog 90 #[vs,vI ↑f,vix] w0 (Ret w0 h0 (λh r=>(tFc (4*m+11) (m+n+11)).Is h r (nfF s ix f))):=by
 have ii:=hcd3.1.1.1;have ih:=hcd3.1.1.2;have es:=zB8 s f;have ip:=yLB hcd4 hcd5;have ci:=hcd3.2.1 f hcd4;have ev:=oD (s:=s) (f:=↑f) hcd3.2.1;refine cb3 121 vs (vI ↑f) vix func90 hs ?_;refine go2 ?_;refine nB rs λb3 ar aj=>(nA (ρ:=(tFc 1 1)) (X:=((zT,(0:Rat)),([],([]:List Nat)))) jJ (yE (yE (xW (yM dC)) (yM dC)) (yE wK gP)) λb6 aq db=>(go4 ?_));refine lX (xB jV pH aj) λhu en=>(go1 ?_);refine cL (ev2 I I) call111 (λw hs=>zN3 (f:=f) hs en oM oM oM (by first|omega|exact hcd3.big) (by first|omega|exact hcd3.big) (by first|omega|exact hcd3.big) (by first|omega|exact hcd3.big)) λan h1 io em=>(go4 ?_);refine zL 15 _ [(14,(8,53,[.bool false,.slice none 0 0,.slice none 0 0,.bool false,.slice none 0 0,.slice none 0 0,.bool false,.slice none 0 0,.slice none 0 0,.bool false,.slice none 0 0,.slice none 0 0,.slice none 0 0,.string ⟨#[]⟩]))] (zai 0 6 (zai 7 6 [(6,.c),(13,.q),(14,.a),(15,.t)])) yF (kL.cons I I (qQ jJ I I) kL.nil) (wS zou) (qR I I gY) (λr hr=>hr) (go1 ?_);refine wX I (xB gS (y5i (y4e pH)) aj) λhq el=>(go1 ?_);refine wX I (xI zA f underlying36 bQ el) λhp ek=>(wX I (xF underlying53 sizeOf50 (y4e pH) ek) λho ej=>(wX I (xA lE ej) λhn eh=>(go1 ?_)));refine wX I (xB gS (y5i (y4e pH)) aj) λhl ef=>(go1 ?_);refine wX I (xI zA f underlying36 bQ ef) λhj ee=>(wX I (xF underlying53 sizeOf9 (y5i (y5i pH)) ee) λhb ed=>(wX I (xA ty9 ed) λha ec=>?_));obtain⟨rfl,co⟩:=kU ec;refine w_c I (sC (ev1 I) call66 (λw hs=>zVW hs eh oM oM) λhm h2 im eg=>(wX I (xV (ρ:=(rpP (tPl (4*m+10) (m+n+10)) (rpP rpV qF))) (wE (ps':=[(0,_),(2,_)]) underlying53 jJ I I (bV underlying53) e4z I (yE (yE (xW (yM oM)) (yM oM)) (yE fC gP)) (zD I (y4e (y4i _)) eg (zD I (y5i (y5i (y4i _))) (bG co) zP)))) λgz eb=>?_));refine w_a I I (λb8=>?_);have da:(rpP (tPl 1 1) (rpP rpV qF)).R h2 [.bool false,.slice none 0 0,.slice none 0 0,.bool false,.slice none 0 0,.slice none 0 0,.bool false,.slice none 0 0,.slice none 0 0,.bool false,.slice none 0 0,.slice none 0 0,.slice none 0 0,.string ⟨#[]⟩] ((zT,(0:Rat)),((Value.slice none 0 0),([]:List Nat))):=(yE (yE (xW (yM dC)) (yM dC)) (yE fC gP));have bw:=(Le.p (Le.p (Le.t (Le.q (l:=4*m+10) oM)) (Le.q (l:=m+n+10) oM)) (Le.refl _)).R da;refine yJ (A:=[]) I (uB sizeOf53 pH bw eb) λcp ce=>(sS ?_);refine xN 22 1 ?_;have bz:=RL.nil (ρ:=rpS rpI) (h:=h2);refine xN 22 1 ?_;have bx:=RL.nil (ρ:=rpS rpI) (h:=h2);refine gcL (ι:=Nat×List (List Int)×List (List Int)×List Value×Value×List Value×Value×List Value×Mem) (λ(i,D,G,O,C,M,H,J,ma)=>(MLe h2 ma/\((rpP (tPl (4*m+11) (m+n+11)) (rpP rpV qF)).R ma O (scZ (s.2.1.getD f zA).1,(H,(s.2.1.getD f zA).2.2))/\RL (rpS rpI) ma M D/\RL (rpS rpI) ma J G/\H.oneCell'=true/\i<=(s.2.1.getD f zA).2.1.length/\D=zAP s ix f i/\G=ouL s ix f i),[(1,vI ↑f),(2,vix),(3,vP b3 0),(6,vP b6 0),(7,an),(8,vP b8 0),(9,C),(10,vI ↑i)],[.gs 22 1 H G.length J,.gs 22 1 C D.length M,.var b8 53 O,.var b6 53 aq,.var b3 39 ar],ma,(s.2.1.getD f zA).2.1.length-i)) (0,[],[],cp,(.slice none 0 0),[],(.slice none 0 0),[],h2) ?_ ?_
 · exact⟨mle,((Le.p (Le.p (Le.t (Le.q (l:=4*m+11) oM)) (Le.q (l:=m+n+11) oM)) (Le.refl _)).R ce),bz,bx,I,by omega,I,I⟩
 rintro⟨i,D,G,O,C,M,H,J,ma⟩ ⟨fs,aa,Z,ac,bo,ij,hD,hG⟩
 refine xD ?_;have iu:D.length<=i:=by rw[hD];exact zRV s ix f i
 have iq:G.length<=i:=by rw[hG];exact cF _ _ i
 refine gc9 (λcn=>?_) λcn=>?_
 ·
  refine zAQ ?_;refine xN 3 1 ?_;have bf:=RL.nil (ρ:=rpI) (h:=ma);refine gcL (ι:=Nat×List Int×Value×List Value×Mem) (λ(q,EL,U,ae,mb)=>(MLe ma mb/\(RL rpI mb ae EL/\q<=((s.2.1.getD f zA).2.1.getD i []).length/\EL=nwL s ix f i q),[(1,vI ↑f),(2,vix),(3,vP b3 0),(6,vP b6 0),(7,an),(8,vP b8 0),(9,C),(10,vI ↑i),(11,U),(12,vI ↑q)],[.gs 3 1 U EL.length ae,.gs 22 1 H G.length J,.gs 22 1 C D.length M,.var b8 53 O,.var b6 53 aq,.var b3 39 ar],mb,((s.2.1.getD f zA).2.1.getD i []).length-q)) (0,[],(.slice none 0 0),[],ma) ?_ ?_
  · exact⟨mle,bf,by omega,I⟩
  rintro⟨q,EL,U,ae,mb⟩ ⟨fr,ai,ie,hE⟩
  refine xD ?_;have ir:EL.length=q:=by rw[hE];exact yY _ _
  have ch:=ci.2 i oM;refine go5 ?_;refine lX (xB gS (y5i (y4e pH)) aj) λgy ea=>(go1 ?_);refine lX (xI zA f underlying36 bQ ea) λgx dz=>(lX (xF underlying53 sizeOf51 (y5i (y4e pH)) dz) λgw dy=>(lX (xA cD dy) λgu dx=>(go1 ?_)));refine lX (xI [] i underlying51 fQ dx) λgt dw=>(lX (xA fQ dw) λgr hv=>(gc4 (λcm=>?_) λcm=>?_))
  ·
   refine go8 ?_;refine lX (xB gS (y5i (y4e pH)) aj) λgq dv=>(go1 ?_);refine lX (xI zA f underlying36 bQ dv) λgo du=>(lX (xF underlying53 sizeOf51 (y5i (y4e pH)) du) λgn dt=>(lX (xA cD dt) λgm dr=>(go1 ?_)));refine lX (xI [] i underlying51 fQ dr) λgk dq=>(lX (xA fQ dq) λgj dp=>(go1 ?_));refine lX (xI (0:Int) q underlying22 ty3 dp) λgi dn=>(lX (xA ty3 dn) λgh dm=>?_);obtain⟨rfl,fu,fo⟩:=jM dm;refine zIP (F:=λv_=>AtP rpI mb v_ (ix.getD ((((s.2.1.getD f zA).2.1.getD i []).getD q 0).toNat) (0:Int))) (rM (0:Int) ((((s.2.1.getD f zA).2.1.getD i []).getD q 0).toNat) underlying22 ty3 I I rix.up (by(have:=hcd5 i oM q oM;omega)) (by(have:=hcd5 i oM q oM;omega)) nP) zBW I ?_;intro gg dl;refine lX (xA ty3 dl) λgf dk=>?_;obtain⟨rfl,ft,fm⟩:=jM dk;refine zH (zJ (ρ:=rpI) (m:=1) (xs:=[(ix.getD ((((s.2.1.getD f zA).2.1.getD i []).getD q 0).toNat) (0:Int))]) (ps':=[(0,_)]) underlying22 jY I I I wL e2z (zD I (y4u (y4i _) (0:Int) 0 dC) (xZ oM oM) zP) zoj nP) I I I ?_
   rintro ge id ⟨fw,rfl,cd⟩
   refine zQ (A:=[]) (ρ:=rpI) cd ?_;intro h3 cl bb;refine xP (A:=[]) (uE (zS (ρ:=rpI) (bytes:=8) underlying22 jY I I I I nP I I ai.up bb bO bO)) I I I ?_
   rintro cz ic ⟨fp,ct,rfl,cc⟩
   refine go9 ?_;refine gqL ((q+1),(EL++[(ix.getD ((((s.2.1.getD f zA).2.1.getD i []).getD q 0).toNat) (0:Int))]),cz,ct,h3) ?_ ?_
   · exact⟨mle,cc,by omega,by rw[hE];rfl⟩
   omega
  have eq:q=((s.2.1.getD f zA).2.1.getD i []).length:=by omega
  have ch:=ci.2 i oM;refine go8 ?_;refine zQ (A:=[]) (ρ:=rpI) ai.up ?_;intro h3 cl ba;refine cL (ev1 I) call138 (λw hs=>zQ2 hs ba oM) λbv h4 ck ak=>?_;replace ak:=Rp.Is.cast (y:=(nfL s ix f i)) ak (by rw[hE,eq];rfl);refine go8 ?_;refine lX (xI [] i underlying76 qD em) λgc dj=>(lX (xA qD dj) λgb di=>(cL (ev1 I) call131 (λw hs=>pV hs di oM (by first|omega|(have:=ev.2 i;rw[<-es.2 i] at this;omega))) λga h5 il dh=>(cL (ev1 I) call48 (λw hs=>qI hs dh dC) λcy h6 ik df=>?_)));obtain rfl:cy=vI (yX (uV ((fJ s f).getD i []) 0 1 ((fJ s f).getD i []).length)):=df;have eo:=xK (uV ((fJ s f).getD i []) 0 1 ((fJ s f).getD i []).length);refine gc3 (λab=>?_) λab=>?_
  ·
   refine go3 ?_;refine lX (sE (xB cD (y5i (y4e pH)) aa)) λfz de=>?_;subst de;refine go1 ?_;refine zH (zJ (ρ:=(rpS rpI)) (m:=1) (xs:=[(nfL s ix f i)]) (ps':=[(0,_)]) underlying51 jD I I I wK e2z (zD I (y4u (y4i _) [] 0 dC) ak.up zP) zoj nP) I I I ?_
   rintro fy ib ⟨fv,rfl,cb⟩
   refine zQ (A:=[]) (ρ:=(rpS rpI)) cb ?_;intro h7 bq az;refine xP (A:=[]) (uE (zS (ρ:=(rpS rpI)) (bytes:=24) underlying51 jD I I I I nP I I ac.up az bO bO)) I I I ?_
   rintro cw ia ⟨au,cq,rfl,ca⟩
   refine go1 ?_;refine yD (A:=[_,_]) (uB sizeOf51 (y5i (y4e pH)) aa (eM au)) λbt bl=>(qK ?_);refine gqL ((i+1),D,(G++[(nfL s ix f i)]),bt,C,M,cw,cq,h7) ?_ ?_
   · exact⟨mle,bl,Z.up,ca,au,by omega,by rw[hD];exact(zau ab).symm,by rw[hG];exact zBB (p:=zEQ s f) ab⟩
   omega
  refine go5 ?_;refine gv (kF mh1 underlying51 I) I (go5 ?_);refine gcL (ι:=Nat×Mem) (λ(kp,mk)=>(MLe h6 mk/\(kp<=D.length/\aR (yA8 (nfL s ix f i) D) D.length=aR (yA8 (nfL s ix f i) D) kp),[(1,vI ↑f),(2,vix),(3,vP b3 0),(6,vP b6 0),(7,an),(8,vP b8 0),(9,C),(10,vI ↑i),(11,bv),(13,vI ↑kp)],[.gs 22 1 H G.length J,.gs 22 1 C D.length M,.var b8 53 O,.var b6 53 aq,.var b3 39 ar],mk,kp)) (D.length,h6) ?_ ?_
  · exact⟨mle,by omega,I⟩
  rintro⟨kp,mk⟩ ⟨fq,ig,cj⟩
  refine xD ?_;refine go5 ?_;refine qE (ι:=Mem) 10 (λm_=>MLe mk m_) (λ_=>[(97,vB (((0:Int)<(↑kp:Int))/\((cQ (nfL s ix f i) (D.getD (kp-1) []))<(0:Int)))),(1,vI ↑f),(2,vix),(3,vP b3 0),(6,vP b6 0),(7,an),(8,vP b8 0),(9,C),(10,vI ↑i),(11,bv),(13,vI ↑kp)]) (λ_=>[.gs 22 1 H G.length J,.gs 22 1 C D.length M,.var b8 53 O,.var b6 53 aq,.var b3 39 ar]) (λm_=>m_) ?_ ?_
  ·
   refine zY ((0:Int)<(↑kp:Int)) (λhg=>?_) (λhg=>?_)
   ·
    refine gT hg I (go9 ?_);refine gv ((yK (kp-1) mh1 underlying51 sizeOf22 I I oM oM nP).cv (show _=zG 1 C (((kp-1)*1+0)) from zbi (zG 1 C) zo3)) I (go1 ?_);refine zIP (F:=λv_=>(rpS rpI).Is mk v_ (D.getD (kp-1) [])) (xE fQ (y4u (y4i _) [] (kp-1) oM) I nP I Z.up I) (gC mh1) I ?_;intro fx dd;refine go1 ?_;refine cL (ev2 I I) call139 (λw hs=>zEF hs ak.up dd) λcu h7 bq dc=>?_;obtain rfl:cu=vI (cQ (nfL s ix f i) (D.getD (kp-1) [])):=dc;have eu:=zAU (nfL s ix f i) (D.getD (kp-1) []);refine go4 ?_;refine zV h7 bq ⟨?_,I,I,I,I,I,I,I,I,I,I,y3e⟩ I I;exact y3u (xL hg)
   refine gF hg I (uQ ?_);refine zV mk (MLe.refl _) ⟨?_,I,I,I,I,I,I,I,I,I,I,y3e⟩ I I;exact y3u (xM hg)
  intro ao bu;refine sN ?_;refine gc2 (λam=>?_) λam=>?_
  ·
   refine go9 ?_;refine gqL ((kp-1),ao) ?_ ?_ (he:=⟨I,I,I,I,I,I,I,I,I,zbi (λz=>some (vI z)) oM,y3e⟩)
   · exact⟨mle,by omega,by rw[cj];exact zR5 oM am.2⟩
   omega
  refine go8 ?_;refine zH (zJ (ρ:=(rpS rpI)) (m:=1) (xs:=[[]]) (ps':=[(0,_)]) underlying51 jD I I I wK e2z (zD I (y4u (y4i _) [] 0 dC) (eO _) zP) zoj nP) I I I ?_
  rintro fh fl ⟨fb,rfl,bi⟩
  refine zQ (A:=[]) (ρ:=(rpS rpI)) bi ?_;intro h7 bq ay;refine xP (A:=[_]) (uE (zS (ρ:=(rpS rpI)) (bytes:=24) underlying51 jD I I I I nP I I Z.up ay bO bO)) I I I ?_
  rintro ah fk ⟨ep,fa,rfl,bh⟩
  refine go4 ?_;refine lQ (A:=[_]) (by rw[lAz];exact yvi _) (λob iv bm bn=>?_);refine qS (A:=[_]) 8 [] (zai 0 7 [(7,.c)]) yF nX zou nX (go3 ?_);refine xY I (λ_ _=>jL (kp+1) underlying51 sizeOf22 I I ⟨_,_,bm,bn⟩ oM zo1) I (go2 ?_);refine xY I (λ_ _=>jL kp underlying51 sizeOf22 I I ⟨_,_,bm,bn⟩ oM zo1) I ?_;refine w_c I (fL (A:=[_]) (λX=>mP (ρ:=(rpS rpI)) kp bm bn underlying51 sizeOf22 I I zo1 bh) I (xQ zoy) ?_)
  rintro fg fj ⟨ey,rfl,be⟩
  refine go6 ?_;refine gv ((yK kp mh1 underlying51 sizeOf22 I I oM (by rw[fR zo1];simp only[lAz,lC,lN];omega) nP).cv (show _=zG 1 ah ((kp*1+0)) from zbi (zG 1 ah) zo3)) I (fZ (A:=[_]) (F:=λc_=>RL (rpS rpI) h7 c_ ((sJ (D++[[]]) kp).set kp (nfL s ix f i))) (rW sizeOf22 (y4u (y4i _) [] kp (by rw[fR zo1];simp only[lAz,lC,lN];omega)) I nP I I be ak.up I) ?_);intro bs bd;refine go8 ?_;refine gqL ((i+1),((sJ (D++[[]]) kp).set kp (nfL s ix f i)),G,O,ah,bs,H,J,h7) ?_ ?_
  · exact⟨mle,aa.up,bd,ac.up,bo,by omega,by rw[mM oM];have er:aR (yA8 (nfL s ix f i) D) D.length=kp:=by{rw[cj];exact zH4 (λe=>am ⟨by omega,e.2⟩)};rw[<-er,hD];exact(zae ab).symm,by rw[hG];exact zBC (p:=zEQ s f) ab⟩
  omega
 have ei:i=(s.2.1.getD f zA).2.1.length:=by omega
 refine go8 ?_;refine lX (sE (xB cD (y5i (y4e pH)) aa)) λff cg=>?_;subst cg;refine go1 ?_;refine zQ (A:=[_]) (ρ:=(rpS rpI)) Z.up ?_;intro h3 cl ax;refine xP (A:=[]) (uE (zS (ρ:=(rpS rpI)) (bytes:=24) underlying51 jD I I I I nP I I ac.up ax bO bO)) I I I ?_
 rintro fe fi ⟨bp,ez,rfl,bg⟩
 refine go1 ?_;refine yD (A:=[_]) (uB sizeOf51 (y5i (y4e pH)) aa (eM bp)) λbr ad=>(go4 ?_);refine zQ (A:=[]) (ρ:=(rpS rpI)) bg ?_;intro h4 ck aw;replace ad:=ad.mono ck;have bk:(tFc (4*m+11) (m+n+11)).R h4 br ((scZ (s.2.1.getD f zA).1,(H,(s.2.1.getD f zA).2.2)).1,((G++D),((scZ (s.2.1.getD f zA).1,(H,(s.2.1.getD f zA).2.2)).2).2)):=zFJ ad aw;refine lX (xB bQ pH bk) λfd cf=>?_;have av:=(Le.p (Le.p (Le.t (Le.q (l:=4*m+11) oM)) (Le.q (l:=m+n+11) oM)) (Le.refl _)).R db;refine yD (A:=[_]) (uB sizeOf53 pH av cf) λew bj=>(go3 ?_);refine vM (gG (t:=6) bQ mh1 I bj) ?_;intro fc ap bc;refine xC (λE S=>yB I ap E S) ?_;exact(Rp.Is.cast bc (by rw[hD,hG,ei];rfl))
theorem zVV{k m n j:Nat}{vs:Value}{s:Sq}(rs:(tSd k m n j).Is h0 vs s)(hcd0:s.2.1.length<=100000):
 Calls prog 141 #[vs] w0 (Ret w0 h0 (λh r=>(rpS tE5).Is h r (szZ s))):=by
 refine cb1 52 vs func141 hs ?_;refine go2 ?_;refine nB rs λb1 av O=>(pX ?_);refine xN 200 5 ?_;have aj:=RL.nil (ρ:=rpP rpI (rpP rpI (rpP rpI (rpP rpI rpI)))) (h:=h0);refine gcL (ι:=Nat×List (Int×Int×Int×Int×Int)×Value×List Value×Mem) (λ(f,D,H,J,mf)=>(MLe h0 mf/\(RL tE5 mf J D/\f<=s.2.1.length/\D=yIV s f),[(1,vP b1 0),(3,H),(4,vI ↑f)],[.gs 200 5 H D.length J,.var b1 39 av],mf,s.2.1.length-f)) (0,[],(.slice none 0 0),[],h0) ?_ ?_
 · exact⟨mle,aj,by omega,I⟩
 rintro⟨f,D,H,J,mf⟩ ⟨bk,M,cj,hD⟩
 refine xD ?_;have ck:D.length<=f:=by rw[hD];exact cF _ _ f
 refine go5 ?_;refine lX (xB gS (y5i (y4e pH)) O) λv7 r7=>(gc4 (λbj=>?_) λbj=>?_)
 ·
  refine go7 ?_;refine lX (xB gS (y5i (y4e pH)) O) λcb bh=>(go1 ?_);refine lX (xI zA f underlying36 bQ bh) λca bg=>(lX (xF underlying53 sizeOf51 (y5i (y4e pH)) bg) λbz bf=>(lX (xA cD bf) λbx be=>(cL (ev1 I) call178 (λw hs=>dD hs be) λay h1 aq bd=>?_)));obtain rfl:ay=vB (vfP (((s.2.1.getD f zA).2).1)):=bd;refine go1 ?_;refine qE (ι:=Mem) 6 (λm_=>MLe h1 m_) (λ_=>[(25,vB ((¬(vfP (((s.2.1.getD f zA).2).1)))\/(¬(nmP s (↑f:Int).toNat)))),(1,vP b1 0),(3,H),(4,vI ↑f)]) (λ_=>[.gs 200 5 H D.length J,.var b1 39 av]) (λm_=>m_) ?_ ?_
  ·
   refine zY (¬(vfP (((s.2.1.getD f zA).2).1))) (λC=>?_) (λC=>?_)
   ·
    refine gT C I (go6 ?_);refine zV h1 (MLe.refl _) ⟨?_,I,I,I,y3e⟩ I I;exact y3u (vV C)
   refine gF C I (go1 ?_);refine lX (xB jV pH O) λbw bc=>(go3 ?_);refine cL (ev2 I I) call158 (λw hs=>zJM hs bc oM oM oM (by first|omega|exact zci (zdi C).1.2 dC|exactλl hl=>zci ((zdi C).2 l hl).1.2 dC) (by first|omega|exact zci (zdi C).1.2 dC|exactλl hl=>zci ((zdi C).2 l hl).1.2 dC) (by first|omega|exact zci (zdi C).1.2 dC|exactλl hl=>zci ((zdi C).2 l hl).1.2 dC)) λax h2 ab bb=>?_;obtain rfl:ax=vB (nmP s (↑f:Int).toNat):=bb;refine go4 ?_;refine zV h2 ab ⟨?_,I,I,I,y3e⟩ I I;exact y3u (vW C)
  intro Z ap;refine sN ?_;refine gc2 (λU=>?_) λU=>?_
  ·
   have aa:szP s f:=U;refine go3 ?_;refine cL (vs:=[vI (1),_,vI (-1),vI (-1)]) e4z call179 (λw hs=>zAI hs dC dC oM oM dC dC dC dC) λbv h2 ab ba=>(zH (zJ (ρ:=tE5) (m:=1) (xs:=[dg (1:Int) (↑f:Int) (-1:Int) (-1:Int)]) (ps':=[(0,_)]) underlying133 jU I I I (yE wL (yE wL (yE wL (yE wL wL)))) e2z (zD I (y4u (y4i _) e50 0 dC) ba zP) zoi nP) I I I ?_)
   rintro bu ci ⟨bn,rfl,ao⟩
   refine zQ (A:=[]) (ρ:=tE5) ao ?_;intro h3 bi ai;refine xP (A:=[]) (zS (ρ:=tE5) (bytes:=40) underlying133 jU I I I I nP I I M.up ai bO bO) I I I ?_
   rintro aw ch ⟨au,rfl,an⟩
   refine go9 ?_;refine gqL ((f+1),(D++[dg (1:Int) (↑f:Int) (-1:Int) (-1:Int)]),aw,au,h3) ?_ ?_
   · exact⟨mle,an,by omega,by rw[hD];exact zBB aa⟩
   omega
  have aa:¬szP s f:=U;refine go8 ?_;refine gqL ((f+1),D,H,J,Z) ?_ ?_
  · exact⟨mle,M.up,by omega,by rw[hD];exact zBC aa⟩
  omega
 have ef:f=s.2.1.length:=by omega
 refine go9 ?_;refine lX (xB qD (y4e pH) O) λbt ce=>(go2 ?_);refine gU 6 40 (vB (((512:Int)<(↑(s.1).length:Int))\/((256:Int)<(↑(s.2.1).length:Int)))) ?_ ?_
 ·
  refine zY ((512:Int)<(↑(s.1).length:Int)) (λC=>?_) (λC=>?_)
  ·
   refine gT C I (go6 ?_);refine gqU ?_;exact y3u (vV C)
  refine gF C I (go3 ?_);refine lX (xB gS (y5i (y4e pH)) O) λbs cd=>(go6 ?_);refine gqU ?_;exact y3u (vW C)
 refine gU 6 46 (vB ((((512:Int)<(↑(s.1).length:Int))\/((256:Int)<(↑(s.2.1).length:Int)))\/((1024:Int)<(↑(s.2.2).length:Int)))) ?_ ?_
 ·
  refine zY (((512:Int)<(↑(s.1).length:Int))\/((256:Int)<(↑(s.2.1).length:Int))) (λC=>?_) (λC=>?_)
  ·
   refine gT C I (go6 ?_);refine gqU ?_;exact y3u (vV C)
  refine gF C I (go3 ?_);refine lX (xB yH4 (y5i (y5i pH)) O) λbr cc=>(go6 ?_);refine gqU ?_;exact y3u (vW C)
 refine gc2 (λar=>?_) λar=>?_
 ·
  have ac:zPK s:=by unfold zPK;omega
  refine go2 ?_;refine cL (vs:=[vI (2),vI (-1),vI (-1),vI (-1)]) e4z call179 (λw hs=>zAI hs dC dC dC dC dC dC dC dC) λbq h1 aq az=>(zH (zJ (ρ:=tE5) (m:=1) (xs:=[dg (2:Int) (-1:Int) (-1:Int) (-1:Int)]) (ps':=[(0,_)]) underlying133 jU I I I (yE wL (yE wL (yE wL (yE wL wL)))) e2z (zD I (y4u (y4i _) e50 0 dC) az zP) zoi nP) I I I ?_)
  rintro bp cg ⟨bm,rfl,am⟩
  refine zQ (A:=[]) (ρ:=tE5) am ?_;intro h2 ab ah;refine xP (A:=[]) (zS (ρ:=tE5) (bytes:=40) underlying133 jU I I I I nP I I M.up ah bO bO) I I I ?_
  rintro bo cf ⟨bl,rfl,ak⟩
  refine uQ ?_;refine wT (A:=[]) (ρ:=tE5) ak ?_;intro h3 bi ae;refine zC I I ?_;exact(Rp.Is.cast ae (by rw[hD,ef];exact(zau ac).symm))
 have ac:¬zPK s:=by unfold zPK;omega
 refine go9 ?_;refine wT (A:=[]) (ρ:=tE5) M.up ?_;intro h1 aq ad;refine zC I I ?_;exact(Rp.Is.cast ad (by rw[hD,ef];exact(zae ac).symm))
theorem zVT{k m n j:Nat}{vs:Value}{s:Sq}(rs:(tSd k m n j).Is h0 vs s)(hcd0:s.1.length<=100000)(hcd1:k<=100000000):
 Calls prog 142 #[vs] w0 (Ret w0 h0 (λh r=>(rpS tE5).Is h r (zMV s s.1.length))):=by
 refine cb1 35 vs func142 hs ?_;refine go2 ?_;refine nB rs λb1 ak Z=>(pX ?_);refine xN 200 5 ?_;have ab:=RL.nil (ρ:=rpP rpI (rpP rpI (rpP rpI (rpP rpI rpI)))) (h:=h0);refine gcL (ι:=Nat×List (Int×Int×Int×Int×Int)×Value×List Value×Mem) (λ(f,D,C,H,mf)=>(MLe h0 mf/\(RL tE5 mf H D/\f<=s.1.length/\D=zMV s f),[(1,vP b1 0),(3,C),(4,vI ↑f)],[.gs 200 5 C D.length H,.var b1 39 ak],mf,s.1.length-f)) (0,[],(.slice none 0 0),[],h0) ?_ ?_
 · exact⟨mle,ab,by omega,I⟩
 rintro⟨f,D,C,H,mf⟩ ⟨az,J,bp,hD⟩
 refine xD ?_;have bq:D.length<=f:=by rw[hD];exact cF _ _ f
 refine go5 ?_;refine lX (xB qD (y4e pH) Z) λv8 r8=>(gc4 (λai=>?_) λai=>?_)
 ·
  refine uQ ?_;refine gcL (ι:=Nat×Mem) (λ(q,mb)=>(MLe mf mb/\(q<=f/\∀u,u<q->¬gp s.1 f=gp s.1 u),[(1,vP b1 0),(3,C),(4,vI ↑f),(5,vI ↑q)],[.gs 200 5 C D.length H,.var b1 39 ak],mb,f-q)) (0,mf) ?_ ?_
  · exact⟨mle,by omega,λu h=>by omega⟩
  rintro⟨q,mb⟩ ⟨ba,bm,ae⟩
  refine xD ?_;refine gc8 (λah=>?_) λah=>?_
  ·
   refine go5 ?_;refine zL 11 _ [] (zai 0 10 [(10,.c)]) yF nX zou nX (λr hr=>hr) (go1 ?_);refine wX I (xB qD (y4e pH) Z) λbj ax=>(go1 ?_);refine wX I (xI zT f underlying35 zN ax) λbi aw=>(wX I (xA zN aw) λbh av=>(go1 ?_));refine wX I (xB qD (y4e pH) Z) λbg au=>(go1 ?_);refine wX I (xI zT q underlying35 zN au) λbf ar=>(wX I (xA zN ar) λbe aq=>?_);refine w_c I (sC (ev2 I I) call35 (λw hs=>zJJ hs av aq oM) λan h1 ay ap=>?_);obtain rfl:an=vB ((s.1.getD f zT)=(s.1.getD q zT)):=ap;refine gc2 (λM=>?_) λM=>?_
   ·
    have aa:twP s f:=⟨q,by omega,M⟩;refine go4 ?_;refine cL (vs:=[vI (37),vI (-1),vI (-1),_]) e4z call179 (λw hs=>zAI hs dC dC dC dC dC dC oM oM) λbd h2 bo ao=>(zH (zJ (ρ:=tE5) (m:=1) (xs:=[dg (37:Int) (-1:Int) (-1:Int) (↑f:Int)]) (ps':=[(0,_)]) underlying133 jU I I I (yE wL (yE wL (yE wL (yE wL wL)))) e2z (zD I (y4u (y4i _) e50 0 dC) ao zP) zoi nP) I I I ?_)
    rintro bc bl ⟨bb,rfl,ad⟩
    refine zQ (A:=[]) (ρ:=tE5) ad ?_;intro h3 bn U;refine xP (A:=[]) (zS (ρ:=tE5) (bytes:=40) underlying133 jU I I I I nP I I J.up U bO bO) I I I ?_
    rintro am bk ⟨aj,rfl,ac⟩
    refine pX ?_;refine gqL ((f+1),(D++[dg (37:Int) (-1:Int) (-1:Int) (↑f:Int)]),am,aj,h3) ?_ ?_
    · exact⟨mle,ac,by omega,by rw[hD];exact zBB aa⟩
    omega
   refine go8 ?_;refine gqL ((q+1),h1) ?_ ?_
   · exact⟨mle,by omega,vX (Q:=λu=>¬gp s.1 f=gp s.1 u) ae M⟩
   omega
  have aa:¬twP s f:=λ⟨u,h1,h2⟩=>ae u oM h2;refine qK ?_;refine gqL ((f+1),D,C,H,mb) ?_ ?_
  · exact⟨mle,J.up,by omega,by rw[hD];exact zBC aa⟩
  omega
 have ef:f=s.1.length:=by omega
 refine uY ?_;refine wT (A:=[]) (ρ:=tE5) J.up ?_;intro h1 ay O;refine zC I I ?_;exact(Rp.Is.cast O (by rw[hD,ef]))
theorem zQ3{k m n j:Nat}{vs:Value}{s:Sq}(rs:(tSd k m n j).Is h0 vs s)(hcd0:k<=1000)(hcd1:m<=100000)(hcd2:n<=100000)(hcd3:s.1.length<=100000)(hcd4:∀f,f<s.2.1.length->(s.2.1.getD f zA).2.1.length<=10000/\∀l,l<(s.2.1.getD f zA).2.1.length->((s.2.1.getD f zA).2.1.getD l []).length<=10000)(hcd5:s.2.1.length<=1000)(hcd6:s.1.length<=100000)(hcd7:∀f,f<s.2.1.length->(s.2.1.getD f zA).2.1.length<=16/\∀l,l<(s.2.1.getD f zA).2.1.length->((s.2.1.getD f zA).2.1.getD l []).length<=64):
 Calls prog 143 #[vs] w0 (Ret w0 h0 (λh r=>(rpS tE5).Is h r (plZ s))):=by
 refine cb1 74 vs func143 hs ?_;refine go2 ?_;refine nB rs λb1 aq an=>(zAQ ?_);refine xN 200 5 ?_;have az:=RL.nil (ρ:=rpP rpI (rpP rpI (rpP rpI (rpP rpI rpI)))) (h:=h0);refine xN 200 5 ?_;have ay:=RL.nil (ρ:=rpP rpI (rpP rpI (rpP rpI (rpP rpI rpI)))) (h:=h0);refine gcL (ι:=Nat×List (Int×Int×Int×Int×Int)×List (Int×Int×Int×Int×Int)×Value×List Value×Value×List Value×Mem) (λ(f,D,G,ab,ac,J,aa,ma)=>(MLe h0 ma/\(RL tE5 ma ac D/\RL tE5 ma aa G/\f<=s.2.1.length/\D=zUN s f/\G=zQW s f),[(1,vP b1 0),(3,ab),(4,J),(5,vI ↑f)],[.gs 200 5 J G.length aa,.gs 200 5 ab D.length ac,.var b1 39 aq],ma,s.2.1.length-f)) (0,[],[],(.slice none 0 0),[],(.slice none 0 0),[],h0) ?_ ?_
 · exact⟨mle,az,ay,by omega,I,I⟩
 rintro⟨f,D,G,ab,ac,J,aa,ma⟩ ⟨cv,ae,ai,em,hD,hG⟩
 refine xD ?_;have eo:D.length<=f:=by rw[hD];exact cF _ _ f
 have en:G.length<=1024*f:=by rw[hG];exact zZJ hcd7 f oM
 have bi:=oD (s:=s) (f:=↑f) hcd7;refine go5 ?_;refine lX (xB gS (y5i (y4e pH)) an) λdz eb=>(gc4 (λbm=>?_) λbm=>?_)
 ·
  refine go4 ?_;refine jR (ι:=List (Int×Int×Int×Int×Int)×Value×List Value×Mem) (λ(ZR,C,H,mz)=>MLe ma mz/\(RL tE5 mz H ZR/\ZR=zUN s (f+1))) (λ(ZR,C,H,mz)=>[(1,vP b1 0),(3,C),(4,J),(5,vI ↑f)]) (λ(ZR,C,H,mz)=>[.gs 200 5 J G.length aa,.gs 200 5 C ZR.length H,.var b1 39 aq]) (λ(ZR,C,H,mz)=>mz) ?_ ?_
  ·
   refine go3 ?_;refine lX (xB gS (y5i (y4e pH)) an) λdy cm=>(go1 ?_);refine lX (xI zA f underlying36 bQ cm) λdx cl=>(lX (xF underlying53 sizeOf50 (y4e pH) cl) λdw ck=>(lX (xF underlying50 sizeOf31 (y4e pH) ck) λdv cj=>(lX (xA zN cj) λdu ci=>(cL (ev1 I) call80 (λw hs=>zC8 hs ci oM) λbs h1 aj ch=>?_))));obtain rfl:bs=vB ((((s.2.1.getD f zA).1).1)=zT):=ch;refine gc2 (λam=>?_) λam=>?_
   ·
    refine go3 ?_;refine cL (vs:=[vI (9),_,vI (-1),vI (-1)]) e4z call179 (λw hs=>zAI hs dC dC oM oM dC dC dC dC) λdt h2 bh cg=>(zH (zJ (ρ:=tE5) (m:=1) (xs:=[dg (9:Int) (↑f:Int) (-1:Int) (-1:Int)]) (ps':=[(0,_)]) underlying133 jU I I I (yE wL (yE wL (yE wL (yE wL wL)))) e2z (zD I (y4u (y4i _) e50 0 dC) cg zP) zoi nP) I I I ?_)
    rintro dr eg ⟨db,rfl,be⟩
    refine zQ (A:=[]) (ρ:=tE5) be ?_;intro h3 bg aw;refine xP (A:=[_]) (zS (ρ:=tE5) (bytes:=40) underlying133 jU I I I I nP I I ae.up aw bO bO) I I I ?_
    rintro br ee ⟨bo,rfl,bd⟩
    refine go2 ?_;refine zV ((D++[dg (9:Int) (↑f:Int) (-1:Int) (-1:Int)]),br,bo,h3) ?_ e4z I I;refine⟨((aj.trans bh).trans bg),?_⟩;refine⟨bd,?_⟩;exact(by rw[hD];exact zBB am)
   refine go1 ?_;refine zV (D,ab,ac,h1) ?_ e4z I I;refine⟨aj,?_⟩;refine⟨ae.up,?_⟩;exact(by rw[hD];exact zBC am)
  rintro⟨ZR,C,H,mz⟩ ⟨cq,hZ⟩
  refine xD ?_;obtain⟨ax,hZ⟩:=hZ;refine go2 ?_;refine lX (xB jV pH an) λdq cf=>(go1 ?_);refine cL (ev2 I I) call118 (λw hs=>zEE hs cf oM oM (by first|omega|exact hcd4) (by first|omega|exact hcd4)) λba h1 aj bf=>(go9 ?_);refine gcL (ι:=Nat×List (Int×Int×Int×Int×Int)×Value×List Value×Mem) (λ(l,G1,O,Z,mb)=>(MLe h1 mb/\(RL tE5 mb Z G1/\l<=(xR s ↑f).length/\G1=zQW s f++ofL s f l),[(1,vP b1 0),(3,C),(4,O),(5,vI ↑f),(6,ba),(7,vI ↑l)],[.gs 200 5 O G1.length Z,.gs 200 5 C ZR.length H,.var b1 39 aq],mb,(xR s ↑f).length-l)) (0,G,J,aa,h1) ?_ ?_
  · exact⟨mle,ai.up,by omega,by rw[hG];exact(zqi _).symm⟩
  rintro⟨l,G1,O,Z,mb⟩ ⟨cu,ah,eh,ap⟩
  refine xD ?_;have cp:=zGH (s:=s) hcd7 f l;have cz:G1.length<=1024*f+1024:=by rw[ap,lAz,<-hG];have:=bi.1;omega
  refine gc9 (λbl=>?_) λbl=>?_
  ·
   refine uQ ?_;refine gcL (ι:=Nat×List (Int×Int×Int×Int×Int)×Value×List Value×Mem) (λ(i,G2,M,U,mc)=>(MLe mb mc/\(RL tE5 mc U G2/\i<=((xR s ↑f).getD l []).length/\G2=zQW s f++ofL s f l++ofX s f l i),[(1,vP b1 0),(3,C),(4,M),(5,vI ↑f),(6,ba),(7,vI ↑l),(8,vI ↑i)],[.gs 200 5 M G2.length U,.gs 200 5 C ZR.length H,.var b1 39 aq],mc,((xR s ↑f).getD l []).length-i)) (0,G1,O,Z,mb) ?_ ?_
   · exact⟨mle,ah,by omega,by rw[ap];exact(zqi _).symm⟩
   rintro⟨i,G2,M,U,mc⟩ ⟨ct,ad,ej,ao⟩
   refine xD ?_;have cw:=bi.2 l;have co:(ofX s f l i).length<=i:=cF _ _ i;have cy:G2.length<=1024*f+2048:=by rw[ao,lAz,<-ap];omega
   refine go6 ?_;refine lX (xI [] l underlying76 qD bf) λdp ce=>(lX (xA qD ce) λdn ea=>(gc4 (λbk=>?_) λbk=>?_))
   ·
    refine go5 ?_;refine zL 15 _ [] (zai 0 13 [(13,.c),(14,.q)]) yF nX (wS zou) nX (λr hr=>hr) (go1 ?_);refine wX I (xB gS (y5i (y4e pH)) an) λdm cd=>(go1 ?_);refine wX I (xI zA f underlying36 bQ cd) λdl cc=>(wX I (xF underlying53 sizeOf50 (y4e pH) cc) λdk cb=>(wX I (xA lE cb) λdj ca=>(go2 ?_)));refine wX I (xI [] l underlying76 qD bf) λdi bz=>(wX I (xA qD bz) λdh bx=>(go1 ?_));refine wX I (xI zT i underlying35 zN bx) λdf bw=>(wX I (xA zN bw) λde bv=>?_);refine w_c I (sC (ev2 I I) call23 (λw hs=>zVS hs ca bv oM oM oM) λbq h2 bh bu=>?_);obtain rfl:bq=vI (yX (zM ((s.2.1.getD f zA).1).1 (((xR s (↑f:Int)).getD l []).getD i zT)-((s.2.1.getD f zA).1).2)):=bu;have cn:=xK (zM ((s.2.1.getD f zA).1).1 (((xR s (↑f:Int)).getD l []).getD i zT)-((s.2.1.getD f zA).1).2);refine gc3 (λak=>?_) λak=>?_
    ·
     refine go5 ?_;refine cL (vs:=[vI (31),_,_,_]) e4z call179 (λw hs=>zAI hs dC dC oM oM oM oM oM oM) λdd h3 bg bt=>(zH (zJ (ρ:=tE5) (m:=1) (xs:=[dg (31:Int) (↑f:Int) (↑l:Int) (↑i:Int)]) (ps':=[(0,_)]) underlying133 jU I I I (yE wL (yE wL (yE wL (yE wL wL)))) e2z (zD I (y4u (y4i _) e50 0 dC) bt zP) zoi nP) I I I ?_)
     rintro dc ed ⟨da,rfl,bc⟩
     refine zQ (A:=[]) (ρ:=tE5) bc ?_;intro h4 ek av;refine xP (A:=[]) (zS (ρ:=tE5) (bytes:=40) underlying133 jU I I I I nP I I ad.up av bO bO) I I I ?_
     rintro bp ec ⟨bn,rfl,bb⟩
     refine go9 ?_;refine gqL ((i+1),(G2++[dg (31:Int) (↑f:Int) (↑l:Int) (↑i:Int)]),bp,bn,h4) ?_ ?_
     · exact⟨mle,bb,by omega,by rw[ao,zju,show ofX s f l i++_=_ from zBB (p:=ofP s f l) ak];rfl⟩
     omega
    refine go8 ?_;refine gqL ((i+1),G2,M,U,h2) ?_ ?_
    · exact⟨mle,ad.up,by omega,by rw[ao,show ofX s f l i=_ from zBC (p:=ofP s f l) ak];rfl⟩
    omega
   have ei:i=((xR s ↑f).getD l []).length:=by omega
   refine qK ?_;refine gqL ((l+1),G2,M,U,mc) ?_ ?_
   · exact⟨mle,ad.up,by omega,by rw[ao,ei,zju];rfl⟩
   omega
  have el:l=(xR s ↑f).length:=by omega
  refine qK ?_;refine gqL ((f+1),ZR,G1,C,H,O,Z,mb) ?_ ?_
  · exact⟨mle,ax.up,ah,by omega,hZ,by rw[ap,el];rfl⟩
  omega
 have ef:f=s.2.1.length:=by omega
 refine go9 ?_;refine gv (kF mh1 underlying133 I) I (gc3 (λbj=>?_) λbj=>?_)
 ·
  refine go8 ?_;refine wT (A:=[_]) (ρ:=tE5) ae.up ?_;intro h1 aj au;refine zC I I ?_;exact(Rp.Is.cast au (by rw[hD,ef];exact(zau (by rw[<-ef,<-hD];omega)).symm))
 refine go9 ?_;refine wT (A:=[]) (ρ:=tE5) ai.up ?_;intro h1 aj ar;refine zC I I ?_;exact(Rp.Is.cast ar (by rw[hG,ef];exact(zae (by rw[<-ef,<-hD];omega)).symm))
theorem zJL{k:Nat}{vL:Value}{L:(List (List Tq))}(rL:(tLL k).Is h0 vL L)(hcd0:k<=100000)(hcd1:∀l,l<L.length->(L.getD l []).length<=1000)(hcd2:L.length<=100000):
 Calls prog 86 #[vL] w0 (Ret w0 h0 (λ_ r=>r=vI (ouZ L))):=by
 refine cb1 21 vL func86 hs ?_;refine mF ?_;refine gcL (ι:=Nat×Mem) (λ(m,U)=>(MLe h0 U/\(m<=L.length),[(0,vL),(3,vI (zAF L m)),(4,vI ↑m)],[],U,L.length-m)) (0,h0) ?_ ?_
 · exact⟨mle,oM⟩
 rintro⟨m,U⟩ ⟨ab,ah⟩
 refine xD ?_;have hor:=zBJ L m;have ai:=hcd1 m;refine gc9 (λaa=>?_) λaa=>?_
 ·
  refine go8 ?_;refine lX (xI [] m underlying76 qD rL) λae O=>(lX (xA qD O) λad M=>(cL (ev1 I) call131 (λw hs=>pV hs M oM oM) λac h1 ak J=>(cL (ev1 I) call48 (λw hs=>qI hs J dC) λD h2 aj H=>?_)));obtain rfl:D=vI (yX (uV (L.getD m []) 0 1 (L.getD m []).length)):=H;have Z:=xK (uV (L.getD m []) 0 1 (L.getD m []).length);refine gc3 (λC=>?_) λC=>?_
  ·
   refine uY ?_;refine gqL ((m+1),h2) ?_ ?_ (he:=⟨I,zbi (λz=>some (vI z)) (ou_t C),I,y3e⟩)
   · exact⟨mle,oM⟩
   omega
  refine go8 ?_;refine gqL ((m+1),h2) ?_ ?_ (he:=⟨I,zbi (λz=>some (vI z)) (ou_f C),I,y3e⟩)
  · exact⟨mle,oM⟩
  omega
 refine uY ?_;refine zC I I ?_;have em:m=L.length:=by omega
 subst em
 rfl
theorem zVY{k m n j:Nat}{vs:Value}{s:Sq}(rs:(tSd k m n j).Is h0 vs s)(hcd0:k<=1000)(hcd1:m<=100000)(hcd2:n<=100000)(hcd3:okS s):
 Calls prog 144 #[vs] w0 (Ret w0 h0 (λh r=>(rpS tE5).Is h r (neZ s))):=by
 have cl:=hcd3.1.1.1;have ck:=hcd3.1.1.2;refine cb1 45 vs func144 hs ?_;refine go2 ?_;refine nB rs λb1 bh aw=>(zAQ ?_);refine xN 200 5 ?_;have ap:=RL.nil (ρ:=rpP rpI (rpP rpI (rpP rpI (rpP rpI rpI)))) (h:=h0);refine xN 200 5 ?_;have ao:=RL.nil (ρ:=rpP rpI (rpP rpI (rpP rpI (rpP rpI rpI)))) (h:=h0);refine gcL (ι:=Nat×List (Int×Int×Int×Int×Int)×List (Int×Int×Int×Int×Int)×Value×List Value×Value×List Value×Mem) (λ(f,D,G,O,U,J,M,ma)=>(MLe h0 ma/\(RL tE5 ma U D/\RL tE5 ma M G/\f<=s.2.1.length/\D=yCL s f/\G=yKB s f),[(1,vP b1 0),(3,O),(4,J),(5,vI ↑f)],[.gs 200 5 J G.length M,.gs 200 5 O D.length U,.var b1 39 bh],ma,s.2.1.length-f)) (0,[],[],(.slice none 0 0),[],(.slice none 0 0),[],h0) ?_ ?_
 · exact⟨mle,ap,ao,by omega,I,I⟩
 rintro⟨f,D,G,O,U,J,M,ma⟩ ⟨bt,aa,Z,cm,hD,hG⟩
 refine xD ?_;have co:D.length<=f:=by rw[hD];exact cF _ _ f
 have cn:G.length<=f:=by rw[hG];exact cF _ _ f
 have bb:=zB8 s f;have bc:=oD (s:=s) (f:=↑f) hcd3.2.1;have cj:=zOB (fJ s f) 0 1;refine go5 ?_;refine lX (xB gS (y5i (y4e pH)) aw) λcd ce=>(gc4 (λbe=>?_) λbe=>?_)
 ·
  refine go6 ?_;refine lX (xB jV pH aw) λcc bq=>(go1 ?_);refine cL (ev2 I I) call111 (λw hs=>zN3 (f:=f) hs bq oM oM oM (by first|omega|exact hcd3.big) (by first|omega|exact hcd3.big) (by first|omega|exact hcd3.big) (by first|omega|exact hcd3.big)) λbl h1 ba ax=>(go3 ?_);refine jR (ι:=List (Int×Int×Int×Int×Int)×Value×List Value×Mem) (λ(ZR,H,C,mz)=>MLe h1 mz/\(RL tE5 mz C ZR/\ZR=yCL s (f+1))) (λ(ZR,H,C,mz)=>[(1,vP b1 0),(3,H),(4,J),(5,vI ↑f),(6,bl)]) (λ(ZR,H,C,mz)=>[.gs 200 5 J G.length M,.gs 200 5 H ZR.length C,.var b1 39 bh]) (λ(ZR,H,C,mz)=>mz) ?_ ?_
  ·
   refine go3 ?_;refine cL (ev1 I) call85 (λw hs=>zJI hs ax oM (by first|omega|exact hcd3.2.2 f oM)) λcb h2 an bp=>?_;obtain⟨ae,rfl,am⟩:=bp
   change (rpS rpI).Is h2 ae (sO (fJ s f) 0 1) at am
   refine pL ?_;refine cnd (λad=>?_) λad=>?_
   ·
    refine go4 ?_;refine cL (vs:=[_,_,vI (-1),vI (-1)]) e4z call179 (λw hs=>zAI hs oM oM oM oM dC dC dC dC) λca h3 az bo=>(zH (zJ (ρ:=tE5) (m:=1) (xs:=[dg (uG (fJ s f) 0 1) (↑f:Int) (-1:Int) (-1:Int)]) (ps':=[(0,_)]) underlying133 jU I I I (yE wL (yE wL (yE wL (yE wL wL)))) e2z (zD I (y4u (y4i _) e50 0 dC) bo zP) zoi nP) I I I ?_)
    rintro bz ci ⟨bv,rfl,av⟩
    refine zQ (A:=[]) (ρ:=tE5) av ?_;intro h4 ay ak;refine xP (A:=[_]) (zS (ρ:=tE5) (bytes:=40) underlying133 jU I I I I nP I I aa.up ak bO bO) I I I ?_
    rintro bk ch ⟨bg,rfl,au⟩
    refine go2 ?_;refine zV ((D++[dg (uG (fJ s f) 0 1) (↑f:Int) (-1:Int) (-1:Int)]),bk,bg,h4) ?_ e5z I I;refine⟨((an.trans az).trans ay),?_⟩;refine⟨au,?_⟩;exact(by rw[hD];exact zBB ad)
   refine go1 ?_;refine zV (D,O,U,h2) ?_ e5z I I;refine⟨an,?_⟩;refine⟨aa.up,?_⟩;exact(by rw[hD];exact zBC ad)
  rintro⟨ZR,H,C,mz⟩ ⟨bs,hZ⟩
  refine xD ?_;obtain⟨ab,hZ⟩:=hZ;refine go3 ?_;refine cL (ev1 I) call86 (λw hs=>zJL hs ax.up oM (by first|omega|exactλl hl=>(by rw[bb.2 l];exact zci (bc.2 l) dC)) (by first|omega|exactλl hl=>(by rw[bb.2 l];exact zci (bc.2 l) dC))) λbj h2 an bn=>?_;obtain rfl:bj=vI (ouZ (fJ s f)):=bn;have br:=zBJ (fJ s f) (fJ s f).length;refine gc3 (λac=>?_) λac=>?_
  ·
   refine go3 ?_;refine cL (vs:=[vI (33),_,vI (-1),vI (-1)]) e4z call179 (λw hs=>zAI hs dC dC oM oM dC dC dC dC) λbx h3 az bm=>(zH (zJ (ρ:=tE5) (m:=1) (xs:=[dg (33:Int) (↑f:Int) (-1:Int) (-1:Int)]) (ps':=[(0,_)]) underlying133 jU I I I (yE wL (yE wL (yE wL (yE wL wL)))) e2z (zD I (y4u (y4i _) e50 0 dC) bm zP) zoi nP) I I I ?_)
   rintro bw cg ⟨bu,rfl,ar⟩
   refine zQ (A:=[]) (ρ:=tE5) ar ?_;intro h4 ay aj;refine xP (A:=[]) (zS (ρ:=tE5) (bytes:=40) underlying133 jU I I I I nP I I Z.up aj bO bO) I I I ?_
   rintro bi cf ⟨bf,rfl,aq⟩
   refine go9 ?_;refine gqL ((f+1),ZR,(G++[dg (33:Int) (↑f:Int) (-1:Int) (-1:Int)]),H,C,bi,bf,h4) ?_ ?_
   · exact⟨mle,ab.up,aq,by omega,hZ,by rw[hG];exact zBB ac⟩
   omega
  refine go8 ?_;refine gqL ((f+1),ZR,G,H,C,J,M,h2) ?_ ?_
  · exact⟨mle,ab.up,Z.up,by omega,hZ,by rw[hG];exact zBC ac⟩
  omega
 have ef:f=s.2.1.length:=by omega
 refine go9 ?_;refine gv (kF mh1 underlying133 I) I (gc3 (λbd=>?_) λbd=>?_)
 ·
  refine go8 ?_;refine wT (A:=[_]) (ρ:=tE5) aa.up ?_;intro h1 ba ai;refine zC I I ?_;exact(Rp.Is.cast ai (by rw[hD,ef];exact(zau (by rw[<-ef,<-hD];omega)).symm))
 refine go9 ?_;refine wT (A:=[]) (ρ:=tE5) Z.up ?_;intro h1 ba ah;refine zC I I ?_;exact(Rp.Is.cast ah (by rw[hG,ef];exact(zae (by rw[<-ef,<-hD];omega)).symm))
theorem zV0{k m n j:Nat}{vs:Value}{s:Sq}(rs:(tSd k m n j).Is h0 vs s)(hcd0:k<=1000)(hcd1:m<=100000)(hcd2:n<=100000)(hcd3:okS s):
 Calls prog 97 #[vs] w0 (Ret w0 h0 (λh r=>(rpS tE5).Is h r (yCD s))):=by
 have av:=hcd3.1.1.1;have au:=hcd3.1.1.2;refine cb1 34 vs func97 hs ?_;refine go2 ?_;refine nB rs λb1 bc C=>(go6 ?_);refine lX (xB jV pH C) λv7 r7=>(cL (ev1 I) call141 (λw hs=>zVV hs r7 (by first|omega|exact hcd3|exact hcd3.big|exact hcd3.mem|exact hcd3.2.1)) λv8 h1 bb r8=>(zDP (λM=>?_) λM=>?_))
 ·
  refine go8 ?_;refine zC I I ?_;exact(Rp.Is.cast r8 (by exact(zau oM).symm))
 refine go5 ?_;refine lX (xB jV pH C) λar ah=>(cL (ev1 I) call142 (λw hs=>zVT hs ah (by first|omega|exact hcd3|exact hcd3.big|exact hcd3.mem|exact hcd3.2.1) oM) λaq h2 ba ae=>(zDP (λJ=>?_) λJ=>?_))
 ·
  refine go8 ?_;refine zC I I ?_;exact(Rp.Is.cast ae (by exact((zae oM).trans (zau oM)).symm))
 refine go5 ?_;refine lX (xB jV pH C) λap ad=>(cL (ev1 I) call143 (λw hs=>zQ3 hs ad oM oM oM (by first|omega|exact hcd3|exact hcd3.big|exact hcd3.mem|exact hcd3.2.1) (by first|omega|exact hcd3|exact hcd3.big|exact hcd3.mem|exact hcd3.2.1) (by first|omega|exact hcd3|exact hcd3.big|exact hcd3.mem|exact hcd3.2.1) (by first|omega|exact hcd3|exact hcd3.big|exact hcd3.mem|exact hcd3.2.1) (by first|omega|exact hcd3|exact hcd3.big|exact hcd3.mem|exact hcd3.2.1)) λao h3 az ac=>(zDP (λH=>?_) λH=>?_))
 ·
  refine go8 ?_;refine zC I I ?_;exact(Rp.Is.cast ac (by exact((zae oM).trans ((zae oM).trans (zau oM))).symm))
 refine go5 ?_;refine lX (xB jV pH C) λan ab=>(cL (ev1 I) call144 (λw hs=>zVY hs ab oM oM oM (by first|omega|exact hcd3|exact hcd3.big|exact hcd3.mem|exact hcd3.2.1)) λam h4 ay aa=>(zDP (λD=>?_) λD=>?_))
 ·
  refine go8 ?_;refine zC I I ?_;exact(Rp.Is.cast aa (by exact((zae oM).trans ((zae oM).trans ((zae oM).trans (zau oM)))).symm))
 refine go4 ?_;refine lX (xB jV pH C) λak Z=>(cL (ev1 I) call136 (λw hs=>zJN hs Z (by first|omega|exact hcd3|exact hcd3.big|exact hcd3.mem|exact hcd3.2.1) (by first|omega|exact hcd3|exact hcd3.big|exact hcd3.mem|exact hcd3.2.1)) λaj h5 ax U=>(cL (ev1 I) call145 (λw hs=>zNV hs U) λai h6 aw O=>(go4 ?_)));refine zC I I ?_;exact(Rp.Is.cast O (by exact((zae oM).trans ((zae oM).trans ((zae oM).trans (zae oM)))).symm))
theorem zVU{k m n j:Nat}{vs:Value}{s:Sq}(rs:(tSd k m n j).Is h0 vs s)(hcd0:k<=1000)(hcd1:m<=100000)(hcd2:n<=100000)(hcd3:okS s):
 Calls prog 62 #[vs] w0 (Ret w0 h0 (λ_ r=>r=vB (kC s))):=by
 refine cb1 7 vs func62 hs ?_;refine go2 ?_;refine nB rs λJ H C=>(go5 ?_);refine lX (xB jV pH C) λv3 r3=>(cL (ev1 I) call97 (λw hs=>zV0 hs r3 oM oM oM (by first|omega|exact hcd3)) λv4 h1 D r4=>(go6 ?_));refine zC I I ?_;exact kO (by unfold kC;omega)
theorem zAH{k m n j:Nat}{vs:Value}{s:Sq}(rs:(tSd k m n j).Is h0 vs s)(hcd0:k<=1000)(hcd1:m<=100000)(hcd2:n<=100000)(hcd3:okS s):
 Calls prog 47 #[vs] w0 (tO w0 h0 (λh r L_=>∃vF cs,(rpP (tLs (k+1)) (rpP rpV (rpS (rpP rpI (rpP rpI (rpQ (j+1))))))).Is h r (nrP s,(vF,nrE s))/\L_=[.gs 53 14 vF (nrF s).length cs]/\vF.oneCell'=true/\RL (tFc (4*m+12) (m+n+12)) h cs (nrF s))):=by
 have ik:=hcd3.1.1.1;have ij:=hcd3.1.1.2;have ii:=hcd3.1.2;refine cb1 100 vs func47 hs ?_;refine go2 ?_;refine nB rs λb1 cu an=>(nA (ρ:=(rpP (tLs 1) (rpP rpV (rpS (rpP rpI (rpP rpI (rpQ 1))))))) (X:=([],((Value.slice none 0 0),[]))) qX (yE wK (yE fC wK)) λb2 ct di=>(go5 ?_));refine lX (xB jV pH an) λhu fh=>(cL (ev1 I) call62 (λw hs=>zVU hs fh oM oM oM (by first|omega|exact hcd3)) λeg h1 iu fg=>?_);obtain rfl:eg=vB (kC s):=fg;refine gc3 (λai=>?_) λai=>?_
 ·
  refine go2 ?_;refine lX (xV (ρ:=(rpP (tLs 1) (rpP rpV (rpS (rpP rpI (rpP rpI (rpQ 1))))))) (wE (ps':=[]) underlying39 qX I I (rK underlying39) trivial I (yE wK (yE fC wK)) zP)) λhq ff=>(yD (A:=[]) (uB sizeOf39 pH di ff) λgf dh=>(go4 ?_));rw[show nrF s=[] from zae ai];refine aX 53 14 ?_;have db:=RL.nil (ρ:=rpP (tPl (4*m+12) (m+n+12)) (rpP tII qF)) (h:=h1);refine vM (gG (t:=2) jV mh1 I dh) ?_;intro gi cf cz;refine kV (.cons_cons _ (zsu _)) (λE S=>yB I cf E S) ?_;exact⟨_,_,(Rp.Is.cast (Rp.Is.le cz (Le.p (Le.s (Le.t (Le.q (l:=k+1) oM))) (Le.p (Le.refl _) (Le.s (Le.p (Le.refl _) (Le.p (Le.refl _) (Le.q (l:=j+1) oM))))))) (by rw[show nrP s=[] from zae ai,show nrE s=[] from zae ai])),I,I,db⟩
 refine go4 ?_;refine lX (xB jV pH an) λhp fe=>?_;have bd:kC s:=zdi ai;have aw:=yIX bd;have ig:(fX s).length<=s.1.length:=zQU s s.1.length;refine cL (ev1 I) call89 (λw hs=>zVX hs fe oM (by first|omega|exact hcd3|exact aw) (by first|omega|exact hcd3|exact aw)) λee h2 ir bb=>?_;replace bb:=Rp.Is.cast (y:=(fX s)) bb zo3;refine go6 ?_;refine lX (xB qD (y4e pH) an) λho ia=>(go1 ?_);refine zH (zJR (ρ:=rpI) (X:=(0:Int)) (by':=8) s.1.length underlying22 jY I I I I wL I I zo3 zo3 bO bO) I I I ?_
 rintro ed ie ⟨dr,rfl,df⟩
 refine go6 ?_;refine lX (xB yH4 (y5i (y5i pH)) an) λhn fd=>(zDM 237 5 ?_);have da:=RL.nil (ρ:=rpP rpI (rpP rpI (rpQ j))) (h:=h2);refine xP (A:=[]) (uE (zS (ρ:=(rpP rpI (rpP rpI (rpQ j)))) (bytes:=72) underlying37 zTM I I I I nP I I da fd bO bO)) I I I ?_
 rintro hm id ⟨fy,gh,rfl,de⟩
 refine zQ (A:=[]) (ρ:=(rpP rpI (rpP rpI (rpQ j)))) de ?_;intro h3 iq cy;refine lX (xV (ρ:=(rpP rpV (rpP rpV (rpS (rpP rpI (rpP rpI (rpQ (j+1)))))))) (wE (ps':=[(2,_)]) underlying39 qX I I (rK underlying39) e2z I (yE fC (yE fC wK)) (zD I (y5i (y5i (y4i _))) (cy.le (Le.s (Le.p (Le.refl _) (Le.p (Le.refl _) (Le.q (l:=j+1) oM))))) zP))) λhl fc=>(nA (ρ:=(rpP rpV (rpP rpV (rpS (rpP rpI (rpP rpI (rpQ 1))))))) (X:=((Value.slice none 0 0),((Value.slice none 0 0),[]))) qX (yE fC (yE fC wK)) λb5 iz ej=>?_);have cw:=(Le.p (Le.refl _) (Le.p (Le.refl _) (Le.s (Le.p (Le.refl _) (Le.p (Le.refl _) (Le.q (l:=j+1) oM)))))).R ej;refine yD (A:=[]) (uB sizeOf39 pH cw fc) λdm bx=>(go9 ?_);refine xN 31 9 ?_;have bt:=RL.nil (ρ:=rpT (rpQ (k+1))) (h:=h3);refine gcL (ι:=Nat×List Int×List Tq×List Value×Value×List Value×Value×List Value×Mem) (λ(i,IX,PS,U,D,au,O,ar,ma)=>(MLe h3 ma/\((rpP rpV (rpP rpV (rpS (rpP rpI (rpP rpI (rpQ (j+1))))))).R ma U (O,(Value.slice none 0 0,s.2.2))/\RL rpI ma au IX/\RL (tPt (k+1)) ma ar PS/\O.oneCell'=true/\i<=(fX s).length/\IX=zIN s i/\PS=zZV s i),[(1,vP b1 0),(2,vP b2 0),(3,ee),(4,D),(5,vP b5 0),(6,vI ↑i)],[.gs 31 9 O PS.length ar,.var b5 39 U,.gs 3 1 D IX.length au,.var b2 39 ct,.var b1 39 cu],ma,(fX s).length-i)) (0,(List.replicate s.1.length (0:Int)),[],dm,ed,dr,(.slice none 0 0),[],h3) ?_ ?_
 · exact⟨mle,bx,df.up,bt,I,by omega,I,I⟩
 rintro⟨i,IX,PS,U,D,au,O,ar,ma⟩ ⟨gb,J,ay,ax,fl,il,hI,hP⟩
 refine xD ?_;have iw:IX.length=s.1.length:=by rw[hI];exact zDK s i
 have iv:PS.length=i:=by rw[hP];exact yY _ _
 refine gc9 (λdk=>?_) λdk=>?_
 ·
  refine go9 ?_;refine lX (xI (0:Int) i underlying22 ty3 bb) λhj fb=>(lX (xA ty3 fb) λhg fa=>?_);obtain⟨rfl,ge,fx⟩:=jM fa;refine go1 ?_;refine gv ((yK (((fX s).getD i 0).toNat) mh2 underlying22 sizeOf3 I I (by(have:=oV (s:=s) (i:=s.1.length) (k:=i) (show i<(aO s s.1.length).length by show i<(fX s).length;omega);show _;have h2:0<=(fX s).getD i 0/\(fX s).getD i 0<↑s.1.length:=this;omega)) (by(have:=oV (s:=s) (i:=s.1.length) (k:=i) (show i<(aO s s.1.length).length by show i<(fX s).length;omega);show _;have h2:0<=(fX s).getD i 0/\(fX s).getD i 0<↑s.1.length:=this;omega)) nP).cv (show _=zG 1 D ((((fX s).getD i 0).toNat*1+0)) from zbi (zG 1 D) zo3)) I (fZ (A:=[_,_]) (F:=λc_=>RL rpI ma c_ (IX.set (((fX s).getD i 0).toNat) (↑i:Int))) (rW sizeOf3 (y4u (y4i _) (0:Int) (((fX s).getD i 0).toNat) (by(have:=oV (s:=s) (i:=s.1.length) (k:=i) (show i<(aO s s.1.length).length by show i<(fX s).length;omega);show _;have h2:0<=(fX s).getD i 0/\(fX s).getD i 0<↑s.1.length:=this;omega))) I nP I I ay (xZ oM oM) I) ?_);intro cq bs;refine go2 ?_;refine qS (A:=[]) 13 [] (zai 0 10 [(10,.c),(11,.c),(12,.q),(13,.t)]) yF nX (wS zou) nX (go1 ?_);refine wX I (sE (xB qD (y4e pH) J)) λhb ez=>?_;subst ez;refine go1 ?_;refine wX I (xB qD (y4e pH) an) λha ey=>(go2 ?_);refine wX I (xI (0:Int) i underlying22 ty3 bb) λgz ew=>(wX I (xA ty3 ew) λgy ev=>?_);obtain⟨rfl,gc,fw⟩:=jM ev;refine aI (F:=λv_=>AtP (tPt k) ma v_ (s.1.getD (((fX s).getD i 0).toNat) zT)) I (rM zT (((fX s).getD i 0).toNat) underlying35 zN I I ey (by(have:=oV (s:=s) (i:=s.1.length) (k:=i) (show i<(aO s s.1.length).length by show i<(fX s).length;omega);show _;have h2:0<=(fX s).getD i 0/\(fX s).getD i 0<↑s.1.length:=this;omega)) (by(have:=oV (s:=s) (i:=s.1.length) (k:=i) (show i<(aO s s.1.length).length by show i<(fX s).length;omega);show _;have h2:0<=(fX s).getD i 0/\(fX s).getD i 0<↑s.1.length:=this;omega)) nP) zBW I ?_;intro gx eu;refine wX I (xA zN eu) λgw es=>?_;refine w_c I (jH (λX=>zJ (ρ:=(tPt (k+1))) (m:=1) (xs:=[(s.1.getD (((fX s).getD i 0).toNat) zT)]) (ps':=[(0,_)]) underlying35 yS I I I (xW (yM oM)) e2z (zD I (y4u (y4i _) zT 0 dC) (es.le (Le.t (Le.q (l:=k+1) oM))) zP) zok nP) I ?_)
  rintro gu ic ⟨gg,rfl,dd⟩
  refine w_c I (xT (A:=[]) (ρ:=(tPt (k+1))) dd dK ?_);intro h4 cj bl;refine fL (A:=[]) (λX=>uE (zS (ρ:=(tPt (k+1))) (bytes:=168) underlying35 yS I I I I nP I I ax.up bl bO bO)) I (xQ zoy) ?_
  rintro ec ib ⟨be,dq,rfl,dc⟩
  refine go1 ?_;replace J:=J.mono cj;refine yJ (A:=[_]) I (uB sizeOf35 (y4e pH) J (eM be)) λcp bw=>(go8 ?_);refine gqL ((i+1),(IX.set (((fX s).getD i 0).toNat) (↑i:Int)),(PS++[(s.1.getD (((fX s).getD i 0).toNat) zT)]),cp,D,cq,ec,dq,h4) ?_ ?_
  · exact⟨mle,bw,bs.up,dc,be,by omega,by rw[hI];rfl,by rw[hP];rfl⟩
  omega
 have ei:i=(fX s).length:=by omega
 refine go8 ?_;refine zQ (A:=[]) (ρ:=(tPt (k+1))) ax.up ?_;intro h4 cj bk;replace J:=J.mono cj;have bv:(rpP (tLs (k+1)) (rpP rpV (rpS (rpP rpI (rpP rpI (rpQ (j+1))))))).R h4 U (PS,(O,(Value.slice none 0 0,s.2.2)).2):=yDF J bk;refine go4 ?_;refine xN 53 14 ?_;have br:=RL.nil (ρ:=rpP (tPl (4*m+12) (m+n+12)) (rpP tII qF)) (h:=h4);refine zHJ (A:=[_,_]) (ρ:=rpI) ay.up ?_;intro h5 ip bj;refine gcL (ι:=Nat×List Fc×Value×List Value×Value×List Value×Mem) (λ(f,Z,M,ae,C,ad,mb)=>(MLe h5 mb/\((rpS rpI).Is mb M (ixZ s)/\(rpP (tLs (k+1)) (rpP rpV (rpS (rpP rpI (rpP rpI (rpQ (j+1))))))).R mb ae (PS,(C,s.2.2))/\RL (tFc (4*m+12) (m+n+12)) mb ad Z/\C.oneCell'=true/\f<=s.2.1.length/\Z=zAJ s f),[(1,vP b1 0),(2,vP b2 0),(4,M),(5,vP b5 0),(7,vI ↑f)],[.gs 53 14 C Z.length ad,.var b5 39 ae,.var b2 39 ct,.var b1 39 cu],mb,s.2.1.length-f)) (0,[],D,U,(.slice none 0 0),[],h5) ?_ ?_
 · exact⟨mle,(Rp.Is.cast bj (by rw[hI,ei];rfl)),bv.up,br.up,I,by omega,I⟩
 rintro⟨f,Z,M,ae,C,ad,mb⟩ ⟨ga,ak,H,aa,cg,fo,hF⟩
 refine xD ?_;have ix:Z.length=f:=by rw[hF];exact zRA s f
 have dl:=zZS hcd3 f fo;refine go5 ?_;refine lX (xB gS (y5i (y4e pH)) an) λgt hv=>(gc4 (λdj=>?_) λdj=>?_)
 ·
  refine go6 ?_;refine lX (xB jV pH an) λgr er=>(go2 ?_);refine cL (ev3 I I I) call90 (λw hs=>zGP (f:=f) hs er ak oM oM oM (by first|omega|exact hcd3|exact aw f oM|exact zDK s _) (by first|omega|exact hcd3|exact aw f oM|exact zDK s _) (by first|omega|exact hcd3|exact aw f oM|exact zDK s _) (by first|omega|exact hcd3|exact aw f oM|exact zDK s _)) λgq h6 io eq=>(nA (ρ:=(tFc 1 1)) (X:=((zT,(0:Rat)),([],([]:List Nat)))) jJ (yE (yE (xW (yM dC)) (yM dC)) (yE wK gP)) λb8 iy eh=>?_);have bg:=(Le.p (Le.p (Le.t (Le.q (l:=4*m+11) oM)) (Le.q (l:=m+n+11) oM)) (Le.refl _)).R eh;refine yD (A:=[]) (uB sizeOf53 pH bg eq) λco am=>(go5 ?_);refine lX (sE (xB gS (y5i (y4e pH)) H)) λgo ep=>?_;subst ep;refine gv (kF mh1 underlying36 I) I (go5 ?_);refine gcL (ι:=Nat×Mem) (λ(kp,mk)=>(MLe h6 mk/\(kp<=Z.length/\aR (zRM (nfF s (ixZ s) f) Z) Z.length=aR (zRM (nfF s (ixZ s) f) Z) kp),[(1,vP b1 0),(2,vP b2 0),(4,M),(5,vP b5 0),(7,vI ↑f),(8,vP b8 0),(9,vI ↑kp)],[.var b8 53 co,.gs 53 14 C Z.length ad,.var b5 39 ae,.var b2 39 ct,.var b1 39 cu],mk,kp)) (Z.length,h6) ?_ ?_
  · exact⟨mle,by omega,I⟩
  rintro⟨kp,mk⟩ ⟨fz,ih,ci⟩
  refine xD ?_;refine go2 ?_;refine zL 12 _ [] (zai 0 10 [(10,.c),(11,.q)]) yF nX (wS zou) nX (λr hr=>hr) (go3 ?_);refine kD ((0:Int)<(↑kp:Int)) (λaq=>?_) (λaq=>?_)
  ·
   rw[wA aq];refine oX I (xB bQ pH am) λgn eo=>(go1 ?_);refine oX I (sE (xB gS (y5i (y4e pH)) H)) λgm en=>?_;subst en;refine yV I I I (λh' L' hh hR=>xG I) I (go1 ?_);refine yV I I I (λh' L' hh hR=>(yK (kp-1) (hR _ mh1) underlying36 sizeOf53 I I oM oM nP).cv (show _=zG 1 C (((kp-1)*14+0)) from zbi (zG 1 C) zo3)) I (nH (F:=λv_=>(tFc (4*m+12) (m+n+12)).Is mk v_ (Z.getD (kp-1) zA)) I I I (xE bQ (y4u (y4i _) zA (kp-1) oM) I nP I aa.up I) (gC mh1) I ?_);intro gk em;refine w_c I (zCW I I (sC (ev2 I I) call91 (λw hs=>zLB hs eo em (by first|omega|exact zci (zGU hcd3 oM) dC|exact zci (dl _ (by rw[hF];exact kR (by rw[<-hF];omega))) dC) (by first|omega|exact zci (zGU hcd3 oM) dC|exact zci (dl _ (by rw[hF];exact kR (by rw[<-hF];omega))) dC)) λeb h7 fm el=>?_));obtain rfl:eb=vB (lsF (nfF s (ixZ s) f) (Z.getD (kp-1) zA)):=el;refine gc3 (λav=>?_) λav=>?_
   ·
    refine go9 ?_;refine gqL ((kp-1),h7) ?_ ?_ (he:=⟨I,I,I,I,I,I,zbi (λz=>some (vI z)) oM,y3e⟩)
    · exact⟨mle,by omega,by rw[ci];exact zR5 oM av⟩
    omega
   refine go8 ?_;refine lX (sE (xB gS (y5i (y4e pH)) H)) λea ce=>?_;subst ce;refine lX (xV (ρ:=(tFc 1 1)) (wE (ps':=[]) underlying53 jJ I I (bV underlying53) trivial I (yE (yE (xW (yM dC)) (yM dC)) (yE wK gP)) zP)) λdz cd=>(zH (zJ (ρ:=(tFc 1 1)) (m:=1) (xs:=[((zT,(0:Rat)),([],([]:List Nat)))]) (ps':=[(0,_)]) underlying36 jJ I I I (yE (yE (xW (yM dC)) (yM dC)) (yE wK gP)) e2z (zD I (y4u (y4i _) zA 0 dC) cd zP) zom nP) I I I ?_)
   rintro dy fk ⟨dp,rfl,ba⟩
   refine zQ (A:=[]) (ρ:=(tFc 1 1)) ba ?_;intro h8 im bi;refine xP (A:=[_]) (uE (zS (ρ:=(tFc (4*m+12) (m+n+12))) (bytes:=264) underlying36 jJ I I I I nP I I aa.up (bi.le (Le.s (Le.p (Le.p (Le.t (Le.q (l:=4*m+12) oM)) (Le.q (l:=m+n+12) oM)) (Le.refl _)))) bO bO)) I I I ?_
   rintro aj fj ⟨ah,dn,rfl,az⟩
   refine go1 ?_;refine yD (A:=[_,_]) (uB sizeOf36 (y5i (y4e pH)) H (eM ah)) λcn ac=>(go3 ?_);refine lQ (A:=[_]) (by rw[lAz];exact yvi _) (λob fu ao ap=>?_);refine qS (A:=[_]) 10 [] (zai 0 9 [(9,.c)]) yF nX zou nX (go1 ?_);refine wX I (sE (xB gS (y5i (y4e pH)) ac)) λdx cc=>?_;subst cc;refine go2 ?_;refine xY I (λ_ _=>jL (kp+1) underlying36 sizeOf53 I I ⟨_,_,ao,ap⟩ oM zo1) I (go1 ?_);refine wX I (sE (xB gS (y5i (y4e pH)) ac)) λdw cb=>?_;subst cb;refine go1 ?_;refine xY I (λ_ _=>jL kp underlying36 sizeOf53 I I ⟨_,_,ao,ap⟩ oM zo1) I ?_;refine w_c I (fL (A:=[_]) (λX=>mP (ρ:=(tFc (4*m+12) (m+n+12))) kp ao ap underlying36 sizeOf53 I I zo1 az) I (xQ zoy) ?_)
   rintro dv fi ⟨ft,rfl,bq⟩
   refine go4 ?_;refine lX (sE (xB gS (y5i (y4e pH)) ac)) λdu ca=>?_;subst ca;refine go1 ?_;refine lX (xB bQ pH am) λdt bz=>(gv ((yK kp mh1 underlying36 sizeOf53 I I oM (by rw[fR zo1];simp only[lAz,lC,lN];omega) nP).cv (show _=zG 1 aj ((kp*14+0)) from zbi (zG 1 aj) zo3)) I (fZ (A:=[_]) (F:=λc_=>RL (tFc (4*m+12) (m+n+12)) h8 c_ ((sJ (Z++[((zT,(0:Rat)),([],([]:List Nat)))]) kp).set kp (nfF s (ixZ s) f))) (rW sizeOf53 (y4u (y4i _) zA kp (by rw[fR zo1];simp only[lAz,lC,lN];omega)) I nP I I bq (bz.le (Le.p (Le.p (Le.t (Le.q (l:=4*m+12) oM)) (Le.q (l:=m+n+12) oM)) (Le.refl _))) I) ?_));intro cm bp;refine go8 ?_;refine yW (A:=[]) ?_;refine gqL ((f+1),((sJ (Z++[((zT,(0:Rat)),([],([]:List Nat)))]) kp).set kp (nfF s (ixZ s) f)),M,cn,aj,cm,h8) ?_ ?_
   · exact⟨mle,ak.up,ac,bp,ah,by omega,by rw[mM oM];have ch:aR (zRM (nfF s (ixZ s) f) Z) Z.length=kp:=by{rw[ci];exact zH4 (λe=>by first|omega|exact av e.2)};rw[<-ch,hF];rfl⟩
   omega
  rw[yN aq];refine go7 ?_;refine w_c I (mO I I I I (uY ?_));refine lX (sE (xB gS (y5i (y4e pH)) H)) λea ce=>?_;subst ce;refine lX (xV (ρ:=(tFc 1 1)) (wE (ps':=[]) underlying53 jJ I I (bV underlying53) trivial I (yE (yE (xW (yM dC)) (yM dC)) (yE wK gP)) zP)) λdz cd=>(zH (zJ (ρ:=(tFc 1 1)) (m:=1) (xs:=[((zT,(0:Rat)),([],([]:List Nat)))]) (ps':=[(0,_)]) underlying36 jJ I I I (yE (yE (xW (yM dC)) (yM dC)) (yE wK gP)) e2z (zD I (y4u (y4i _) zA 0 dC) cd zP) zom nP) I I I ?_)
  rintro dy fk ⟨dp,rfl,ba⟩
  refine zQ (A:=[]) (ρ:=(tFc 1 1)) ba ?_;intro h7 fm bh;refine xP (A:=[_]) (uE (zS (ρ:=(tFc (4*m+12) (m+n+12))) (bytes:=264) underlying36 jJ I I I I nP I I aa.up (bh.le (Le.s (Le.p (Le.p (Le.t (Le.q (l:=4*m+12) oM)) (Le.q (l:=m+n+12) oM)) (Le.refl _)))) bO bO)) I I I ?_
  rintro aj fj ⟨ah,dn,rfl,az⟩
  refine go1 ?_;refine yD (A:=[_,_]) (uB sizeOf36 (y5i (y4e pH)) H (eM ah)) λcl ab=>(go3 ?_);refine lQ (A:=[_]) (by rw[lAz];exact yvi _) (λob fu ao ap=>?_);refine qS (A:=[_]) 10 [] (zai 0 9 [(9,.c)]) yF nX zou nX (go1 ?_);refine wX I (sE (xB gS (y5i (y4e pH)) ab)) λdx cc=>?_;subst cc;refine go2 ?_;refine xY I (λ_ _=>jL (kp+1) underlying36 sizeOf53 I I ⟨_,_,ao,ap⟩ oM zo1) I (go1 ?_);refine wX I (sE (xB gS (y5i (y4e pH)) ab)) λdw cb=>?_;subst cb;refine go1 ?_;refine xY I (λ_ _=>jL kp underlying36 sizeOf53 I I ⟨_,_,ao,ap⟩ oM zo1) I ?_;refine w_c I (fL (A:=[_]) (λX=>mP (ρ:=(tFc (4*m+12) (m+n+12))) kp ao ap underlying36 sizeOf53 I I zo1 az) I (xQ zoy) ?_)
  rintro dv fi ⟨fs,rfl,bo⟩
  refine go4 ?_;refine lX (sE (xB gS (y5i (y4e pH)) ab)) λdu ca=>?_;subst ca;refine go1 ?_;refine lX (xB bQ pH am) λdt bz=>(gv ((yK kp mh1 underlying36 sizeOf53 I I oM (by rw[fR zo1];simp only[lAz,lC,lN];omega) nP).cv (show _=zG 1 aj ((kp*14+0)) from zbi (zG 1 aj) zo3)) I (fZ (A:=[_]) (F:=λc_=>RL (tFc (4*m+12) (m+n+12)) h7 c_ ((sJ (Z++[((zT,(0:Rat)),([],([]:List Nat)))]) kp).set kp (nfF s (ixZ s) f))) (rW sizeOf53 (y4u (y4i _) zA kp (by rw[fR zo1];simp only[lAz,lC,lN];omega)) I nP I I bo (bz.le (Le.p (Le.p (Le.t (Le.q (l:=4*m+12) oM)) (Le.q (l:=m+n+12) oM)) (Le.refl _))) I) ?_));intro ck bn;refine go8 ?_;refine yW (A:=[]) ?_;refine gqL ((f+1),((sJ (Z++[((zT,(0:Rat)),([],([]:List Nat)))]) kp).set kp (nfF s (ixZ s) f)),M,cl,aj,ck,h7) ?_ ?_
  · exact⟨mle,ak.up,ab,bn,ah,by omega,by rw[mM oM];have ch:aR (zRM (nfF s (ixZ s) f) Z) Z.length=kp:=by{rw[ci];exact zH4 (λe=>by first|omega|exact av e.2)};rw[<-ch,hF];rfl⟩
  omega
 have ef:f=s.2.1.length:=by omega
 refine go7 ?_;refine lX (xB jV pH H) λgj ek=>?_;have bf:=(Le.p (Le.s (Le.t (Le.q (l:=k+1) oM))) (Le.p (Le.refl _) (Le.s (Le.p (Le.refl _) (Le.p (Le.refl _) (Le.q (l:=j+1) oM)))))).R di;refine yD (A:=[_,_]) (uB sizeOf39 pH bf ek) λfr bu=>(go3 ?_);have fq:Z=nrF s:=by rw[hF,ef];exact(zau bd).symm
 have fp:PS=nrP s:=by rw[hP,ei];exact(zau bd).symm
 subst fq;subst fp;refine vM (gG (t:=2) jV mh2 I bu) ?_;intro fv bc bm;refine kV (.cons_cons _ (zsu _)) (λE S=>yB I bc E S) ?_;exact⟨_,_,(Rp.Is.cast bm (by rw[show nrE s=s.2.2 from zau bd])),I,cg,aa.up⟩
end
end Go.Proofs.YtpkaegemlpaenaaGreat
namespace Bk
open Classical
def triT(P:Nat->P2)(n:Nat):Prop:=∀i j k,i<j->j<k->k<n->0<cr (P i) (P j) (P k)
def lp(t:Rat)(a b:P2):P2:=(a.1+t*(b.1-a.1),a.2+t*(b.2-a.2))
def ex(P:Nat->P2)(n m:Nat):P2:=P (m%n)
def chg(s:Nat->Int)(n m:Nat):Prop:=s m*s ((m+1)%n)<0
def afZ(w:Rat×Rat×Rat)(p:P2):Rat:=w.1+w.2.1*p.1+w.2.2*p.2
section
variable {s:Nat->Int}{n:Nat}
end
structure Cfg(P:Nat->P2)(n:Nat)(t:Nat->Rat)(s:Nat->Int)(w:Rat×Rat×Rat):Prop where
 h3:3<=n
 tri:triT P n
 per:∀m,t (m%n)=t m
 cross:∀m,m<n->chg s n m->(0<t m/\t m<1)/\afZ w (lp (t m) (P m) (P ((m+1)%n)))=0
 neg:∀m,m<n->(s m<0↔afZ w (P m)<0)
 zero:∀m,m<n->(s m=0↔afZ w (P m)=0)
section
variable {P:Nat->P2}{n:Nat}{t:Nat->Rat}{s:Nat->Int}{w:Rat×Rat×Rat}
def cx(u v:P2):Rat:=u.1*v.2-v.1*u.2
end
section
variable {P:Nat->P2}{n:Nat}{t:Nat->Rat}{s:Nat->Int}{w:Rat×Rat×Rat}
end
def pt2(pl:Pl)(p:Pt):P2:=pr p (axI pl.1) (axJ pl.1)
def zHY(pl:Pl)(l:List Pt):Prop:=
 (3<=l.length/\¬pl.1=zT)/\(∀m,m<l.length->sdZ pl (gp l m)=0)/\∀m k,m<l.length->2<=k->k<l.length->0<orZ (pt2 pl (gp l m)) (pt2 pl (nx l m)) (pt2 pl (gp l ((m+k)%l.length)))
def yH(a b c:Pt):Rat:=zM a (yC b c)
theorem yLN{pl:Pl}{a b c:Pt}(hn:¬pl.1=zT)(ha:sdZ pl a=0)(hb:sdZ pl b=0)(hc:sdZ pl c=0):yX (zM (yC (yZ b a) (yZ c a)) pl.1)=orZ (pt2 pl a) (pt2 pl b) (pt2 pl c):=by
 have hk:¬pl.1.at (axK pl.1)=0:=λe=>hn ((zUI _).1 e);have h1:=zXG pl (qL pl a) (qL pl b) (qL pl c) hk;rw[zDH hk ha,zDH hk hb,zDH hk hc,yHG] at h1;exact h1.symm
theorem yLO(a b c n:Pt):zM (yC (yZ b a) (yZ c a)) n=yH (yZ b a) (yZ c a) n:=by
 unfold yH zM yC yZ;grind
end Bk
namespace Bk
open Go Go.RowKit
open Classical
theorem zXN{k:Nat}{h:Mem}{v:Value}{p:T3 Rat}(s:(rpT (rpQ k)).Is h v p):lq p.x<=k/\lq p.y<=k/\lq p.z<=k:=by
 obtain⟨cs,⟨a,b,_,H,c,d,_,D,C⟩,_⟩:=s;exact⟨H.2,D.2,C.2⟩
theorem zMZ{K k:Nat}{h:Mem}{v:Value}{p:T3 Rat}(s:(rpT (rpQ K)).Is h v p)(h1:lq p.x<=k)(h2:lq p.y<=k)(h3:lq p.z<=k):(rpT (rpQ k)).Is h v p:=by
 obtain⟨cs,⟨a,b,e,H,c,d,e',D,C⟩,J⟩:=s;exact⟨cs,⟨a,b,e,⟨H.1,h1⟩,c,d,e',⟨D.1,h2⟩,⟨C.1,h3⟩⟩,J⟩
theorem zKR{a b:Rat}(h:¬(¬smB a\/¬smB b)):(smB a/\smB b)/\(-72057594037927936<=smZ a*smZ b/\smZ a*smZ b<=72057594037927936):=by
 have h1:smB a/\smB b:=by
  constructor
  · exact zdi λe=>h (.inl e)
  · exact zdi λe=>h (.inr e)
 have U:=(rC h1.1).2;have O:=(rC h1.2).2;refine⟨h1,?_⟩;have C:∀{x y:Int},0<=x->x<268435456->0<=y->y<268435456->0<=x*y/\x*y<=72057594037927936:=by
  intro x y hx H hy D;have M:=yke hx hy;have J:x*y<=268435456*268435456:=Int.mul_le_mul zot zot hy zot;omega
 generalize smZ a=u at *;generalize smZ b=v at *
 rcases y1e 0 u with hu|hu<;>rcases y1e 0 v with hv|hv
 · have:=C hu zot hv zot;omega
 · have:=C hu zot (y:=-v) zot zot
   rw[Int.mul_neg] at this;omega
 · have:=C (x:=-u) zot zot hv zot
   rw[yru] at this;omega
 · have:=C (x:=-u) (y:=-v) zot zot zot zot
   rw[Int.neg_mul_neg] at this;omega
theorem zX2{s:Pl}{p:Pt}(hx:smB s.1.x/\smB p.x)(hy:smB s.1.y/\smB p.y)(hz:smB s.1.z/\smB p.z)(hd:smB s.2):zID ((0:Int)+smZ s.1.x*smZ p.x+smZ s.1.y*smZ p.y+smZ s.1.z*smZ p.z-smZ s.2)=sdZ s p:=by
 rw[<-mN];unfold sdZ hgt zM
 congr 1
 rw[zwi,zne,zne,zne,zpu,zpu,zpu];rw[<-(rC hx.1).1,<-(rC hx.2).1,<-(rC hy.1).1,<-(rC hy.2).1,<-(rC hz.1).1,<-(rC hz.2).1,<-(rC hd).1];have e:((0:Int):Rat)=0:=I;rw[e];grind
theorem zX3(s:Pl)(p:Pt):xU (zM s.1 p) s.2=sdZ s p:=zHZ _ _
end Bk
namespace Bk
open Classical
def zKN(p q:Pt):Prop:=p.x=q.x/\p.y=q.y
def u5(B:List Pt)(p:Pt):Nat->Int
  |0=>-1
  |j+1=>if zKN (B.getD j zT) p then(j:Int) else u5 B p j
theorem zHN(B:List Pt)(p:Pt):∀j,-1<=u5 B p j/\u5 B p j<j\/(j=0/\u5 B p j= -1)
  |0=>.inr ⟨rfl,rfl⟩
  |j+1=>by
   have h:=zHN B p j;unfold u5
   split
   · exact .inl zot
   · exact .inl zot
theorem fd_t{B:List Pt}{p:Pt}{j:Nat}(h:zKN (B.getD j zT) p):(j:Int)=u5 B p (j+1):=(zau h).symm
theorem yLG{B:List Pt}{p:Pt}{j:Nat}(h:¬zKN (B.getD j zT) p):u5 B p j=u5 B p (j+1):=(zae h).symm
def fdZ(B:List Pt)(p:Pt):Int:=u5 B p B.length
def adB(B:List Pt)(p:Pt):List Pt:=if fdZ B p<0 then B++[p] else B
def adN(B:List Pt)(p:Pt):Int:=if fdZ B p<0 then(B.length:Int) else fdZ B p
def plB(B:List Pt)(x:List Pt):Nat->List Pt
  |0=>B
  |k+1=>adB (plB B x k) (x.getD k zT)
def plN(B:List Pt)(x:List Pt):Nat->List Int:=wO λk=>adN (plB B x k) (x.getD k zT)
def ptB(L:List (List Pt)):Nat->List Pt
  |0=>[]
  |i+1=>plB (ptB L i) (L.getD i []) (L.getD i []).length
def ptN(L:List (List Pt)):Nat->List (List Int):=wO λi=>plN (ptB L i) (L.getD i []) (L.getD i []).length
def iK(L:List (List Pt)):Nat->Nat
  |0=>0
  |i+1=>iK L i+(L.getD i []).length
theorem yGB(B:List Pt)(p:Pt):(adB B p).length<=B.length+1:=by
 unfold adB;split
 · rw[lAz,zki];exact zbe _
 · omega
theorem zKY(B x:List Pt):∀k,(plB B x k).length<=B.length+k
  |0=>zbe _
  |k+1=>by
   have h1:=zKY B x k;have h2:=yGB (plB B x k) (x.getD k zT)
   show(adB _ _).length<=_
   omega
theorem zKW(L:List (List Pt)):∀i,(ptB L i).length<=iK L i
  |0=>zbe _
  |i+1=>by
   have h1:=zKW L i;have h2:=zKY (ptB L i) (L.getD i []) (L.getD i []).length
   show(plB _ _ _).length<=iK L i+_
   omega
theorem yB0{L:List (List Pt)}(h:∀m,m<L.length->(L.getD m []).length<=64):∀i,i<=L.length->iK L i<=64*i
  |0,_=>zbe _
  |i+1,hi=>by
   have h1:=yB0 h i zot;have h2:=h i zot
   show iK L i+_<=_
   omega
theorem yE0{L:List (List Pt)}(h:uG L 0 1=0):L.length<=16/\∀m,m<L.length->(L.getD m []).length<=64:=by
 unfold uG at h
 split at h
 · omega
 · rename_i h1
   exact⟨zye.1 λe=>h1 (.inl e),λm C=>zye.1 λe=>h1 (.inr ⟨m,C,e⟩)⟩
section
variable (L:List (List Pt))(lo hi:Rat)
def bsZ:List Pt:=ptB L L.length
def bxZ:List (List Int):=ptN L L.length
def zVC:Nat->List Pt:=wO λi=>T3.mk ((bsZ L).getD (i%(bsZ L).length) zT).x ((bsZ L).getD (i%(bsZ L).length) zT).y (if((bsZ L).length:Int)<=(i:Int) then hi else lo)
def ppZ:List Pt:=zVC L lo hi (2*(bsZ L).length)
def yCN:Nat->List (List Int):=wO λi=>iJ ((bxZ L).getD i []) ((bxZ L).getD i []).length
def tpL(i:Nat):Nat->List Int:=wO λk=>((bxZ L).getD i []).getD k 0+((bsZ L).length:Int)
def zXK:Nat->List (List Int):=wO λi=>tpL L i ((bxZ L).getD i []).length
def nmS(i k:Nat):List Nat:=[115]++qU (((i:Int):Int):Rat)++[46]++qU (((k:Int):Int):Rat)
def sdA(i k:Nat):Int:=((bxZ L).getD i []).getD k 0
def sdB(i k:Nat):Int:=((bxZ L).getD i []).getD ((k+1)%((bxZ L).getD i []).length) 0
def sdN(i k:Nat):Pt:=T3.mk (((ppZ L lo hi).getD (sdB L i k).toNat zT).y-((ppZ L lo hi).getD (sdA L i k).toNat zT).y) (-(((ppZ L lo hi).getD (sdB L i k).toNat zT).x-((ppZ L lo hi).getD (sdA L i k).toNat zT).x)) (0:Rat)
def sdF(i k:Nat):Fc:=((sdN L lo hi i k,zM (sdN L lo hi i k) ((ppZ L lo hi).getD (sdA L i k).toNat zT)),[[sdA L i k,sdB L i k,sdB L i k+((bsZ L).length:Int),sdA L i k+((bsZ L).length:Int)]],nmS i k)
def sfX(i:Nat):Nat->List Fc:=wO λk=>sdF L lo hi i k
def zM7:Nat->List Fc:=gM λi=>sfX L lo hi i ((bxZ L).getD i []).length
def btF:Fc:=((T3.mk (0:Rat) (0:Rat) (-((1:Int):Rat)),-lo),yCN L (bxZ L).length,[98,111,116,116,111,109])
def tpF:Fc:=((T3.mk (0:Rat) (0:Rat) ((1:Int):Rat),hi),zXK L (bxZ L).length,[116,111,112])
def prR:Sd:=(ppZ L lo hi,zM7 L lo hi (bxZ L).length++[btF L lo,tpF L hi],[])
def prB:Prop:=512<2*(bsZ L).length\/256<iK L L.length+2
def prE:Int:=if ¬uG L 0 1=0 then uG L 0 1 else if ¬ouZ L=1 then 33 else if 0<=xU lo hi then 9 else if prB L then 2 else 0
def prP:List Pt:=if prE L lo hi=0 then nrP (prR L lo hi) else[]
def prF:List Fc:=if prE L lo hi=0 then nrF (prR L lo hi) else[]
end
section
variable {L:List (List Pt)}{lo hi:Rat}
theorem yNS(h1:uG L 0 1=0)(h2:ouZ L=1)(h3:¬0<=xU lo hi)(h4:¬prB L):prE L lo hi=0/\prP L lo hi=nrP (prR L lo hi)/\prF L lo hi=nrF (prR L lo hi):=by
 have e:prE L lo hi=0:=by unfold prE;rw[zae (λe=>e h1),zae (λe=>e h2),zae h3,zae h4]
 exact⟨e,zau e,zau e⟩
theorem zSW{n:Int}(h:prE L lo hi=n)(hn:¬n=0):prE L lo hi=n/\prP L lo hi=[]/\prF L lo hi=[]:=⟨h,zae (by rw[h];exact hn),zae (by rw[h];exact hn)⟩
theorem pr_1(h1:¬uG L 0 1=0):prE L lo hi=uG L 0 1/\prP L lo hi=[]/\prF L lo hi=[]:=zSW (zau h1) h1
theorem yNR(h1:uG L 0 1=0)(h2:¬ouZ L=1):prE L lo hi=33/\prP L lo hi=[]/\prF L lo hi=[]:=zSW (by unfold prE;rw[zae (λe=>e h1),zau h2]) zow
theorem pr_9(h1:uG L 0 1=0)(h2:ouZ L=1)(h3:0<=xU lo hi):prE L lo hi=9/\prP L lo hi=[]/\prF L lo hi=[]:=zSW (by unfold prE;rw[zae (λe=>e h1),zae (λe=>e h2),zau h3]) zow
theorem pr_2(h1:uG L 0 1=0)(h2:ouZ L=1)(h3:¬0<=xU lo hi)(h4:prB L):prE L lo hi=2/\prP L lo hi=[]/\prF L lo hi=[]:=zSW (by unfold prE;rw[zae (λe=>e h1),zae (λe=>e h2),zae h3,zau h4]) zow
theorem zW2(B:List Pt)(p:Pt):0<=adN B p/\adN B p<(adB B p).length:=by
 have h:=zHN B p B.length;unfold adN adB fdZ
 split
 · rw[lAz,zki];omega
 · omega
theorem yM0(B:List Pt)(p:Pt):B.length<=(adB B p).length:=by
 unfold adB;split
 · rw[lAz];omega
 · omega
theorem zY5(B x:List Pt){k n:Nat}(h:k<=n):(plB B x k).length<=(plB B x n).length:=by
 induction n with
 |zero=>rw[show k=0 by omega];exact zbe _
 |succ n ih=>
  rcases ztu k (n+1) with h1|h1
  · exact zci (ih zot) (yM0 _ _)
  · rw[show k=n+1 by omega];exact zbe _
theorem yJX{i n:Nat}(h:i<=n):(ptB L i).length<=(ptB L n).length:=by
 induction n with
 |zero=>rw[show i=0 by omega];exact zbe _
 |succ n ih=>
  rcases ztu i (n+1) with h1|h1
  · exact zci (ih zot) (zY5 (ptB L n) (L.getD n []) (k:=0) (zui _))
  · rw[show i=n+1 by omega];exact zbe _
theorem yMH:(bxZ L).length=L.length:=yY _ _
theorem yCG{i:Nat}(h:i<L.length):(bxZ L).getD i []=plN (ptB L i) (L.getD i []) (L.getD i []).length:=uO _ _ h
theorem zMK{i:Nat}(h:i<L.length):((bxZ L).getD i []).length=(L.getD i []).length:=by rw[yCG h];exact yY _ _
theorem zPH{i k:Nat}(h:i<L.length)(hk:k<((bxZ L).getD i []).length):0<=((bxZ L).getD i []).getD k 0/\((bxZ L).getD i []).getD k 0<↑(bsZ L).length:=by
 rw[zMK h] at hk;rw[yCG h];unfold plN;rw[uO _ _ hk];obtain⟨h1,h2⟩:=zW2 (plB (ptB L i) (L.getD i []) k) ((L.getD i []).getD k zT);have h3:=zY5 (ptB L i) (L.getD i []) (show k+1<=(L.getD i []).length from hk);have J:=yJX (L:=L) (show i+1<=L.length from h);have H:(plB (ptB L i) (L.getD i []) (k+1)).length=(adB (plB (ptB L i) (L.getD i []) k) ((L.getD i []).getD k zT)).length:=I;have D:(ptB L (i+1)).length=(plB (ptB L i) (L.getD i []) (L.getD i []).length).length:=I;have C:(bsZ L).length=(ptB L L.length).length:=I;exact⟨h1,by omega⟩
theorem zQF:(ppZ L lo hi).length=2*(bsZ L).length:=yY _ _
theorem zX7{n:Nat}(hn:n<=L.length):(zM7 L lo hi n).length=iK L n:=by
 induction n with
 |zero=>rfl
 |succ n ih=>
  show List.length (zM7 L lo hi n++sfX L lo hi n ((bxZ L).getD n []).length)=iK L n+_
  rw[lAz,ih zot,show(sfX L lo hi n ((bxZ L).getD n []).length).length=_ from yY _ _,zMK zot]
end
end Bk
namespace Bk
open Go Go.RowKit
section
variable {P:Program}{n:Nat}{w0:World}{h0:Mem}{e:List (Nat×Value)}{L:List Res}{h:Mem}{Q:Exit->Act->World->Prop}{ds:Option Tmp}{ty:TypeId}{ps:String}{af:Array Edge}{gd:Option (Nat×Bool)}{α β:Type}
variable {E:TypeId}{cs:List Value}{v:Value}{ρ:Rp α}{σ:Rp β}{g:List α->β}{s:List α->β->List α}{xs:List α}{off k:Nat}
theorem zK6{w:World}{h':Mem}(hm:.gs E ρ.n v xs.length cs∈L)(pc:Pc (rpA xs.length ρ) off σ g s)(hp:0<σ.n)(r:RL ρ h cs xs)(S:St w0 h0 L h' w):
 ∃b o',∀d,zG 1 v (off+d)=vP b (o'+off+d):=by
 have hf:off+σ.n<=xs.length*ρ.n:=pc.fits;have D:=r.len;obtain⟨b,o',H,C,_⟩:=zM1 (l:=1) (zK0 hm S) zow (show off+1<=cs.length by omega);refine⟨b,o',λd=>?_⟩;rw[C];simp[zG,kB,z3e]
theorem rZ{x:Operand}(pc:Pc (rpA xs.length ρ) off σ g s)(hk:k=off)(hp:0<σ.n)(r:RL ρ h cs xs)(hm:.gs E ρ.n v xs.length cs∈L)(hx:zK e x=some (zG 1 v k)):
 OpV P n w0 h0 ⟨ds,.nilCheck x,ty,ps,af,gd⟩ e L h (zG 1 v k):=by
 subst hk;intro a w D S;obtain⟨b,o',H⟩:=zK6 hm pc hp r S;have C:=H 0;rw[zke,zke] at C;rw[C] at hx ⊢;exact gW hx a w D S
theorem jA{t:TypeId}{x:Operand}{f:Nat}{fs:Array Field}{fl:Field}{m:Nat}(pc:Pc (rpA xs.length ρ) off σ g s)(hk:k=off)(hp:0<σ.n)(r:RL ρ h cs xs)(hm:.gs E ρ.n v xs.length cs∈L)(ht:P.underlying t=some (.struct fs))(hf:fs[f]?=some fl)(hsz:∀w,(Go.sizeOf fl.type).run P w=.ok (m+1) w)(hx:zK e x=some (zG 1 v k)):
 OpV P n w0 h0 ⟨ds,.fieldAddr t x f,ty,ps,af,gd⟩ e L h (zG 1 v (k+fl.offset)):=by
 subst hk;intro a w D S;obtain⟨b,o',H⟩:=zK6 hm pc hp r S;have C:=H 0;rw[zke,zke] at C;rw[H];rw[C] at hx;exact wB ht hf hsz hx a w D S
theorem sZ{t E':TypeId}{x y:Operand}{m sz:Nat}{q:Int}(i:Nat)(pc:Pc (rpA xs.length ρ) off σ g s)(hk:k=off)(hp:0<σ.n)(r:RL ρ h cs xs)(hm:.gs E ρ.n v xs.length cs∈L)(ht:P.underlying t=some (.array m E'))(hsz:∀w,(Go.sizeOf E').run P w=.ok sz w)(hx:zK e x=some (zG 1 v k))(hy:zK e y=some (vI q))(hq:q=(i:Int))(hi:i<m):
 OpV P n w0 h0 ⟨ds,.indexAddr t x y,ty,ps,af,gd⟩ e L h (zG 1 v (k+i*sz)):=by
 subst hk;intro a w D S;obtain⟨b,o',H⟩:=zK6 hm pc hp r S;have C:=H 0;rw[zke,zke] at C;rw[H];rw[C] at hx;exact zX i ht hsz hx hy hq hi a w D S
end
end Bk
