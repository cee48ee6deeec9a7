/- Texts that the proof needs, part 7. -/
import Derived.Test.YtpkaegemlpaenaaGreatKH6
import Derived.Scope
set_option linter.unusedVariables false
set_option linter.unusedSimpArgs false
noncomputable section
set_option maxRecDepth 10000
set_option maxHeartbeats 1000000
namespace Go.Proofs.YtpkaegemlpaenaaGreat
open Bk Go Tryz
attribute [local irreducible] GL GC GQ W OpV
theorem zBX{w0:World}{h0:Mem}(hs:MLe h0 (mem w0)){k:Nat}{va:Value}{a:Tq}(ra:(tPt k).Is h0 va a){vb:Value}{b:Tq}(rb:(tPt k).Is h0 vb b){vc:Value}{c:Tq}(rc:(tPt k).Is h0 vc c)(H0:k<=100000):
 y8i 93 #[va,vb,vc] w0 h0 (λh r=>∃u0,r=.tuple #[u0,vI (thE a b c)]/\(tPl (50*k+200) (200*k+900)).Is h u0 (thZ a b c)):=by
 refine cb3 24 va vb vc func93 hs ?_;refine go2 ?_;refine nB ra λb3 cc O=>(nB rb λb4 cb ao=>(nB rc λb5 ca an=>(nA (ρ:=(tPl 1 1)) (X:=(zT,(0:Rat))) rK (yA (yR (yE dC)) (yE dC)) λb6 bz aj=>(go4 ?_))));refine zJ 8 _ [(7,(8,31,y7e))] [(0,.q),(1,.q),(3,.q),(4,.q),(2,.c),(5,.c),(6,.c),(7,.a),(8,.t)] zX (jD.cons I I (uM yK I I) jD.nil) zou (uN I I kF) (λr hr=>hr) (wX I (xB zK pH ao) λv9 r9=>(wX I (xB zK pH O) λbs ba=>(wX I (xB zK pH an) λbq az=>(wX I (xB zK pH O) λbp ay=>?_))));refine w_c I (sC (ev2 I I) call22 (λw hs=>mV hs r9 ba oM) λbr h1 bx ab=>?_);replace ab:=Rp.Is.le ab (Le.t (Le.q (l:=2*k+1) oM));refine w_c I (sC (ev2 I I) call22 (λw hs=>mV hs az.up ay.up oM) λbo h2 bw aa=>?_);replace aa:=Rp.Is.le aa (Le.t (Le.q (l:=2*k+1) oM));refine w_c I (sC (ev2 I I) call102 (λw hs=>lG hs ab.up aa oM) λbn h3 bv Z=>?_);replace Z:=Rp.Is.le Z (Le.t (Le.q (l:=8*k+7) oM));refine w_a I I (λb8=>?_);have am:(tPt 1).R h3 y7e zT:=(yR (yE dC));have ae:=(Le.t (Le.q (l:=8*k+7) oM)).R am;refine yG (A:=[]) I (uB sizeOf31 pH ae Z) λbe D=>(go5 ?_);refine lX (xB zK pH D) λbm ax=>(cL (ev1 I) call80 (λw hs=>zDK hs ax oM) λak h4 bu aw=>?_);obtain rfl:ak=vB ((zO (T3.mk (b.x-a.x) (b.y-a.y) (b.z-a.z)) (T3.mk (c.x-a.x) (c.y-a.y) (c.z-a.z)))=zT):=aw;refine gc2 (λC=>?_) λC=>?_
 ·
  refine go2 ?_;refine lX (xV (ρ:=(tPl 1 1)) (xN (ps':=[]) underlying50 rK I I (sL underlying50) trivial I (yA (yR (yE dC)) (yE dC)) zN)) λbl av=>(zP (A:=[_]) (uB sizeOf50 pH aj av) λbd ai=>(go5 ?_));refine wG (jG (t:=6) lW mh1 I ai) ?_;intro bf ac ah;refine yN (λE S=>qO I ac (gH I) E S) ?_;refine⟨_,?_,(Rp.Is.cast (Rp.Is.le ah (Le.p (Le.t (Le.q (l:=50*k+200) oM)) (Le.q (l:=200*k+900) oM))) (by obtain⟨e1,e2⟩:=yMZ C;rw[e1]))⟩;obtain⟨e1,e2⟩:=yMZ C;rw[e2]
 refine go3 ?_;refine zJ 5 _ [] [(0,.q),(1,.q),(2,.q),(3,.c),(4,.q),(5,.t),(6,.t)] zX nX zou nX (λr hr=>hr) (wX I (xB zK pH D) λbk au=>(wX I (xB zK pH D) λbj ar=>(wX I (xB zK pH O) λbi aq=>?_)));refine w_c I (sC (ev2 I I) call56 (λw hs=>tW hs ar aq oM) λbh h5 bt U=>?_);replace U:=Rp.Is.le U (Le.q (l:=27*k+30) oM);refine wX I (xV (ρ:=(tPl (8*k+7) (27*k+30))) (xN (ps':=[(0,_),(1,_)]) underlying50 rK I I (sL underlying50) e4z I (yA (yR (yE oM)) (yE oM)) (zD I (y6i (y5u _)) au.up (zD I (y6u (y5u _)) U zN)))) λbg ap=>?_;have ad:=(Le.p (Le.t (Le.q (l:=8*k+7) oM)) (Le.q (l:=27*k+30) oM)).R aj;refine yG (A:=[_]) I (uB sizeOf50 pH ad ap) λbc M=>(zE8 I (pV (v:=vI (0)) I) I (go3 ?_));refine wG (jG (t:=6) lW mh1 I M) ?_;intro bb H J;refine yN (λE S=>qO I H (gH I) E S) ?_;refine⟨_,?_,(Rp.Is.cast (Rp.Is.le J (Le.p (Le.t (Le.q (l:=50*k+200) oM)) (Le.q (l:=200*k+900) oM))) (by obtain⟨e1,e2⟩:=zYF C;rw[e1];rfl))⟩;obtain⟨e1,e2⟩:=zYF C;rw[e2]
theorem zBY{w0:World}{h0:Mem}(hs:MLe h0 (mem w0)){m l:Nat}{vpl:Value}{pl:Pq}(rpl:(tPl m l).Is h0 vpl pl)(H0:m<=1000000)(H1:l<=1000000):
 y8i 76 #[vpl] w0 h0 (λh r=>(tPl (3*m+10) (l+1)).Is h r (opP pl)):=by
 refine cb1 11 vpl func76 hs ?_;refine go2 ?_;refine nB rpl λb1 ai M=>(nA (ρ:=(tPl 1 1)) (X:=(zT,(0:Rat))) rK (yA (yR (yE dC)) (yE dC)) λb2 ah O=>(go3 ?_));refine zJ 8 _ [] [(1,.q),(2,.q),(4,.q),(5,.q),(0,.c),(3,.c),(6,.c),(7,.q),(8,.t)] zX nX zou nX (λr hr=>hr) (go1 ?_);refine wX I (xB zK (y6i pH) M) λv5 r5=>(go1 ?_);refine wX I (xB yC (y6u pH) M) λv8 r8=>?_;refine w_c I (sC (vs:=[vI (-1)]) ⟨I,y5i⟩ call27 (λw hs=>qP hs dC dC) λv3 h1 ae r3=>?_);refine w_c I (sC (ev2 I I) call20 (λw hs=>pJ hs r3 r5.up oM) λv6 h2 ad r6=>?_);refine w_c I (sC (ev1 I) call87 (λw hs=>oV hs r8.up oM) λv9 h3 ac r9=>(wX I (xV (ρ:=(tPl (m+2) (l+1))) (xN (ps':=[(0,_),(1,_)]) underlying50 rK I I (sL underlying50) e4z I (yA (yR (yE oM)) (yE oM)) (zD I (y6i (y5u _)) r6.up (zD I (y6u (y5u _)) (r9.le (Le.q (l:=l+1) oM)) zN)))) λab U=>?_));have D:=(Le.p (Le.t (Le.q (l:=m+2) oM)) (Le.q (l:=l+1) oM)).R O;refine yG (A:=[]) I (uB sizeOf50 pH D U) λZ J=>(go3 ?_);refine wG (jG (t:=2) lW mh0 I J) ?_;intro aa C H;refine yN (λE S=>zS I C E S) ?_;exact(Rp.Is.le H (Le.p (Le.t (Le.q (l:=3*m+10) oM)) (Le.refl _)))
end Go.Proofs.YtpkaegemlpaenaaGreat
namespace Bk
open Classical
def zW5(c:Pl)(l:List Pt):Nat->Rat
  |0=>0
  |m+1=>zW5 c l m+hgt c (gp l m)
theorem yCY{pl:Pl}{a b c:Pt}(hn:¬pl.1=zT)(ha:sdZ pl a=0)(hb:sdZ pl b=0)(hc:sdZ pl c=0):yQ (yB (yJ b a) (yJ c a) pl.1)<=0↔¬0<orZ (pt2 pl a) (pt2 pl b) (pt2 pl c):=by
 rw[<-yLP hn ha hb hc,yLQ];omega
end Bk
namespace Go.Proofs.YtpkaegemlpaenaaGreat
open Bk Go Tryz
attribute [local irreducible] GL GC GQ W OpV
theorem zOD{w0:World}{h0:Mem}(hs:MLe h0 (mem w0)){k l m:Nat}{va:Value}{a:Tq}(ra:(tPt k).Is h0 va a){vb:Value}{b:Tq}(rb:(tPt l).Is h0 vb b){vc:Value}{c:Tq}(rc:(tPt m).Is h0 vc c)(H0:k<=100000000)(H1:l<=100000000)(H2:m<=100000000):
 y8i 98 #[va,vb,vc] w0 h0 (λh r=>(rpQ (3*k+6*l+6*m+18)).Is h r (yB a b c)):=by
 refine cb3 12 va vb vc func98 hs ?_;refine go2 ?_;refine nB ra λb3 ao aa=>(nB rb λb4 an Z=>(nB rc λb5 am U=>(nA (ρ:=(rpQ 1)) (X:=(0:Rat)) xU (yE dC) λb6 ak O=>(go3 ?_))));refine zJ 5 _ [] [(0,.q),(1,.q),(2,.q),(3,.c),(4,.c),(5,.t)] zX nX zou nX (λr hr=>hr) (wX I (xB zK pH aa) λv7 r7=>(wX I (xB zK pH Z) λv8 r8=>(wX I (xB zK pH U) λv9 r9=>?_)));refine w_c I (sC (ev2 I I) call102 (λw hs=>lG hs r8 r9 oM) λah h1 aj ab=>?_);refine w_c I (sC (ev2 I I) call56 (λw hs=>tW hs r7.up ab oM) λae h2 ai C=>?_);replace C:=Rp.Is.le C (Le.q (l:=3*k+6*l+6*m+18) oM);have H:=(Le.q (l:=3*k+6*l+6*m+18) oM).R O;refine yG (A:=[]) I (uB sizeOf29 pH H C) λac M=>(go3 ?_);refine wG (jG (t:=6) yC mh0 I M) ?_;intro ad D J;refine yN (λE S=>zS I D E S) ?_;exact J
theorem zRP{w0:World}{h0:Mem}(hs:MLe h0 (mem w0)){k n m:Nat}{vl:Value}{l:(List Tq)}(rl:(tLs k).Is h0 vl l){vs:Value}{s:Pq}(rs:(tPl n m).Is h0 vs s)(H0:k<=10000000)(H1:m<=10000000)(H2:n<=1000000)(H3:l.length<=100000):
 y8i 94 #[vl,vs] w0 h0 (λ_ r=>r=vB (zIC s l)):=by
 have de:=zEC s.1;refine cb2 73 vl vs func94 hs ?_;refine go2 ?_;refine nB rs λb3 Z ac=>(cD ?_);refine qH (ι:=Mem) 5 (λm_=>MLe h0 m_) (λ_=>[(20,vB (((↑(l).length:Int)<(3:Int))\/(s.1=zT))),(0,vl),(3,vP b3 0),(5,vI (↑(l).length:Int))]) (λ_=>[.var b3 50 Z]) (λm_=>m_) ?_ ?_
 ·
  refine zY ((↑(l).length:Int)<(3:Int)) (λhg=>?_) (λhg=>?_)
  ·
   refine gT hg I (go5 ?_);refine zU h0 (MLe.refl _) ⟨?_,I,I,I,y5i⟩ I I;exact y4e (uH hg)
  refine gF hg I (go3 ?_);refine lX (xB zK (y6i pH) ac) λcv bt=>(go1 ?_);refine cL (ev1 I) call80 (λw hs=>zDK hs bt oM) λaz h1 ai bs=>?_;obtain rfl:az=vB (s.1=zT):=bs;refine go2 ?_;refine zU h1 ai ⟨?_,I,I,I,y5i⟩ I I;exact y4e (uJ hg)
 intro J an;refine rA ?_;refine gc2 (λD=>?_) λD=>?_
 ·
  refine go7 ?_;refine zC I I ?_;exact(yM (λe=>D.elim (λh=>by have:=e.1.1;omega) (λh=>e.1.2 h))).symm
 have hN:¬s.1=zT:=λe=>D (.inr e);have h3:3<=l.length:=by have h:=D;omega
 refine go9 ?_;refine gcL (ι:=Nat×Mem) (λ(i,ma)=>(MLe J ma/\(i<=l.length/\∀u,u<i->sdZ s (gp l u)=0),[(0,vl),(3,vP b3 0),(5,vI (↑(l).length:Int)),(6,vI ↑i)],[.var b3 50 Z],ma,l.length-i)) (0,J) ?_ ?_
 · exact⟨mle,zot,λu h=>by omega⟩
 rintro⟨i,ma⟩ ⟨ca,da,hi2⟩
 refine yY ?_;refine gc8 (λau=>?_) λau=>?_
 ·
  refine go5 ?_;refine zJ 7 _ [] (zai 0 5 [(5,.c),(6,.q)]) zX nX zou nX (λr hr=>hr) (wX I (xB lW pH ac) λcu br=>(go2 ?_));refine wX I (xI zT i underlying35 zK rl) λct bq=>(wX I (xA zK bq) λcq bp=>?_);refine w_c I (sC (ev2 I I) call23 (λw hs=>zJV hs br bp oM oM oM) λay h1 ai bo=>?_);obtain rfl:ay=vI (sdZ s (l.getD i zT)):=bo;have bv:=aZ s (l.getD i zT);refine gc3 (λO=>?_) λO=>?_
  ·
   refine qE ?_;refine zC I I ?_;exact(yM (λe=>O (e.2.1 i oM))).symm
  refine go8 ?_;refine gqL ((i+1),h1) ?_ ?_
  · exact⟨mle,zot,vZ (Q:=λu=>sdZ s (gp l u)=0) hi2 (zdi O)⟩
  omega
 have hS:∀u,u<l.length->sdZ s (gp l u)=0:=λu hu=>hi2 u oM;refine qC ?_;refine gcL (ι:=Nat×Mem) (λ(i,mb)=>(MLe ma mb/\(i<=l.length/\∀u,u<i->∀C,2<=C->C<l.length->0<orZ (pt2 s (gp l u)) (pt2 s (nx l u)) (pt2 s (gp l ((u+C)%l.length)))),[(0,vl),(3,vP b3 0),(5,vI (↑(l).length:Int)),(7,vI ↑i)],[.var b3 50 Z],mb,l.length-i)) (0,ma) ?_ ?_
 · exact⟨mle,zot,λu h=>by omega⟩
 rintro⟨i,mb⟩ ⟨bz,cz,ap⟩
 refine yY ?_;refine gc8 (λar=>?_) λar=>?_
 ·
  refine go5 ?_;refine zJ 15 _ [(11,(8,31,y7e)),(12,(9,31,y7e))] (zai 0 11 [(11,.a),(12,.a),(13,.c),(14,.c)]) zX (jD.cons I I (uM yK I I) (jD.cons I I (uM yK I I) jD.nil)) (wL zou) (uN I I (uN I I kF)) (λr hr=>hr) (go2 ?_);refine wX I (xI zT i underlying35 zK rl) λcp bn=>(wX I (xA zK bn) λco bm=>(go4 ?_));refine wZ I (λ_ _=>wI I I oM oM) I (wX I (xI zT ((i+1)%l.length) underlying35 zK rl (hi:=by exact zcu _ oM)) λcn bl=>(wX I (xA zK bl) λcm bk=>?_));refine w_a I I (λb8=>?_);have bb:(tPt (k+1)).R mb y7e zT:=(yR (yE oM));refine w_a I I (λb9=>?_);have ba:(tPt (k+1)).R mb y7e zT:=(yR (yE oM));refine w_c I (bF (A:=[_]) (uB sizeOf31 pH bb (bm.le (Le.t (Le.q (l:=k+1) oM)))) (xO zoy) λaw aa=>?_);refine w_c I (bF (A:=[]) (uB sizeOf31 pH ba (bk.le (Le.t (Le.q (l:=k+1) oM)))) (xO zoy) λav ak=>(go8 ?_));refine gcL (ι:=Nat×Mem) (λ(q,mq)=>(MLe mb mq/\((2<=q/\q<=l.length)/\∀C,2<=C->C<q->0<orZ (pt2 s (gp l i)) (pt2 s (nx l i)) (pt2 s (gp l ((i+C)%l.length)))),[(0,vl),(3,vP b3 0),(5,vI (↑(l).length:Int)),(7,vI ↑i),(8,vP b8 0),(9,vP b9 0),(10,vI ↑q)],[.var b9 31 av,.var b8 31 aw,.var b3 50 Z],mq,l.length-q)) (2,mb) ?_ ?_
  · exact⟨mle,⟨zot,zot⟩,λC H U=>by omega⟩
  rintro⟨q,mq⟩ ⟨bx,⟨cy,cw⟩,ao⟩
  refine yY ?_;refine gc8 (λaq=>?_) λaq=>?_
  ·
   refine qE ?_;refine gv (wI I I oM oM) I (lX (xI zT ((i+q)%l.length) underlying35 zK rl (hi:=by exact zcu _ oM)) λcl bj=>(lX (xA zK bj) λck bi=>(nA (ρ:=(tPt (k+1))) (X:=zT) yK (yR (yE oM)) λdf cb am=>(zP (A:=[]) (uB sizeOf31 pH am (bi.le (Le.t (Le.q (l:=k+1) oM)))) λbw ab=>(go3 ?_)))));refine zJ 11 _ [] [(0,.q),(1,.q),(3,.q),(4,.q),(6,.q),(7,.q),(2,.c),(5,.c),(8,.c),(9,.c),(10,.q)] zX nX zou nX (λr hr=>hr) (wX I (xB zK pH ak) λcj bh=>(wX I (xB zK pH aa) λci bg=>(wX I (xB zK pH ab) λcg bf=>(wX I (xB zK pH aa) λcf be=>(go1 ?_)))));refine wX I (xB zK (y6i pH) ac) λcd bd=>?_;refine w_c I (sC (ev2 I I) call22 (λw hs=>mV hs bh bg oM) λch h1 ai ah=>?_);replace ah:=Rp.Is.le ah (Le.t (Le.q (l:=2*k+3) oM));refine w_c I (sC (ev2 I I) call22 (λw hs=>mV hs bf.up be.up oM) λce h2 dd ae=>?_);replace ae:=Rp.Is.le ae (Le.t (Le.q (l:=2*k+3) oM));refine w_c I (sC (ev3 I I I) call98 (λw hs=>zOD hs ah.up ae bd.up oM oM oM) λcc h3 dc ad=>?_);replace ad:=Rp.Is.le ad (Le.q (l:=18*k+6*n+45) oM);refine w_c I (sC (ev1 I) call48 (λw hs=>uS hs ad oM) λax h4 db bc=>?_);obtain rfl:ax=vI (yQ (yB (T3.mk ((l.getD ((i+1)%l.length) zT).x-(l.getD i zT).x) ((l.getD ((i+1)%l.length) zT).y-(l.getD i zT).y) ((l.getD ((i+1)%l.length) zT).z-(l.getD i zT).z)) (T3.mk ((l.getD ((i+q)%l.length) zT).x-(l.getD i zT).x) ((l.getD ((i+q)%l.length) zT).y-(l.getD i zT).y) ((l.getD ((i+q)%l.length) zT).z-(l.getD i zT).z)) s.1)):=bc;have bu:=xC (yB (T3.mk ((l.getD ((i+1)%l.length) zT).x-(l.getD i zT).x) ((l.getD ((i+1)%l.length) zT).y-(l.getD i zT).y) ((l.getD ((i+1)%l.length) zT).z-(l.getD i zT).z)) (T3.mk ((l.getD ((i+q)%l.length) zT).x-(l.getD i zT).x) ((l.getD ((i+q)%l.length) zT).y-(l.getD i zT).y) ((l.getD ((i+q)%l.length) zT).z-(l.getD i zT).z)) s.1);refine gc3 (λM=>?_) λM=>?_
   ·
    have aj:¬0<orZ (pt2 s (gp l i)) (pt2 s (nx l i)) (pt2 s (gp l ((i+q)%l.length))):=(yCY hN (hS i oM) (hS ((i+1)%l.length) (zcu _ oM)) (hS ((i+q)%l.length) (zcu _ oM))).1 M;refine cD ?_;refine zC I I ?_;exact(yM (λe=>aj (e.2.2 i q oM oM oM))).symm
   have aj:0<orZ (pt2 s (gp l i)) (pt2 s (nx l i)) (pt2 s (gp l ((i+q)%l.length))):=zdi (λe=>M ((yCY hN (hS i oM) (hS ((i+1)%l.length) (zcu _ oM)) (hS ((i+q)%l.length) (zcu _ oM))).2 e));refine go8 ?_;refine xK (A:=[]) ?_;refine gqL ((q+1),h4) ?_ ?_
   · exact⟨mle,⟨zot,zot⟩,λC H U=>by rcases zhu.1 U with e|e;exact ao C H e;subst e;exact aj⟩
   omega
  refine qE ?_;refine xK (A:=[]) (xK (A:=[]) ?_);refine gqL ((i+1),mq) ?_ ?_
  · exact⟨mle,zot,vZ (Q:=λu=>∀C,2<=C->C<l.length->0<orZ (pt2 s (gp l u)) (pt2 s (nx l u)) (pt2 s (gp l ((u+C)%l.length)))) ap (λC H U=>ao C H oM)⟩
  omega
 have hE:∀u C,u<l.length->2<=C->C<l.length->0<orZ (pt2 s (gp l u)) (pt2 s (nx l u)) (pt2 s (gp l ((u+C)%l.length))):=λu C hu H U=>ap u oM C H U;refine qE ?_;refine zC I I ?_;exact(xW ⟨⟨h3,hN⟩,hS,hE⟩).symm
set_option maxHeartbeats 1000000 in
theorem zOM{w0:World}{h0:Mem}(hs:MLe h0 (mem w0)){k:Nat}{vl:Value}{l:(List Tq)}(rl:(tLs k).Is h0 vl l){vt:Value}{t:Tq}(rt:(tPt k).Is h0 vt t)(H0:k<=10)(H1:pyH l t):
 Calls prog 52 #[vl,vt] w0 (tP w0 h0 (λh r L_=>∃u0 vF cs,r=.tuple #[u0,vI 0]/\(rpP (tLs (k+2)) (rpP rpV (rpS (rpP rpI (rpP rpI (rpQ 6)))))).Is h u0 (nrP (pyR l t),(vF,[]))/\L_=[.gs 53 14 vF (nrF (pyR l t)).length cs]/\vF.oneCell'=true/\RL (tFc (1000*k+5000) (1000*k+5000)) h cs (nrF (pyR l t)))):=by
 have jl:=H1.1.1;obtain⟨jr,gr⟩:=zYF H1.1.2;refine cb2 113 vl vt func52 hs ?_;refine go2 ?_;refine nB rt λb3 dl da=>(nA (ρ:=(rpP (tLs 1) (rpP rpV (rpS (rpP rpI (rpP rpI (rpQ 1))))))) (X:=([],((Value.slice none 0 0),[]))) qQ (yA wC (yA fD wC)) λb4 dk fk=>(nY ?_));refine cnd (λbn=>?_) λbn=>?_
 · exact absurd bn oM
 refine gc9 (λbm=>?_) λbm=>?_
 · exact absurd bm oM
 refine go3 ?_;refine zJ 16 _ [(13,(7,50,[.bool false,.slice none 0 0,.slice none 0 0,.bool false,.slice none 0 0,.slice none 0 0,.bool false,.slice none 0 0,.slice none 0 0,.bool false,.slice none 0 0,.slice none 0 0]))] (zai 0 9 [(9,.c),(10,.q),(11,.q),(12,.q),(13,.a),(14,.c),(15,.q)]) zX (jD.cons I I (uM rK I I) jD.nil) (wL zou) (uN I I kF) (λr hr=>hr) (go1 ?_);refine cY (F:=λv_=>AtP (tPt k) h0 v_ (l.getD 0 zT)) I (tT (q:=0) zT 0 underlying35 zK I I rl I oM nP) j5 I ?_;intro jd gh;refine wX I (xA zK gh) λjc gg=>(go1 ?_);refine cY (F:=λv_=>AtP (tPt k) h0 v_ (l.getD 1 zT)) I (tT (q:=1) zT 1 underlying35 zK I I rl I oM nP) j5 I ?_;intro jb gf;refine wX I (xA zK gf) λja ge=>(go1 ?_);refine cY (F:=λv_=>AtP (tPt k) h0 v_ (l.getD 2 zT)) I (tT (q:=2) zT 2 underlying35 zK I I rl I oM nP) j5 I ?_;intro iz gc;refine wX I (xA zK gc) λiy gb=>?_;refine w_c I (sC (ev3 I I I) call93 (λw hs=>zBX hs gg ge gb oM) λix h1 jo ga=>?_);obtain⟨bq,rfl,ay⟩:=ga
 change (tPl (50*k+200) (200*k+900)).Is h1 bq (thZ (l.getD 0 zT) (l.getD 1 zT) (l.getD 2 zT)) at ay
 refine go3 ?_;refine w_a I I (λb7=>?_);have fj:(tPl 1 1).R h1 [.bool false,.slice none 0 0,.slice none 0 0,.bool false,.slice none 0 0,.slice none 0 0,.bool false,.slice none 0 0,.slice none 0 0,.bool false,.slice none 0 0,.slice none 0 0] (zT,(0:Rat)):=(yA (yR (yE dC)) (yE dC));refine w_c I ?_;have du:=(Le.p (Le.t (Le.q (l:=50*k+200) oM)) (Le.q (l:=200*k+900) oM)).R fj;refine bF (A:=[]) (uB sizeOf50 pH du ay) (xO zoy) λbc av=>(go7 ?_);refine gv (OpV.fa (by rw[gr];exactλe=>e I) (zBQ (q:=0) I I)) I (go4 ?_);refine lX (xB lW pH av) λiw fz=>(go1 ?_);refine cL (ev2 I I) call94 (λw hs=>zRP hs rl.up fz oM oM oM (by first|omega|exact H1.2.1.1)) λfi h2 jn fy=>?_;obtain rfl:fi=vB (zIC (thZ (l.getD 0 zT) (l.getD 1 zT) (l.getD 2 zT)) l):=fy;refine go3 ?_;refine qH (ι:=Mem) 6 (λm_=>MLe h2 m_) (λ_=>[(49,vB ((¬(zIC (thZ (l.getD 0 zT) (l.getD 1 zT) (l.getD 2 zT)) l))\/((sdZ (thZ (l.getD 0 zT) (l.getD 1 zT) (l.getD 2 zT)) t)<=(0:Int)))),(0,vl),(3,vP b3 0),(4,vP b4 0),(6,vI (↑(l).length:Int)),(7,vP b7 0)]) (λ_=>[.var b7 50 bc,.var b4 39 dk,.var b3 31 dl]) (λm_=>m_) ?_ ?_
 ·
  refine zY (¬(zIC (thZ (l.getD 0 zT) (l.getD 1 zT) (l.getD 2 zT)) l)) (λhg=>?_) (λhg=>?_)
  ·
   refine gT hg I (go6 ?_);refine zU h2 (MLe.refl _) ⟨?_,I,I,I,I,I,y5i⟩ I I;exact y4e (uH hg)
  refine gF hg I (go1 ?_);refine lX (xB lW pH av) λiv fx=>(go1 ?_);refine lX (xB zK pH da) λiu fw=>(go1 ?_);refine cL (ev2 I I) call23 (λw hs=>zJV hs fx fw oM oM oM) λfh h3 ab fv=>?_;obtain rfl:fh=vI (sdZ (thZ (l.getD 0 zT) (l.getD 1 zT) (l.getD 2 zT)) t):=fv;have gn:=aZ (thZ (l.getD 0 zT) (l.getD 1 zT) (l.getD 2 zT)) t;refine go4 ?_;refine zU h3 ab ⟨?_,I,I,I,I,I,y5i⟩ I I;exact y4e (uJ hg)
 intro ah en;refine rA ?_;refine gc2 (λbl=>?_) λbl=>?_
 ·
  rcases bl with e|e
  exact absurd H1.2.1.1 e;have:=H1.2.1.2;omega
 refine go2 ?_;refine jM (ι:=Nat×List Value×Mem) (λ(D,J,mc)=>MLe ah mc/\((rpP (tLs (k+1)) (rpP rpV (rpS (rpP rpI (rpP rpI (rpQ 1)))))).R mc J ((l++[t]),((Value.slice none 0 0),([]:List En)))/\True)) (λ(D,J,mc)=>[(0,vl),(3,vP b3 0),(4,vP b4 0),(6,vI (↑(l).length:Int)),(7,vP b7 0),(9,vP D 0)]) (λ(D,J,mc)=>[.var D 39 J,.var b7 50 bc,.var b4 39 dk,.var b3 31 dl]) (λ(D,J,mc)=>mc) ?_ ?_
 ·
  refine zJ 7 _ [(6,(9,39,[.slice none 0 0,.slice none 0 0,.slice none 0 0]))] [(0,.q),(2,.q),(1,.b 3),(4,.c),(5,.c),(6,.a),(7,.t)] zX (jD.cons I I (uM qQ I I) jD.nil) zou (uN I I kF) (λr hr=>hr) (go1 ?_);refine wX I (xB zK pH da) λir ed=>?_;refine w_b I I ?_ ?_
  ·
   refine iU 31 9 ?_;have dw:=RL.nil (ρ:=rpT (rpQ k)) (h:=ah);refine fK (A:=[]) (λX=>uK (zR (ρ:=(tPt k)) (bytes:=168) underlying35 yK I I I I nP I I dw rl.up bO bO)) I (xO zoy) ?_
   rintro fg gm ⟨em,ew,rfl,H⟩
   refine jR (λX=>zL (ρ:=(tPt (k+1))) (m:=1) (xs:=[t]) (ps':=[(0,_)]) underlying35 yK I I I (yR (yE oM)) e2z (zD I (y5e (y5u _) zT 0 dC) (ed.le (Le.t (Le.q (l:=k+1) oM))) zN) zok nP) I ?_;intro ff gk ek;obtain⟨ev,rfl,ar⟩:=ek;refine w_c I (xY (A:=[]) (ρ:=(tPt (k+1))) ar dK ?_);intro h3 ab dv;replace H:=H.mono ab;have dt:=(Le.t (Le.q (l:=k+1) oM)).rl H;refine fK (A:=[]) (λX=>uK (zR (ρ:=(tPt (k+1))) (bytes:=168) underlying35 yK I I I I nP I I dt dv bO bO)) I (xO zoy) ?_
   rintro fe gj ⟨el,eu,rfl,aq⟩
   refine w_c I (xY (A:=[]) (ρ:=(tPt (k+1))) aq dK ?_);intro h4 am ci;refine sX (xV (ρ:=(rpP (tLs (k+1)) (rpP rpV (rpS (rpP rpI (rpP rpI (rpQ 1))))))) (xN (ps':=[(0,_)]) underlying39 qQ I I (sM underlying39) e2z I (yA wC (yA fD wC)) (zD I (y6i (y5u _)) ci zN))) λfd db=>?_;refine w_a I I (λb9=>?_);have cz:(rpP (tLs 1) (rpP rpV (rpS (rpP rpI (rpP rpI (rpQ 1)))))).R h4 [.slice none 0 0,.slice none 0 0,.slice none 0 0] ([],((Value.slice none 0 0),[])):=(yA wC (yA fD wC));have bv:=(Le.p (Le.s (Le.t (Le.q (l:=k+1) oM))) (Le.refl _)).R cz;refine yG (A:=[]) I (uB sizeOf39 pH bv db) λdj cy=>(go1 ?_);refine zU (b9,dj,h4) ?_ e6 I I;refine⟨(ab.trans am),?_⟩;refine⟨cy,?_⟩
   trivial
  refine jR (λX=>zL (ρ:=(tPt (k+1))) (m:=1) (xs:=[t]) (ps':=[(0,_)]) underlying35 yK I I I (yR (yE oM)) e2z (zD I (y5e (y5u _) zT 0 dC) (ed.le (Le.t (Le.q (l:=k+1) oM))) zN) zok nP) I ?_
  rintro ff gk ⟨ev,rfl,ar⟩
  refine iU 31 9 ?_;have cm:=RL.nil (ρ:=rpT (rpQ k)) (h:=ah);refine fK (A:=[]) (λX=>uK (zR (ρ:=(tPt k)) (bytes:=168) underlying35 yK I I I I nP I I cm rl.up bO bO)) I (xO zoy) ?_
  rintro fg gm ⟨em,ew,rfl,H⟩
  refine w_c I (xY (A:=[_]) (ρ:=(tPt (k+1))) ar dK ?_);intro h3 ab ch;replace H:=H.mono ab;have bu:=(Le.t (Le.q (l:=k+1) oM)).rl H;refine fK (A:=[]) (λX=>uK (zR (ρ:=(tPt (k+1))) (bytes:=168) underlying35 yK I I I I nP I I bu ch bO bO)) I (xO zoy) ?_
  rintro fe gj ⟨el,eu,rfl,aq⟩
  refine w_c I (xY (A:=[]) (ρ:=(tPt (k+1))) aq dK ?_);intro h4 am cg;refine sX (xV (ρ:=(rpP (tLs (k+1)) (rpP rpV (rpS (rpP rpI (rpP rpI (rpQ 1))))))) (xN (ps':=[(0,_)]) underlying39 qQ I I (sM underlying39) e2z I (yA wC (yA fD wC)) (zD I (y6i (y5u _)) cg zN))) λfd db=>?_;refine w_a I I (λb9=>?_);have cz:(rpP (tLs 1) (rpP rpV (rpS (rpP rpI (rpP rpI (rpQ 1)))))).R h4 [.slice none 0 0,.slice none 0 0,.slice none 0 0] ([],((Value.slice none 0 0),[])):=(yA wC (yA fD wC));have bt:=(Le.p (Le.s (Le.t (Le.q (l:=k+1) oM))) (Le.refl _)).R cz;refine yG (A:=[]) I (uB sizeOf39 pH bt db) λdi cw=>(go1 ?_);refine zU (b9,di,h4) ?_ e6 I I;refine⟨(ab.trans am),?_⟩;refine⟨cw,?_⟩
  trivial
 rintro⟨D,J,mc⟩ ⟨hv,bk⟩
 refine yY ?_;obtain⟨eb,bk⟩:=bk;refine qC ?_;refine xJ 3 1 ?_;have cl:=RL.nil (ρ:=rpI) (h:=mc);refine xJ 53 14 ?_;have ck:=RL.nil (ρ:=rpP (tPl (150*k+700) (200*k+901)) (rpP tII qF)) (h:=mc);refine gcL (ι:=Nat×List Int×List Fc×List Value×Value×List Value×Value×List Value×Mem) (λ(i,LN,FF,ak,U,aj,C,ai,ma)=>(MLe mc ma/\((rpP (tLs (k+1)) (rpP rpV (rpS (rpP rpI (rpP rpI (rpQ 1)))))).R ma ak ((l++[t]),(C,([]:List En)))/\RL rpI ma aj LN/\RL (tFc (150*k+700) (200*k+901)) ma ai FF/\C.oneCell'=true/\i<=l.length/\LN=pyL l.length i/\FF=pyT l t i),[(0,vl),(3,vP b3 0),(4,vP b4 0),(6,vI (↑(l).length:Int)),(7,vP b7 0),(9,vP D 0),(10,U),(11,vI ↑i)],[.gs 53 14 C FF.length ai,.gs 3 1 U LN.length aj,.var D 39 ak,.var b7 50 bc,.var b4 39 dk,.var b3 31 dl],ma,l.length-i)) (0,[],[],J,(.slice none 0 0),[],(.slice none 0 0),[],mc) ?_ ?_
 · exact⟨mle,eb,cl,ck,I,zot,I,I⟩
 rintro⟨i,LN,FF,ak,U,aj,C,ai,ma⟩ ⟨ia,aa,ap,ao,go,jm,bg,bh⟩
 refine yY ?_;have jp:LN.length=i:=by rw[bg];exact yW _ _
 have jq:FF.length=i:=by rw[bh];exact yW _ _
 refine gc8 (λep=>?_) λep=>?_
 ·
  have ji:=zA7 (((i:Int):Int):Rat);have jj:=dG (i:Int) oM oM;have jk:=Int.emod_nonneg ((↑i:Int)+1) (b:=(↑l.length:Int)) oM;have hu:=Int.emod_lt_of_pos ((↑i:Int)+1) (b:=(↑l.length:Int)) oM;refine qE ?_;refine zG (zL (ρ:=rpI) (m:=1) (xs:=[(((↑(l).length:Int)-(1:Int))-(↑i:Int))]) (ps':=[(0,_)]) underlying22 jV I I I wQ e2z (zD I (y5e (y5u _) (0:Int) 0 dC) (wM oM oM) zN) zoj nP) I I I ?_
  rintro iq jh ⟨ic,rfl,ea⟩
  refine zQ (A:=[]) (ρ:=rpI) ea ?_;intro h3 ab cf;refine xQ (A:=[_]) (uK (zR (ρ:=rpI) (bytes:=8) underlying22 jV I I I I nP I I ap.up cf bO bO)) I I I ?_
  rintro fc jg ⟨hq,es,rfl,dz⟩
  refine go8 ?_;refine gv (wI I I oM oM) I (go4 ?_);refine zJ 16 _ [(13,(13,50,[.bool false,.slice none 0 0,.slice none 0 0,.bool false,.slice none 0 0,.slice none 0 0,.bool false,.slice none 0 0,.slice none 0 0,.bool false,.slice none 0 0,.slice none 0 0]))] (zai 0 9 [(9,.c),(10,.q),(11,.q),(12,.q),(13,.a),(14,.c),(15,.q)]) zX (jD.cons I I (uM rK I I) jD.nil) (wL zou) (uN I I kF) (λr hr=>hr) (go2 ?_);refine wX I (xI zT i underlying35 zK rl) λip fu=>(wX I (xA zK fu) λio ft=>(go2 ?_));refine wX I (xI zT ((i+1)%l.length) underlying35 zK rl (hi:=by exact zcu _ oM)) λim fs=>(wX I (xA zK fs) λil fr=>(wX I (xB zK pH da) λik fq=>?_));refine w_c I (sC (ev3 I I I) call93 (λw hs=>zBX hs ft fr fq oM) λij h4 am fp=>?_);obtain⟨bp,rfl,ax⟩:=fp
  change (tPl (50*k+200) (200*k+900)).Is h4 bp (thZ (l.getD i zT) (l.getD ((i+1)%l.length) zT) t) at ax
  refine go3 ?_;refine w_a I I (λjs=>?_);have ec:(tPl 1 1).R h4 [.bool false,.slice none 0 0,.slice none 0 0,.bool false,.slice none 0 0,.slice none 0 0,.bool false,.slice none 0 0,.slice none 0 0,.bool false,.slice none 0 0,.slice none 0 0] (zT,(0:Rat)):=(yA (yR (yE dC)) (yE dC));refine w_c I ?_;have bs:=(Le.p (Le.t (Le.q (l:=50*k+200) oM)) (Le.q (l:=200*k+900) oM)).R ec;refine bF (A:=[]) (uB sizeOf50 pH bs ax) (xO zoy) λgu cv=>(go3 ?_);refine qJ (A:=[_]) 15 [] (zai 0 6 [(8,.q),(0,.x [10] [6,7] [9,10]),(11,.c),(12,.c),(13,.c),(14,.q),(15,.t)]) zX nX zou nX (go1 ?_);refine wX I (sN (xB fN (y6u (y6i pH)) aa)) λii fo=>?_;subst fo;refine wX I (xB lW pH cv) λih fm=>(go4 ?_);refine yIF (N:=4) I ?_;refine zE1 I I I I ?x2 ?x3
  case' x2=>
   refine jR (λX=>zL (ρ:=rpI) (m:=3) (xs:=[(↑i:Int),(((↑i:Int)+(1:Int))%(↑(l).length:Int)),(↑(l).length:Int)]) (ps':=[(0,_),(1,_),(2,_)]) underlying22 jV I I I wQ e6 (zD I (y5e (y5u _) (0:Int) 0 dC) (wM oM oM) (zD I (y5e (y5u _) (0:Int) 1 dC) (wM oM oM) (zD I (y5e (y5u _) (0:Int) 2 dC) (wM oM oM) zN))) zoo nP) I ?_
   rintro fb gi ⟨er,rfl,M⟩
   refine zE1 I I I I ?x4 ?x5
   case' x4=>
    refine xY (A:=[]) (ρ:=rpI) M dK ?_;intro h5 bf ce;refine jR (λX=>zL (ρ:=(rpS rpI)) (m:=1) (xs:=[[(↑i:Int),(((↑i:Int)+(1:Int))%(↑(l).length:Int)),(↑(l).length:Int)]]) (ps':=[(0,_)]) underlying51 jF I I I wC e2z (zD I (y5e (y5u _) [] 0 dC) ce zN) zoj nP) I ?_;intro dp eh az;obtain⟨bo,rfl,ac⟩:=az;refine zQB I I (sC (ev1 I) call88 (λw hs=>uA hs oM oM) λdn h6 be aw=>?_);obtain⟨rfl,ba⟩:=kU aw;refine yMN I (aE I (λ_ _=>vN (pa:=([115]:List Nat)) (pb:=(qS (((↑i:Int):Int):Rat))) I I zov) I (zAC ?_));replace ac:=ac.mono be
   case' x5=>
    refine sC (ev1 I) call88 (λw hs=>uA hs oM oM) λdn h5 bf aw=>?_;obtain⟨rfl,ba⟩:=kU aw;refine yG1 I I (aE I (λ_ _=>vN (pa:=([115]:List Nat)) (pb:=(qS (((↑i:Int):Int):Rat))) I I zov) I (zA3 I I ?_));replace M:=M.mono bf;refine xY (A:=[]) (ρ:=rpI) M dK ?_;intro h6 be cd;refine jR (λX=>zL (ρ:=(rpS rpI)) (m:=1) (xs:=[[(↑i:Int),(((↑i:Int)+(1:Int))%(↑(l).length:Int)),(↑(l).length:Int)]]) (ps':=[(0,_)]) underlying51 jF I I I wC e2z (zD I (y5e (y5u _) [] 0 dC) cd zN) zoj nP) I ?_;intro dp eh az;obtain⟨bo,rfl,ac⟩:=az;refine zAC ?_
  case' x3=>
   refine sC (ev1 I) call88 (λw hs=>uA hs oM oM) λdn h5 bf aw=>?_;obtain⟨rfl,ba⟩:=kU aw;refine yG1 I I (aE I (λ_ _=>vN (pa:=([115]:List Nat)) (pb:=(qS (((↑i:Int):Int):Rat))) I I zov) I (zA3 I I (jR (λX=>zL (ρ:=rpI) (m:=3) (xs:=[(↑i:Int),(((↑i:Int)+(1:Int))%(↑(l).length:Int)),(↑(l).length:Int)]) (ps':=[(0,_),(1,_),(2,_)]) underlying22 jV I I I wQ e6 (zD I (y5e (y5u _) (0:Int) 0 dC) (wM oM oM) (zD I (y5e (y5u _) (0:Int) 1 dC) (wM oM oM) (zD I (y5e (y5u _) (0:Int) 2 dC) (wM oM oM) zN))) zoo nP) I ?_)))
   rintro fb gi ⟨er,rfl,M⟩
   refine zA3 I I (xY (A:=[]) (ρ:=rpI) M dK ?_);intro h6 be cc;refine jR (λX=>zL (ρ:=(rpS rpI)) (m:=1) (xs:=[[(↑i:Int),(((↑i:Int)+(1:Int))%(↑(l).length:Int)),(↑(l).length:Int)]]) (ps':=[(0,_)]) underlying51 jF I I I wC e2z (zD I (y5e (y5u _) [] 0 dC) cc zN) zoj nP) I ?_
   rintro dp eh ⟨bo,rfl,ac⟩
   refine zAC ?_
  all_goals
   refine w_c I (xY (A:=[]) (ρ:=(rpS rpI)) ac dK ?_);intro h7 eo cb;refine sX (xV (ρ:=(tFc (50*k+200) (200*k+900))) (xN (ps':=[(0,_),(1,_),(2,_)]) underlying53 jK I I (bT underlying53) e6 I (yA (yA (yR (yE oM)) (yE oM)) (yA wC gS)) (zD I (y6i (y5u _)) fm.up (zD I (y6u (y6i (y5u _))) cb (zD I (y6u (y6u (y5u _))) (bK ((show ByB [115] by unfold ByB;decide).app ba)) zN))))) λig fl=>?_;refine w_c I (jR (λX=>zL (ρ:=(tFc (50*k+200) (200*k+900))) (m:=1) (xs:=[(thZ (l.getD i zT) (l.getD ((i+1)%l.length) zT) t,([[(↑i:Int),(((↑i:Int)+(1:Int))%(↑(l).length:Int)),(↑(l).length:Int)]],(([115]:List Nat)++(qS (((↑i:Int):Int):Rat)))))]) (ps':=[(0,_)]) underlying36 jK I I I (yA (yA (yR (yE oM)) (yE oM)) (yA wC gS)) e2z (zD I (y5e (y5u _) zA 0 dC) fl zN) zom nP) I ?_)
   rintro ie jf ⟨ib,rfl,dy⟩
   refine w_c I (xY (A:=[]) (ρ:=(tFc (50*k+200) (200*k+900))) dy dK ?_);intro h8 gq ca;refine fK (A:=[_]) (λX=>uK (zR (ρ:=(tFc (150*k+700) (200*k+901))) (bytes:=264) underlying36 jK I I I I nP I I ao.up (ca.le (Le.s (Le.p (Le.p (Le.t (Le.q (l:=150*k+700) oM)) (Le.q (l:=200*k+901) oM)) (Le.refl _)))) bO bO)) I (xO zoy) ?_
   rintro ez je ⟨bj,eq,rfl,dx⟩
   refine go1 ?_;refine yG (A:=[_,_,_]) I (uB sizeOf36 (y6u (y6i pH)) aa (eH bj)) λdh cu=>(go8 ?_);refine xK (A:=[]) ?_;refine gqL ((i+1),(LN++[(((↑(l).length:Int)-(1:Int))-(↑i:Int))]),(FF++[(thZ (l.getD i zT) (l.getD ((i+1)%l.length) zT) t,([[(↑i:Int),(((↑i:Int)+(1:Int))%(↑(l).length:Int)),(↑(l).length:Int)]],(([115]:List Nat)++(qS (((↑i:Int):Int):Rat)))))]),dh,fc,es,ez,eq,h8) ?_ ?_
   · exact⟨mle,cu,dz.up,dx,bj,zot,by rw[bg];rfl,by rw[bh];rfl⟩
   omega
 have ei:i=l.length:=by omega
 rw[ei] at bg bh;refine go6 ?_;refine zH1 (A:=[_]) (ρ:=rpI) ap.up ?_;intro h3 ab an;refine qJ (A:=[]) 10 [] [(0,.q),(1,.q),(2,.q),(4,.q),(0,.x [] [3] [5]),(6,.c),(7,.c),(8,.c),(9,.q),(10,.t)] zX nX zou nX (go1 ?_);refine wX I (sN (xB fN (y6u (y6i pH)) aa)) λhn eg=>?_;subst eg;refine wX I (xB lW pH av) λhm bi=>(go1 ?_);refine yIF (N:=2) I ?_;refine zE1 I I I I ?x6 ?x7
 case' x6=>
  refine sC (ev1 I) call76 (λw hs=>zBY hs bi oM oM) λdr h4 am O=>?_;replace O:=Rp.Is.le O (Le.p (Le.t (Le.q (l:=150*k+610) oM)) (Le.q (l:=200*k+901) oM));refine zQB I I (jR (λX=>zL (ρ:=(rpS rpI)) (m:=1) (xs:=[LN]) (ps':=[(0,_)]) underlying51 jF I I I wC e2z (zD I (y5e (y5u _) [] 0 dC) an.up zN) zoj nP) I ?_);intro dq ej dc;obtain⟨dm,rfl,au⟩:=dc;refine zAC ?_
 case' x7=>
  refine jR (λX=>zL (ρ:=(rpS rpI)) (m:=1) (xs:=[LN]) (ps':=[(0,_)]) underlying51 jF I I I wC e2z (zD I (y5e (y5u _) [] 0 dC) an.up zN) zoj nP) I ?_
  rintro dq ej ⟨dm,rfl,au⟩
  refine zA3 I I (sC (ev1 I) call76 (λw hs=>zBY hs bi oM oM) λdr h4 am O=>?_);replace O:=Rp.Is.le O (Le.p (Le.t (Le.q (l:=150*k+610) oM)) (Le.q (l:=200*k+901) oM));refine zAC ?_
 all_goals
  refine w_c I (xY (A:=[]) (ρ:=(rpS rpI)) au.up dK ?_);intro h5 bf bz;refine sX (xV (ρ:=(tFc (150*k+610) (200*k+901))) (xN (ps':=[(0,_),(1,_),(2,_)]) underlying53 jK I I (bT underlying53) e6 I (yA (yA (yR (yE oM)) (yE oM)) (yA wC gS)) (zD I (y6i (y5u _)) O.up (zD I (y6u (y6i (y5u _))) bz (zD I (y6u (y6u (y5u _))) (bK (show ByB [98,97,115,101] by unfold ByB;decide)) zN))))) λhl ef=>?_;refine w_c I (jR (λX=>zL (ρ:=(tFc (150*k+610) (200*k+901))) (m:=1) (xs:=[(opP (thZ (l.getD 0 zT) (l.getD 1 zT) (l.getD 2 zT)),([LN],([98,97,115,101]:List Nat)))]) (ps':=[(0,_)]) underlying36 jK I I I (yA (yA (yR (yE oM)) (yE oM)) (yA wC gS)) e2z (zD I (y5e (y5u _) zA 0 dC) ef zN) zom nP) I ?_)
  rintro hj hp ⟨gx,rfl,co⟩
  refine w_c I (xY (A:=[]) (ρ:=(tFc (150*k+610) (200*k+901))) co dK ?_);intro h6 be bx;refine fK (A:=[]) (λX=>uK (zR (ρ:=(tFc (150*k+700) (200*k+901))) (bytes:=264) underlying36 jK I I I I nP I I ao.up (bx.le (Le.s (Le.p (Le.p (Le.t (Le.q (l:=150*k+700) oM)) (Le.refl _)) (Le.refl _)))) bO bO)) I (xO zoy) ?_
  rintro he ho ⟨de,gw,rfl,cn⟩
  refine go1 ?_;refine yG (A:=[_]) I (uB sizeOf36 (y6u (y6i pH)) aa (eH de)) λbb ae=>(go4 ?_);refine zQ (A:=[]) (ρ:=(tFc (150*k+700) (200*k+901))) cn ?_;intro h7 eo bw;replace ae:=ae.mono eo;have ct:(tSd (k+1) (150*k+700) (200*k+901) 1).R h7 bb (((l++[t]),(C,([]:List En))).1,((FF++[(opP (thZ (l.getD 0 zT) (l.getD 1 zT) (l.getD 2 zT)),([LN],([98,97,115,101]:List Nat)))]),(((l++[t]),(C,([]:List En))).2).2)):=zFZ ae bw;have cq:(tSd (k+1) (150*k+700) (200*k+901) 1).R h7 bb (pyR l t):=Rp.castR ct (by rw[bh,bg];rfl);refine lX (xB jP pH cq) λhb ee=>?_;refine uY (vs:=[_]) I I I I call47 ⟨I,y5i⟩ (λw hs=>zAM hs ee oM oM oM (by first|omega|exact H1.2.2|exact H1.2.1.1)) ?_;intro gz h8 id gq ad;obtain⟨ey,df,ad,rfl,dd,Z⟩:=ad
  change RL (tFc (4*(150*k+700)+12) ((150*k+700)+(200*k+901)+12)) h8 df (nrF (pyR l t)) at Z
  replace ad:=Rp.Is.le ad (Le.p (Le.s (Le.t (Le.q (l:=k+2) oM))) (Le.p (Le.refl _) (Le.s (Le.p (Le.refl _) (Le.p (Le.refl _) (Le.q (l:=2) oM))))));replace Z:=(Le.p (Le.p (Le.t (Le.q (l:=600*k+2812) oM)) (Le.q (l:=350*k+1613) oM)) (Le.refl _)).rl Z;have br:=(Le.p (Le.s (Le.t (Le.q (l:=k+2) oM))) (Le.p (Le.refl _) (Le.s (Le.p (Le.refl _) (Le.p (Le.refl _) (Le.q (l:=2) dC)))))).R fk;refine zP (A:=[_,_,_]) (uB sizeOf39 pH br ad) λgt cp=>(go4 ?_);refine wG (jG (t:=4) jP mh3 I cp) ?_;intro gy bd cj;refine kV (.cons_cons _ (zse _)) (λE S=>qO I bd (gH I) E S) ?_;exact⟨_,_,_,I,(Rp.Is.cast (Rp.Is.le cj (Le.p (Le.refl _) (Le.p (Le.refl _) (Le.s (Le.p (Le.refl _) (Le.p (Le.refl _) (Le.q (l:=6) dC))))))) (by rw[show nrE (pyR l t)=[] from by unfold nrE;split<;>rfl])),I,dd,((Le.p (Le.p (Le.t (Le.q (l:=1000*k+5000) oM)) (Le.q (l:=1000*k+5000) oM)) (Le.refl _)).rl Z)⟩
set_option maxHeartbeats 1000000 in
theorem zLV{w0 w:World}{h0 h:Mem}{b k:Nat}{vl:Value}{xs:List Int}(hl:Is h vl xs)(hk:k<=xs.length){L:List Res}(hs:St w0 h0 (.var b 72 [vl,vI ↑k]::L) h w):
 Calls prog 19 #[vP b 0] w (lQ w0 h0 h L (λg r q'=>∃k':Nat,∃m:Sq,q'=.var b 72 [vl,vI ↑k']/\k'<=xs.length/\yM0 m/\(tSd 2 2 2 1).Is g r m)):=by
 have dc:=hl.lt63;refine qK (n:=57) (e:=[(0,vP b 0)]) (vs:=[vP b 0]) func19 rfl rfl (bL rfl) hs ⟨rfl,y5i⟩ (go2 ?_);refine nA (ρ:=(tSd 1 1 1 1)) (X:=([],([],[]))) qQ (yA wC (yA wC wC)) λb2 fi cl=>(go5 ?_);refine yH (A:=[_]) (vs:=[_,vI (3)]) call13 e2z (λX w hs=>wE hl zow oM oM hs) I ?_;intro v9 g9 q9 cw cn;obtain⟨k9,H,rfl,ey,rfl,bk,bl⟩:=cn;refine go1 ?_;refine yH (A:=[_]) (vs:=[_,vI (3)]) call13 e2z (λX w hs=>wE hl.up zow oM oM hs) I ?_;intro ed fg en ci bz;obtain⟨ew,D,rfl,dl,rfl,ao,ay⟩:=bz;refine go1 ?_;refine yH (A:=[_]) (vs:=[_,vI (3)]) call13 e2z (λX w hs=>wE hl.up zow oM oM hs) I ?_;intro ec ff em ch bx;obtain⟨ev,C,rfl,dk,rfl,an,ax⟩:=bx;refine uR ?_;refine cL (ev3 I I I) call12 (λw hs=>gM hs oM oM oM oM oM oM) λeb h1 cv bj=>?_;replace bj:=Rp.Is.cast (y:=(pI H D C)) bj zo5;refine go3 ?_;refine yH (A:=[_]) (vs:=[_,vI (3)]) call13 e2z (λX w hs=>wE hl.up zow oM oM hs) I ?_;intro ea fe el cg bw;obtain⟨eu,O,rfl,dj,rfl,am,aw⟩:=bw;refine go3 ?_;refine cL (ev3 I I I) call12 (λw hs=>gM hs oM oM oM oM oM oM) λdz h2 cu bi=>?_;replace bi:=Rp.Is.cast (y:=(pI (H+1+O) D C)) bi zo5;refine go2 ?_;refine yH (A:=[_]) (vs:=[_,vI (2)]) call13 e2z (λX w hs=>wE hl.up zow oM oM hs) I ?_;intro dy fd ek cf bv;obtain⟨es,M,rfl,di,rfl,ak,av⟩:=bv;refine go4 ?_;refine yH (A:=[_]) (vs:=[_,vI (3)]) call13 e2z (λX w hs=>wE hl.up zow oM oM hs) I ?_;intro dx fc ej ce bu;obtain⟨er,J,rfl,dh,rfl,aj,au⟩:=bu;refine go2 ?_;refine cL (ev3 I I I) call12 (λw hs=>gM hs oM oM oM oM oM oM) λdw h3 ct bh=>?_;replace bh:=Rp.Is.cast (y:=(pI (H+M) (D+1+J) C)) bh zo5;refine zG (zL (ρ:=(tPt 2)) (m:=3) (xs:=[(pI H D C),(pI (H+1+O) D C),(pI (H+M) (D+1+J) C)]) (ps':=[(0,_),(1,_),(2,_)]) underlying35 yK I I I (yR (yE dC)) e6 (zD I (y5e (y5u _) zT 0 dC) bj.up (zD I (y5e (y5u _) zT 1 dC) bi.up (zD I (y5e (y5u _) zT 2 dC) bh zN))) zol nP) I I I ?_
 rintro dv ei ⟨dm,rfl,bp⟩
 refine go2 ?_;refine yH (A:=[_,_]) (vs:=[_,vI (3)]) call13 e2z (λX w hs=>wE hl.up zow oM oM hs) I ?_;intro du fb eh cd bt;obtain⟨eq,aa,rfl,df,rfl,ai,ar⟩:=bt;refine go3 ?_;refine yH (A:=[_,_]) (vs:=[_,vI (3)]) call13 e2z (λX w hs=>wE hl.up zow oM oM hs) I ?_;intro dt fa eg cc bs;obtain⟨ep,Z,rfl,de,rfl,ah,aq⟩:=bs;refine go4 ?_;refine yH (A:=[_,_]) (vs:=[_,vI (3)]) call13 e2z (λX w hs=>wE hl.up zow oM oM hs) I ?_;intro dr ez ef cb br;obtain⟨eo,U,rfl,dd,rfl,ae,ap⟩:=br;refine go1 ?_;refine cL (ev3 I I I) call12 (λw hs=>gM hs oM oM oM oM oM oM) λdq h4 cq bg=>?_;replace bg:=Rp.Is.cast (y:=(pI (H+aa) (D+Z) (C+1+U))) bg zo5;refine zQ (A:=[]) (ρ:=(tPt 2)) bp.up ?_;intro h5 cp bo;refine uY (vs:=[_,_]) I I I I call52 e2z (λw hs=>zOM hs bo bg.up dC (by first|omega|exact(zQS ⟨bk,bl⟩ ⟨ao,ay⟩ ⟨an,ax⟩ ⟨am,aw⟩ ⟨ak,av⟩ ⟨aj,au⟩ ⟨ai,ar⟩ ⟨ah,aq⟩ ⟨ae,ap⟩).1)) ?_;intro dp h6 fj co ad;obtain⟨ee,da,cj,rfl,ad,rfl,db,ab⟩:=ad
 change RL (tFc (1000*2+5000) (1000*2+5000)) h6 cj (nrF (pyR [(pI H D C),(pI (H+1+O) D C),(pI (H+M) (D+1+J) C)] (pI (H+aa) (D+Z) (C+1+U)))) at ab
 replace ad:=Rp.Is.le ad (Le.p (Le.s (Le.t (Le.q (l:=4) oM))) (Le.refl _));replace ab:=(Le.p (Le.p (Le.t (Le.q (l:=7000) oM)) (Le.q (l:=7000) oM)) (Le.refl _)).rl ab;refine go3 ?_;refine nA (ρ:=(rpP (tLs 1) (rpP rpV (rpS (rpP rpI (rpP rpI (rpQ 1))))))) (X:=([],((Value.slice none 0 0),[]))) qQ (yA wC (yA fD wC)) λb6 fh ck=>?_;have bm:=(Le.p (Le.s (Le.t (Le.q (l:=4) dC))) (Le.p (Le.refl _) (Le.s (Le.p (Le.refl _) (Le.p (Le.refl _) (Le.q (l:=6) dC)))))).R ck;refine zP (A:=[]) (uB sizeOf39 pH bm ad) λaz ac=>(go5 ?_);refine zQ (A:=[_]) (ρ:=(tFc 7000 7000)) ab ?_;intro h7 ca bn;replace ac:=ac.mono ca;have bq:(tSd 4 7000 7000 6).R h7 az (nrP (pyR [(pI H D C),(pI (H+1+O) D C),(pI (H+M) (D+1+J) C)] (pI (H+aa) (D+Z) (C+1+U))),(nrF (pyR [(pI H D C),(pI (H+1+O) D C),(pI (H+M) (D+1+J) C)] (pI (H+aa) (D+Z) (C+1+U))),[])):=zFZ ac bn;have bf:(tSd 4 7000 7000 6).R h7 az (nrP (pyR [(pI H D C),(pI (H+1+O) D C),(pI (H+M) (D+1+J) C)] (pI (H+aa) (D+Z) (C+1+U))),nrF (pyR [(pI H D C),(pI (H+1+O) D C),(pI (H+M) (D+1+J) C)] (pI (H+aa) (D+Z) (C+1+U))),([]:List En)):=Rp.castR bq zo5;have be:(tSd 2 2 2 1).R h7 az (nrP (pyR [(pI H D C),(pI (H+1+O) D C),(pI (H+M) (D+1+J) C)] (pI (H+aa) (D+Z) (C+1+U))),nrF (pyR [(pI H D C),(pI (H+1+O) D C),(pI (H+M) (D+1+J) C)] (pI (H+aa) (D+Z) (C+1+U))),([]:List En)):=zBK bf (zBC (zFA (zQS ⟨bk,bl⟩ ⟨ao,ay⟩ ⟨an,ax⟩ ⟨am,aw⟩ ⟨ak,av⟩ ⟨aj,au⟩ ⟨ai,ar⟩ ⟨ah,aq⟩ ⟨ae,ap⟩).2)).2;refine lX (xB jP pH be) λdn cm=>?_;have bb:=(Le.p (Le.s (Le.t (Le.q (l:=2) dC))) (Le.p (Le.s (Le.p (Le.p (Le.t (Le.q (l:=2) dC)) (Le.q (l:=2) dC)) (Le.refl _))) (Le.refl _))).R cl;refine zP (A:=[_]) (uB sizeOf39 pH bb cm) λcy bd=>(go3 ?_);refine wG (jG (t:=2) jP mh1 I bd) ?_;intro cz ba bc;refine gO (λE S=>zS I ba E S) ?_;exact⟨_,(.cons _ (.cons _ (zmi _))),(((((((((((((((cw.trans ci).trans ch).trans cv).trans cg).trans cu).trans cf).trans ce).trans ct).trans cd).trans cc).trans cb).trans cq).trans cp).trans co).trans ca),_,_,I,zot,(zQS ⟨bk,bl⟩ ⟨ao,ay⟩ ⟨an,ax⟩ ⟨am,aw⟩ ⟨ak,av⟩ ⟨aj,au⟩ ⟨ai,ar⟩ ⟨ah,aq⟩ ⟨ae,ap⟩).2,bc⟩
theorem gL{w0:World}{h0:Mem}(hs:MLe h0 (mem w0)){x:Int}(hx1:-9223372036854775808<=x)(hx2:x<9223372036854775808){y:Int}(hy1:-9223372036854775808<=y)(hy2:y<9223372036854775808){vl:Value}{l:(List Int)}(rl:(rpS rpI).Is h0 vl l)(H0:(-1000<=x/\x<=1000)/\-1000<=y/\y<=1000)(H1:∀q,q∈l-> -1000<=q/\q<=1000)(H2:l.length<=1000):
 y8i 140 #[vI x,vI y,vl] w0 h0 (λh r=>(tLs 2).Is h r (aD x y l)):=by
 refine cb3 36 (vI x) (vI y) vl func140 hs ?_;refine nY ?_;refine xJ 31 9 ?_;have U:=RL.nil (ρ:=rpT (rpQ 2)) (h:=h0);refine gcL (ι:=Nat×List Tq×Value×List Value×Mem) (λ(u,D,C,H,ma)=>(MLe h0 ma/\(RL (tPt 2) ma H D/\(2*u<=l.length+1/\D.length=u)/\D++aD x y (l.drop (2*u))=aD x y l),[(0,vI x),(1,vI y),(2,vl),(7,C),(8,vI (2*↑u))],[.gs 31 9 C D.length H],ma,l.length+2-2*u)) (0,[],(.slice none 0 0),[],h0) ?_ ?_
 · exact⟨mle,U,⟨zot,I⟩,I⟩
 rintro⟨u,D,C,H,ma⟩ ⟨au,J,⟨bi,ap⟩,hD⟩
 refine yY ?_;refine zAY (λab=>?_) λab=>?_
 ·
  have bk:=H1 _ (kJ (d:=0) (show 2*u<l.length by omega));have bj:=H1 _ (kJ (d:=0) (show 2*u+1<l.length by omega));refine go4 ?_;refine qJ (A:=[]) 20 [] (zai 0 7 (zai 8 7 [(7,.c),(15,.c),(16,.c),(17,.c),(18,.c),(19,.q)])) zX nX (wL zou) nX (go4 ?_);refine wX I (xI (0:Int) (2*u) underlying22 ty3 rl) λbf an=>(wX I (xA ty3 an) λbe am=>?_);obtain⟨rfl,aw,ar⟩:=kX am;refine go5 ?_;refine wX I (xI (0:Int) (2*u+1) underlying22 ty3 rl) λbc aj=>(wX I (xA ty3 aj) λbb ai=>?_);obtain⟨rfl,av,aq⟩:=kX ai;refine go1 ?_;refine w_c I (sC (ev1 I) call27 (λw hs=>qP hs oM oM) λbd h1 ao ak=>?_);refine w_c I (sC (ev1 I) call27 (λw hs=>qP hs oM oM) λba h2 bm ah=>?_);refine w_c I (sX (xV (ρ:=(tPt 2)) (xS (ps':=[(0,_),(1,_)]) underlying31 yK I I sizeOf29 e4z I (yR (yE dC)) (zD I (y6e (y5u _)) ak.up (zD I (y7i (y5u _)) ah zN)))) λaz ae=>?_);refine w_c I (jR (λX=>zL (ρ:=(tPt 2)) (m:=1) (xs:=[(T3.mk (((x+(l.getD (2*u) (0:Int))):Int):Rat) (((y+(l.getD (2*u+1) (0:Int))):Int):Rat) (0:Rat))]) (ps':=[(0,_)]) underlying35 yK I I I (yR (yE dC)) e2z (zD I (y5e (y5u _) zT 0 dC) ae zN) zok nP) I ?_)
  rintro ay bh ⟨ax,rfl,aa⟩
  refine w_c I (xY (A:=[]) (ρ:=(tPt 2)) aa dK ?_);intro h3 bl O;refine fK (A:=[]) (λX=>zR (ρ:=(tPt 2)) (bytes:=168) underlying35 yK I I I I nP I I J.up O bO bO) I (xO zoy) ?_
  rintro ad bg ⟨ac,rfl,Z⟩
  refine go9 ?_;refine gqL ((u+1),(D++[(T3.mk (((x+(l.getD (2*u) (0:Int))):Int):Rat) (((y+(l.getD (2*u+1) (0:Int))):Int):Rat) (0:Rat))]),ad,ac,h3) ?_ ?_ (he:=⟨I,I,I,I,zbi (λz=>some (vI z)) oM,y5i⟩)
  · exact⟨mle,Z,⟨zot,by rw[lAz,ap];rfl⟩,yC5 hD oM⟩
  omega
 refine qC ?_;refine wW (A:=[]) (ρ:=(tPt 2)) J.up ?_;intro h1 ao M;refine zC I I ?_;exact(Rp.Is.cast M (by exact yGQ hD oM))
set_option maxHeartbeats 1000000 in
theorem zOU{w0 w:World}{h0 h:Mem}{b k:Nat}{vl:Value}{xs:List Int}(hl:Is h vl xs)(hk:k<=xs.length){L:List Res}(hs:St w0 h0 (.var b 72 [vl,vI ↑k]::L) h w):
 Calls prog 95 #[vP b 0] w (lQ w0 h0 h L (λg r q'=>∃k':Nat,∃m:List (List Tq),q'=.var b 72 [vl,vI ↑k']/\k'<=xs.length/\baP m/\(tLL 2).Is g r m)):=by
 have co:=hl.lt63;refine qK (n:=60) (e:=[(0,vP b 0)]) (vs:=[vP b 0]) func95 rfl rfl (bL rfl) hs ⟨rfl,y5i⟩ (go8 ?_);refine yH (A:=[]) (vs:=[_,vI (2)]) call13 e2z (λX w hs=>wE hl zow oM oM hs) I ?_;intro v6 g6 q6 ak cl;obtain⟨k6,z6,rfl,fg,rfl,D,J⟩:=cl;refine go1 ?_;refine yH (A:=[]) (vs:=[_,vI (2)]) call13 e2z (λX w hs=>wE hl.up zow oM oM hs) I ?_;intro v8 g8 q8 aj ck;obtain⟨k8,z8,rfl,ff,rfl,C,H⟩:=ck;refine go8 ?_;refine yH (A:=[]) (vs:=[_,vI (6)]) call13 e2z (λX w hs=>wE hl.up zow oM oM hs) I ?_;intro ei fk fa ai bu;obtain⟨fe,dj,rfl,cu,rfl,cm,cn⟩:=bu;refine gc9 (λcc=>?_) λcc=>?_
 ·
  refine go4 ?_;refine zG (zL (ρ:=rpI) (m:=12) (xs:=[(0:Int),(0:Int),(2:Int),(0:Int),(2:Int),(1:Int),(1:Int),(1:Int),(1:Int),(2:Int),(0:Int),(2:Int)]) (ps':=[(0,_),(1,_),(2,_),(3,_),(4,_),(5,_),(6,_),(7,_),(8,_),(9,_),(10,_),(11,_)]) underlying22 jV I I I wQ ⟨I,I,I,I,I,I,I,I,I,I,I,I,I,I,I,I,I,I,I,I,I,I,I,I,y5i⟩ (zD I (y5e (y5u _) (0:Int) 0 dC) (wM dC dC) (zD I (y5e (y5u _) (0:Int) 1 dC) (wM dC dC) (zD I (y5e (y5u _) (0:Int) 2 dC) (wM dC dC) (zD I (y5e (y5u _) (0:Int) 3 dC) (wM dC dC) (zD I (y5e (y5u _) (0:Int) 4 dC) (wM dC dC) (zD I (y5e (y5u _) (0:Int) 5 dC) (wM dC dC) (zD I (y5e (y5u _) (0:Int) 6 dC) (wM dC dC) (zD I (y5e (y5u _) (0:Int) 7 dC) (wM dC dC) (zD I (y5e (y5u _) (0:Int) 8 dC) (wM dC dC) (zD I (y5e (y5u _) (0:Int) 9 dC) (wM dC dC) (zD I (y5e (y5u _) (0:Int) 10 dC) (wM dC dC) (zD I (y5e (y5u _) (0:Int) 11 dC) (wM dC dC) zN)))))))))))) (show 12*1<=16777216 from by decide) nP) I I I ?_
  rintro eh ez ⟨di,rfl,bq⟩
  refine zQ (A:=[]) (ρ:=rpI) bq ?_;intro h1 Z be;refine cL (ev3 I I I) call140 (λw hs=>gL hs oM oM oM oM be (by first|omega|exact zce rfl|(intro q M;simp only[zfu,zge,or_false] at M;omega)) (by first|omega|exact zce rfl|(intro q M;simp only[zfu,zge,or_false] at M;omega)) (by first|omega|exact zce rfl|(intro q M;simp only[zfu,zge,or_false] at M;omega))) λeg h2 U cj=>(zG (zL (ρ:=(tLs 2)) (m:=1) (xs:=[aD z6 z8 [(0:Int),(0:Int),(2:Int),(0:Int),(2:Int),(1:Int),(1:Int),(1:Int),(1:Int),(2:Int),(0:Int),(2:Int)]]) (ps':=[(0,_)]) underlying76 aI I I I wC e2z (zD I (y5e (y5u _) [] 0 dC) cj zN) zoj nP) I I I ?_)
  rintro ef ey ⟨dh,rfl,bp⟩
  refine go6 ?_;refine wW (A:=[]) (ρ:=(tLs 2)) bp ?_;intro h3 O bd;refine qB I I ?_;exact⟨_,(zmi _),(((((ak.trans aj).trans ai).trans Z).trans U).trans O),_,_,I,zot,(by first|exact yDR ⟨D,J⟩ ⟨C,H⟩|exact yDQ ⟨D,J⟩ ⟨C,H⟩|exact yDP ⟨D,J⟩ ⟨C,H⟩|exact yDO ⟨D,J⟩ ⟨C,H⟩|exact yDN ⟨D,J⟩ ⟨C,H⟩ ⟨ac,ah⟩ ⟨ab,ae⟩ ⟨aa,ad⟩),bd⟩
 refine gc6 (λcb=>?_) λcb=>?_
 ·
  refine go4 ?_;refine zG (zL (ρ:=rpI) (m:=8) (xs:=[(0:Int),(0:Int),(3:Int),(0:Int),(3:Int),(3:Int),(0:Int),(3:Int)]) (ps':=[(0,_),(1,_),(2,_),(3,_),(4,_),(5,_),(6,_),(7,_)]) underlying22 jV I I I wQ ⟨I,I,I,I,I,I,I,I,I,I,I,I,I,I,I,I,y5i⟩ (zD I (y5e (y5u _) (0:Int) 0 dC) (wM dC dC) (zD I (y5e (y5u _) (0:Int) 1 dC) (wM dC dC) (zD I (y5e (y5u _) (0:Int) 2 dC) (wM dC dC) (zD I (y5e (y5u _) (0:Int) 3 dC) (wM dC dC) (zD I (y5e (y5u _) (0:Int) 4 dC) (wM dC dC) (zD I (y5e (y5u _) (0:Int) 5 dC) (wM dC dC) (zD I (y5e (y5u _) (0:Int) 6 dC) (wM dC dC) (zD I (y5e (y5u _) (0:Int) 7 dC) (wM dC dC) zN)))))))) zop nP) I I I ?_
  rintro ee ew ⟨df,rfl,bo⟩
  refine zQ (A:=[]) (ρ:=rpI) bo ?_;intro h1 Z bc;refine cL (ev3 I I I) call140 (λw hs=>gL hs oM oM oM oM bc (by first|omega|exact zce rfl|(intro q M;simp only[zfu,zge,or_false] at M;omega)) (by first|omega|exact zce rfl|(intro q M;simp only[zfu,zge,or_false] at M;omega)) (by first|omega|exact zce rfl|(intro q M;simp only[zfu,zge,or_false] at M;omega))) λed h2 U ci=>(go2 ?_);refine zG (zL (ρ:=rpI) (m:=8) (xs:=[(1:Int),(1:Int),(1:Int),(2:Int),(2:Int),(2:Int),(2:Int),(1:Int)]) (ps':=[(0,_),(1,_),(2,_),(3,_),(4,_),(5,_),(6,_),(7,_)]) underlying22 jV I I I wQ ⟨I,I,I,I,I,I,I,I,I,I,I,I,I,I,I,I,y5i⟩ (zD I (y5e (y5u _) (0:Int) 0 dC) (wM dC dC) (zD I (y5e (y5u _) (0:Int) 1 dC) (wM dC dC) (zD I (y5e (y5u _) (0:Int) 2 dC) (wM dC dC) (zD I (y5e (y5u _) (0:Int) 3 dC) (wM dC dC) (zD I (y5e (y5u _) (0:Int) 4 dC) (wM dC dC) (zD I (y5e (y5u _) (0:Int) 5 dC) (wM dC dC) (zD I (y5e (y5u _) (0:Int) 6 dC) (wM dC dC) (zD I (y5e (y5u _) (0:Int) 7 dC) (wM dC dC) zN)))))))) zop nP) I I I ?_
  rintro ec ev ⟨de,rfl,bn⟩
  refine zQ (A:=[]) (ρ:=rpI) bn ?_;intro h3 O aw;refine cL (ev3 I I I) call140 (λw hs=>gL hs oM oM oM oM aw (by first|omega|exact zce rfl|(intro q M;simp only[zfu,zge,or_false] at M;omega)) (by first|omega|exact zce rfl|(intro q M;simp only[zfu,zge,or_false] at M;omega)) (by first|omega|exact zce rfl|(intro q M;simp only[zfu,zge,or_false] at M;omega))) λeb h4 ay ch=>(zG (zL (ρ:=(tLs 2)) (m:=2) (xs:=[aD z6 z8 [(0:Int),(0:Int),(3:Int),(0:Int),(3:Int),(3:Int),(0:Int),(3:Int)],aD z6 z8 [(1:Int),(1:Int),(1:Int),(2:Int),(2:Int),(2:Int),(2:Int),(1:Int)]]) (ps':=[(0,_),(1,_)]) underlying76 aI I I I wC e4z (zD I (y5e (y5u _) [] 0 dC) ci.up (zD I (y5e (y5u _) [] 1 dC) ch zN)) zoq nP) I I I ?_)
  rintro ea eu ⟨dd,rfl,bm⟩
  refine go6 ?_;refine wW (A:=[]) (ρ:=(tLs 2)) bm ?_;intro h5 ax av;refine qB I I ?_;exact⟨_,(zmi _),(((((((ak.trans aj).trans ai).trans Z).trans U).trans O).trans ay).trans ax),_,_,I,zot,(by first|exact yDR ⟨D,J⟩ ⟨C,H⟩|exact yDQ ⟨D,J⟩ ⟨C,H⟩|exact yDP ⟨D,J⟩ ⟨C,H⟩|exact yDO ⟨D,J⟩ ⟨C,H⟩|exact yDN ⟨D,J⟩ ⟨C,H⟩ ⟨ac,ah⟩ ⟨ab,ae⟩ ⟨aa,ad⟩),av⟩
 refine gc6 (λca=>?_) λca=>?_
 ·
  refine go4 ?_;refine zG (zL (ρ:=rpI) (m:=8) (xs:=[(0:Int),(0:Int),(3:Int),(0:Int),(3:Int),(3:Int),(0:Int),(3:Int)]) (ps':=[(0,_),(1,_),(2,_),(3,_),(4,_),(5,_),(6,_),(7,_)]) underlying22 jV I I I wQ ⟨I,I,I,I,I,I,I,I,I,I,I,I,I,I,I,I,y5i⟩ (zD I (y5e (y5u _) (0:Int) 0 dC) (wM dC dC) (zD I (y5e (y5u _) (0:Int) 1 dC) (wM dC dC) (zD I (y5e (y5u _) (0:Int) 2 dC) (wM dC dC) (zD I (y5e (y5u _) (0:Int) 3 dC) (wM dC dC) (zD I (y5e (y5u _) (0:Int) 4 dC) (wM dC dC) (zD I (y5e (y5u _) (0:Int) 5 dC) (wM dC dC) (zD I (y5e (y5u _) (0:Int) 6 dC) (wM dC dC) (zD I (y5e (y5u _) (0:Int) 7 dC) (wM dC dC) zN)))))))) zop nP) I I I ?_
  rintro dz es ⟨dc,rfl,bl⟩
  refine zQ (A:=[]) (ρ:=rpI) bl ?_;intro h1 Z au;refine cL (ev3 I I I) call140 (λw hs=>gL hs oM oM oM oM au (by first|omega|exact zce rfl|(intro q M;simp only[zfu,zge,or_false] at M;omega)) (by first|omega|exact zce rfl|(intro q M;simp only[zfu,zge,or_false] at M;omega)) (by first|omega|exact zce rfl|(intro q M;simp only[zfu,zge,or_false] at M;omega))) λdy h2 U cg=>(go2 ?_);refine zG (zL (ρ:=rpI) (m:=6) (xs:=[(1:Int),(1:Int),(0:Int),(0:Int),(1:Int),(2:Int)]) (ps':=[(0,_),(1,_),(2,_),(3,_),(4,_),(5,_)]) underlying22 jV I I I wQ e12 (zD I (y5e (y5u _) (0:Int) 0 dC) (wM dC dC) (zD I (y5e (y5u _) (0:Int) 1 dC) (wM dC dC) (zD I (y5e (y5u _) (0:Int) 2 dC) (wM dC dC) (zD I (y5e (y5u _) (0:Int) 3 dC) (wM dC dC) (zD I (y5e (y5u _) (0:Int) 4 dC) (wM dC dC) (zD I (y5e (y5u _) (0:Int) 5 dC) (wM dC dC) zN)))))) zor nP) I I I ?_
  rintro dx er ⟨db,rfl,bk⟩
  refine zQ (A:=[]) (ρ:=rpI) bk ?_;intro h3 O ar;refine cL (ev3 I I I) call140 (λw hs=>gL hs oM oM oM oM ar (by first|omega|exact zce rfl|(intro q M;simp only[zfu,zge,or_false] at M;omega)) (by first|omega|exact zce rfl|(intro q M;simp only[zfu,zge,or_false] at M;omega)) (by first|omega|exact zce rfl|(intro q M;simp only[zfu,zge,or_false] at M;omega))) λdw h4 ay cf=>(zG (zL (ρ:=(tLs 2)) (m:=2) (xs:=[aD z6 z8 [(0:Int),(0:Int),(3:Int),(0:Int),(3:Int),(3:Int),(0:Int),(3:Int)],aD z6 z8 [(1:Int),(1:Int),(0:Int),(0:Int),(1:Int),(2:Int)]]) (ps':=[(0,_),(1,_)]) underlying76 aI I I I wC e4z (zD I (y5e (y5u _) [] 0 dC) cg.up (zD I (y5e (y5u _) [] 1 dC) cf zN)) zoq nP) I I I ?_)
  rintro dv eq ⟨da,rfl,bj⟩
  refine go6 ?_;refine wW (A:=[]) (ρ:=(tLs 2)) bj ?_;intro h5 ax aq;refine qB I I ?_;exact⟨_,(zmi _),(((((((ak.trans aj).trans ai).trans Z).trans U).trans O).trans ay).trans ax),_,_,I,zot,(by first|exact yDR ⟨D,J⟩ ⟨C,H⟩|exact yDQ ⟨D,J⟩ ⟨C,H⟩|exact yDP ⟨D,J⟩ ⟨C,H⟩|exact yDO ⟨D,J⟩ ⟨C,H⟩|exact yDN ⟨D,J⟩ ⟨C,H⟩ ⟨ac,ah⟩ ⟨ab,ae⟩ ⟨aa,ad⟩),aq⟩
 refine gc6 (λbz=>?_) λbz=>?_
 ·
  refine go4 ?_;refine zG (zL (ρ:=rpI) (m:=10) (xs:=[(0:Int),(0:Int),(1:Int),(0:Int),(2:Int),(0:Int),(2:Int),(2:Int),(0:Int),(1:Int)]) (ps':=[(0,_),(1,_),(2,_),(3,_),(4,_),(5,_),(6,_),(7,_),(8,_),(9,_)]) underlying22 jV I I I wQ ⟨I,I,I,I,I,I,I,I,I,I,I,I,I,I,I,I,I,I,I,I,y5i⟩ (zD I (y5e (y5u _) (0:Int) 0 dC) (wM dC dC) (zD I (y5e (y5u _) (0:Int) 1 dC) (wM dC dC) (zD I (y5e (y5u _) (0:Int) 2 dC) (wM dC dC) (zD I (y5e (y5u _) (0:Int) 3 dC) (wM dC dC) (zD I (y5e (y5u _) (0:Int) 4 dC) (wM dC dC) (zD I (y5e (y5u _) (0:Int) 5 dC) (wM dC dC) (zD I (y5e (y5u _) (0:Int) 6 dC) (wM dC dC) (zD I (y5e (y5u _) (0:Int) 7 dC) (wM dC dC) (zD I (y5e (y5u _) (0:Int) 8 dC) (wM dC dC) (zD I (y5e (y5u _) (0:Int) 9 dC) (wM dC dC) zN)))))))))) (show 10*1<=16777216 from by decide) nP) I I I ?_
  rintro du ep ⟨cz,rfl,bi⟩
  refine zQ (A:=[]) (ρ:=rpI) bi ?_;intro h1 Z ap;refine cL (ev3 I I I) call140 (λw hs=>gL hs oM oM oM oM ap (by first|omega|exact zce rfl|(intro q M;simp only[zfu,zge,or_false] at M;omega)) (by first|omega|exact zce rfl|(intro q M;simp only[zfu,zge,or_false] at M;omega)) (by first|omega|exact zce rfl|(intro q M;simp only[zfu,zge,or_false] at M;omega))) λdt h2 U ce=>(zG (zL (ρ:=(tLs 2)) (m:=1) (xs:=[aD z6 z8 [(0:Int),(0:Int),(1:Int),(0:Int),(2:Int),(0:Int),(2:Int),(2:Int),(0:Int),(1:Int)]]) (ps':=[(0,_)]) underlying76 aI I I I wC e2z (zD I (y5e (y5u _) [] 0 dC) ce zN) zoj nP) I I I ?_)
  rintro dr eo ⟨cy,rfl,bh⟩
  refine go6 ?_;refine wW (A:=[]) (ρ:=(tLs 2)) bh ?_;intro h3 O ao;refine qB I I ?_;exact⟨_,(zmi _),(((((ak.trans aj).trans ai).trans Z).trans U).trans O),_,_,I,zot,(by first|exact yDR ⟨D,J⟩ ⟨C,H⟩|exact yDQ ⟨D,J⟩ ⟨C,H⟩|exact yDP ⟨D,J⟩ ⟨C,H⟩|exact yDO ⟨D,J⟩ ⟨C,H⟩|exact yDN ⟨D,J⟩ ⟨C,H⟩ ⟨ac,ah⟩ ⟨ab,ae⟩ ⟨aa,ad⟩),ao⟩
 refine go8 ?_;refine yH (A:=[]) (vs:=[_,vI (3)]) call13 e2z (λX w hs=>wE hl.up zow oM oM hs) I ?_;intro dq fj en bx bt;obtain⟨fd,bb,rfl,ct,rfl,ac,ah⟩:=bt;refine gv (yD (p:=1) I I oM oM) I (go1 ?_);refine yH (A:=[]) (vs:=[_,vI (2)]) call13 e2z (λX w hs=>wE hl.up zow oM oM hs) I ?_;intro dp fi em bw bs;obtain⟨fc,ba,rfl,cq,rfl,ab,ae⟩:=bs;refine go1 ?_;refine yH (A:=[]) (vs:=[_,vI (2)]) call13 e2z (λX w hs=>wE hl.up zow oM oM hs) I ?_;intro dn fh el bv br;obtain⟨fb,az,rfl,cp,rfl,aa,ad⟩:=br;refine gv (yD (p:=1) I I oM oM) I (zG (zL (ρ:=rpI) (m:=6) (xs:=[(0:Int),(0:Int),((1:Int)+bb),(0:Int),ba,((1:Int)+az)]) (ps':=[(0,_),(1,_),(2,_),(3,_),(4,_),(5,_)]) underlying22 jV I I I wQ e12 (zD I (y5e (y5u _) (0:Int) 0 dC) (wM dC dC) (zD I (y5e (y5u _) (0:Int) 1 dC) (wM dC dC) (zD I (y5e (y5u _) (0:Int) 2 dC) (wM oM oM) (zD I (y5e (y5u _) (0:Int) 3 dC) (wM dC dC) (zD I (y5e (y5u _) (0:Int) 4 dC) (wM oM oM) (zD I (y5e (y5u _) (0:Int) 5 dC) (wM oM oM) zN)))))) zor nP) I I I ?_)
 rintro dm ek ⟨cw,rfl,bg⟩
 refine zQ (A:=[]) (ρ:=rpI) bg ?_;intro h1 Z an;refine cL (ev3 I I I) call140 (λw hs=>gL hs oM oM oM oM an (by first|omega|exact zce rfl|(intro q M;simp only[zfu,zge,or_false] at M;omega)) (by first|omega|exact zce rfl|(intro q M;simp only[zfu,zge,or_false] at M;omega)) (by first|omega|exact zce rfl|(intro q M;simp only[zfu,zge,or_false] at M;omega))) λdl h2 U cd=>(zG (zL (ρ:=(tLs 2)) (m:=1) (xs:=[aD z6 z8 [(0:Int),(0:Int),((1:Int)+bb),(0:Int),ba,((1:Int)+az)]]) (ps':=[(0,_)]) underlying76 aI I I I wC e2z (zD I (y5e (y5u _) [] 0 dC) cd zN) zoj nP) I I I ?_)
 rintro dk ej ⟨cv,rfl,bf⟩
 refine go4 ?_;refine wW (A:=[]) (ρ:=(tLs 2)) bf ?_;intro h3 O am;refine qB I I ?_;exact⟨_,(zmi _),((((((((ak.trans aj).trans ai).trans bx).trans bw).trans bv).trans Z).trans U).trans O),_,_,I,zot,(by first|exact yDR ⟨D,J⟩ ⟨C,H⟩|exact yDQ ⟨D,J⟩ ⟨C,H⟩|exact yDP ⟨D,J⟩ ⟨C,H⟩|exact yDO ⟨D,J⟩ ⟨C,H⟩|exact yDN ⟨D,J⟩ ⟨C,H⟩ ⟨ac,ah⟩ ⟨ab,ae⟩ ⟨aa,ad⟩),am⟩
set_option maxHeartbeats 1000000 in
theorem zLX{w0 w:World}{h0 h:Mem}{b k:Nat}{vl:Value}{xs:List Int}(hl:Is h vl xs)(hk:k<=xs.length){L:List Res}(hs:St w0 h0 (.var b 72 [vl,vI ↑k]::L) h w):
 Calls prog 58 #[vP b 0] w (lQ w0 h0 h L (λg r q'=>∃k':Nat,∃m:Sq,q'=.var b 72 [vl,vI ↑k']/\k'<=xs.length/\zIP m/\(tSd 2 2 2 1).Is g r m)):=by
 have bm:=hl.lt63;refine qK (n:=23) (e:=[(0,vP b 0)]) (vs:=[vP b 0]) func58 rfl rfl (bL rfl) hs ⟨rfl,y5i⟩ (go2 ?_);refine nA (ρ:=(tSd 1 1 1 1)) (X:=([],([],[]))) qQ (yA wC (yA wC wC)) λb2 cf az=>(go5 ?_);refine yH (A:=[_]) (vs:=[_,vI (2)]) call13 e2z (λX w hs=>wE hl zow oM oM hs) I ?_;intro v7 g7 q7 bh bd;obtain⟨k7,O,rfl,cb,rfl,Z,aa⟩:=bd;refine go6 ?_;refine yH (A:=[_]) (vs:=[_]) call95 ⟨I,y5i⟩ (λX w hs=>zOU hl.up zow hs) I ?_;intro bu cd bx aw ad;obtain⟨ca,M,rfl,bo,H,ad⟩:=ad;refine go1 ?_;refine cL (ev1 I) call27 (λw hs=>qP hs oM oM) λbt h1 bg bc=>(go3 ?_);refine yH (A:=[_]) (vs:=[_,vI (2)]) call13 e2z (λX w hs=>wE hl.up zow oM oM hs) I ?_;intro bs cc bw av ar;obtain⟨bz,J,rfl,bn,rfl,C,D⟩:=ar;refine go1 ?_;refine cL (ev1 I) call27 (λw hs=>qP hs oM oM) λbr h2 bf bb=>?_;refine uY (vs:=[_,_,_]) I I I I call46 e3z (λw hs=>zJ1 hs ad.up bc.up bb dC dC dC (by first|omega|exact(zDE H ⟨Z,aa⟩ ⟨C,D⟩).1.1|exactλ_=>(zDE H ⟨Z,aa⟩ ⟨C,D⟩).1.2.2) (by first|omega|exact(zDE H ⟨Z,aa⟩ ⟨C,D⟩).1.1|exactλ_=>(zDE H ⟨Z,aa⟩ ⟨C,D⟩).1.2.2)) ?_;intro bq h3 cg be ac;obtain⟨bv,bk,ax,rfl,ac,rfl,bl,U⟩:=ac
 change RL (tFc (1000*2+1000*2+1000*2+2000) (1000*2+1000*2+1000*2+2000)) h3 ax (prF M ((O:Int):Rat) ((((O+(1:Int))+J):Int):Rat)) at U
 replace ac:=Rp.Is.le ac (Le.p (Le.s (Le.t (Le.q (l:=26) oM))) (Le.refl _));replace U:=(Le.p (Le.p (Le.t (Le.q (l:=8000) oM)) (Le.q (l:=8000) oM)) (Le.refl _)).rl U;refine go3 ?_;refine nA (ρ:=(rpP (tLs 1) (rpP rpV (rpS (rpP rpI (rpP rpI (rpQ 1))))))) (X:=([],((Value.slice none 0 0),[]))) qQ (yA wC (yA fD wC)) λb4 ce ay=>?_;have an:=(Le.p (Le.s (Le.t (Le.q (l:=26) dC))) (Le.p (Le.refl _) (Le.s (Le.p (Le.refl _) (Le.p (Le.refl _) (Le.q (l:=5) dC)))))).R ay;refine zP (A:=[]) (uB sizeOf39 pH an ac) λae ab=>(go5 ?_);refine zQ (A:=[_]) (ρ:=(tFc 8000 8000)) U ?_;intro h4 au ao;replace ab:=ab.mono au;have aq:(tSd 26 8000 8000 5).R h4 ae (prP M ((O:Int):Rat) ((((O+(1:Int))+J):Int):Rat),(prF M ((O:Int):Rat) ((((O+(1:Int))+J):Int):Rat),[])):=zFZ ab ao;have ap:(tSd 26 8000 8000 5).R h4 ae (prP M ((O:Int):Rat) ((O+1+J:Int):Rat),prF M ((O:Int):Rat) ((O+1+J:Int):Rat),([]:List En)):=Rp.castR aq zo5;have am:(tSd 2 2 2 1).R h4 ae (prP M ((O:Int):Rat) ((O+1+J:Int):Rat),prF M ((O:Int):Rat) ((O+1+J:Int):Rat),([]:List En)):=zBK ap (zBC (zDE H ⟨Z,aa⟩ ⟨C,D⟩).2).2;refine lX (xB jP pH am) λbp ba=>?_;have ai:=(Le.p (Le.s (Le.t (Le.q (l:=2) dC))) (Le.p (Le.s (Le.p (Le.p (Le.t (Le.q (l:=2) dC)) (Le.q (l:=2) dC)) (Le.refl _))) (Le.refl _))).R az;refine zP (A:=[_]) (uB sizeOf39 pH ai ba) λbi ak=>(go3 ?_);refine wG (jG (t:=2) jP mh1 I ak) ?_;intro bj ah aj;refine gO (λE S=>zS I ah E S) ?_;exact⟨_,(.cons _ (.cons _ (zmi _))),((((((bh.trans aw).trans bg).trans av).trans bf).trans be).trans au),_,_,I,zot,(zDE H ⟨Z,aa⟩ ⟨C,D⟩).2,aj⟩
set_option maxHeartbeats 1000000 in
theorem zLW{w0 w:World}{h0 h:Mem}{b k:Nat}{vl:Value}{xs:List Int}(hl:Is h vl xs)(hk:k<=xs.length){L:List Res}(hs:St w0 h0 (.var b 72 [vl,vI ↑k]::L) h w):
 Calls prog 24 #[vP b 0] w (lQ w0 h0 h L (λg r q'=>∃k':Nat,∃m:Sq,q'=.var b 72 [vl,vI ↑k']/\k'<=xs.length/\zIP m/\(tSd 2 2 2 1).Is g r m)):=by
 have az:=hl.lt63;refine qK (n:=15) (e:=[(0,vP b 0)]) (vs:=[vP b 0]) func24 rfl rfl (bL rfl) hs ⟨rfl,y5i⟩ (go2 ?_);refine nA (ρ:=(tSd 1 1 1 1)) (X:=([],([],[]))) qQ (yA wC (yA wC wC)) λb2 bu ab=>(go6 ?_);refine yH (A:=[_]) (vs:=[_,vI (5)]) call13 e2z (λX w hs=>wE hl zow oM oM hs) I ?_;intro v4 g4 q4 ai ar;obtain⟨k4,z4,rfl,br,rfl,bo,bp⟩:=ar;refine gc9 (λaw=>?_) λaw=>?_
 ·
  refine go3 ?_;refine yH (A:=[_]) (vs:=[_]) call57 ⟨I,y5i⟩ (λX w hs=>zRX hl.up zow hs) I ?_;intro v8 g8 q8 au ah;obtain⟨k8,p8,rfl,bq,ac,ah⟩:=ah;have ak:=(Le.p (Le.s (Le.t (Le.q (l:=2) dC))) (Le.p (Le.s (Le.p (Le.p (Le.t (Le.q (l:=2) dC)) (Le.q (l:=2) dC)) (Le.refl _))) (Le.refl _))).R ab;refine zP (A:=[]) (uB sizeOf39 pH ak ah) λbd ao=>(go5 ?_);refine wG (jG (t:=2) jP mh0 I ao) ?_;intro bf ae am;refine gO (λE S=>zS I ae E S) ?_;exact⟨_,(.cons _ (zmi _)),(ai.trans au),_,_,I,zot,(by first|exact ac|exact D|exact zFA C),am⟩
 refine gc6 (λav=>?_) λav=>?_
 ·
  refine go3 ?_;refine yH (A:=[_]) (vs:=[_]) call58 ⟨I,y5i⟩ (λX w hs=>zLX hl.up zow hs) I ?_;intro bh bt bj aq J;obtain⟨bn,bl,rfl,bb,D,J⟩:=J;have aj:=(Le.p (Le.s (Le.t (Le.q (l:=2) dC))) (Le.p (Le.s (Le.p (Le.p (Le.t (Le.q (l:=2) dC)) (Le.q (l:=2) dC)) (Le.refl _))) (Le.refl _))).R ab;refine zP (A:=[]) (uB sizeOf39 pH aj J) λbc an=>(go5 ?_);refine wG (jG (t:=2) jP mh0 I an) ?_;intro be ad Z;refine gO (λE S=>zS I ad E S) ?_;exact⟨_,(.cons _ (zmi _)),(ai.trans aq),_,_,I,zot,(by first|exact ac|exact D|exact zFA C),Z⟩
 refine go6 ?_;refine yH (A:=[_]) (vs:=[_]) call19 ⟨I,y5i⟩ (λX w hs=>zLV hl.up zow hs) I ?_;intro bg bs bi ap H;obtain⟨bm,bk,rfl,ba,C,H⟩:=H;have O:=(Le.p (Le.s (Le.t (Le.q (l:=2) dC))) (Le.p (Le.s (Le.p (Le.p (Le.t (Le.q (l:=2) dC)) (Le.q (l:=2) dC)) (Le.refl _))) (Le.refl _))).R ab;refine zP (A:=[]) (uB sizeOf39 pH O H) λax aa=>(go3 ?_);refine wG (jG (t:=2) jP mh0 I aa) ?_;intro ay M U;refine gO (λE S=>zS I M E S) ?_;exact⟨_,(.cons _ (zmi _)),(ai.trans ap),_,_,I,zot,(by first|exact ac|exact D|exact zFA C),U⟩
theorem zPC{w0 w:World}{h0 h:Mem}{b k0 k m n j:Nat}{vl:Value}{xs:List Int}(hl:Is h vl xs)(hk:k0<=xs.length){vs:Value}{s:Sd}(rs:(tSd k m n j).Is h vs s)(H0:0<s.1.length)(H1:s.1.length<=1000)(H2:2<=k/\k<=1000){L:List Res}(hs:St w0 h0 (.var b 72 [vl,vI ↑k0]::L) h w):
 Calls prog 25 #[vP b 0,vs] w (lQ w0 h0 h L (λg r q'=>∃k':Nat,∃m:T3 Rat,q'=.var b 72 [vl,vI ↑k']/\k'<=xs.length/\(tPt (13*k+33)).Is g r m)):=by
 have df:=hl.lt63;refine qK (n:=55) (e:=[(0,vP b 0),(1,vs)]) (vs:=[vP b 0,vs]) func25 rfl rfl (bL rfl) hs e2z (go2 ?_);refine nB rs λb3 fu U=>(nA (ρ:=(tPt 2)) (X:=zT) yK (yR (yE dC)) λb4 ft O=>(go3 ?_));refine qJ (A:=[_,_]) 22 [(18,(5,31,y7e)),(19,(6,31,y7e))] (zai 0 6 (zai 9 6 [(6,.c),(7,.q),(8,.q),(15,.c),(16,.q),(17,.q),(18,.a),(19,.a),(20,.c),(21,.c)])) zX (jD.cons I I (uM yK I I) (jD.cons I I (uM yK I I) jD.nil)) (wL zou) (uN I I (uN I I kF)) (go1 ?_);refine wX I (xB uQ (y6i pH) U) λv8 r8=>(go2 ?_);refine wX I (xB uQ (y6i pH) U) λez ck=>(w_q I (λh' L' hh hR=>jN underlying35 I (ck.mono hh)) I (go1 ?_));refine wX I (xB uQ (y6i pH) U) λeu ch=>(go2 ?_);refine wX I (xB uQ (y6i pH) U) λes cg=>(w_q I (λh' L' hh hR=>jN underlying35 I (cg.mono hh)) I ?_);refine w_c I ?_;refine oO (A:=[_,_]) (vs:=[_,_]) call13 e2z (λX w hs=>wE hl zow oM oM hs) I (xO zoy) ?_;intro ey fs ff J bi;obtain⟨fm,br,rfl,dm,rfl,cy,dd⟩:=bi;refine wX I (xI zT br.toNat underlying35 zK r8) λew cj=>(wX I (xA zK cj) λev ci=>?_);refine w_c I ?_;refine oO (A:=[_,_]) (vs:=[_,_]) call13 e2z (λX w hs=>wE hl.up zow oM oM hs) I (xO zoy) ?_;intro er bp fe H bh;obtain⟨fl,bq,rfl,dl,rfl,cw,dc⟩:=bh;refine wX I (xI zT bq.toNat underlying35 zK ch) λeq cf=>(wX I (xA zK cf) λep ce=>?_);refine w_a I I (λb5=>?_);have bt:(tPt k).R bp y7e zT:=(yR (yE oM));refine w_a I I (λb6=>?_);have bs:(tPt k).R bp y7e zT:=(yR (yE oM));refine w_c I (bF (A:=[_]) (uB sizeOf31 pH bt ci) (xO yoa) λdq C=>?_);refine w_c I (bF (A:=[]) (uB sizeOf31 pH bs ce) (xO yoa) λdp ac=>(go6 ?_));refine yH (A:=[_,_,_,_]) (vs:=[_,vI (5)]) call13 e2z (λX w hs=>wE hl.up zow oM oM hs) I ?_;intro eo fr fd D bg;obtain⟨fk,du,rfl,dk,rfl,cv,db⟩:=bg;refine gc9 (λbo=>?_) λbo=>?_
 ·
  refine go2 ?_;refine lX (xB zK pH C) λen cd=>?_;have bb:=(Le.t (Le.q (l:=k+2) oM)).R O;refine zP (A:=[_,_]) (uB sizeOf31 pH bb (cd.le (Le.t (Le.q (l:=k+2) oM)))) λdn bd=>(go5 ?_);refine wG (jG (t:=4) zK mh2 I bd) ?_;intro dv aw bc;refine gO (λE S=>zS I aw E S) ?_;exact⟨_,(.cons _ (.cons _ (.cons _ (.cons _ (zmi _))))),((J.trans H).trans D),_,_,I,zot,(Rp.Is.le bc (Le.t (Le.q (l:=13*k+33) oM)))⟩
 refine gc6 (λbn=>?_) λbn=>?_
 ·
  refine go1 ?_;refine qJ (A:=[_,_,_,_]) 9 [] [(0,.q),(1,.q),(4,.q),(5,.q),(2,.c),(3,.c),(6,.c),(7,.c),(8,.c),(9,.t)] zX nX zou nX (wX I (xB zK pH C) λem cc=>(go1 ?_));refine wX I (xB zK pH ac) λej ca=>(wX I (xB zK pH C) λei bz=>?_);refine w_c I ?_;refine oO (A:=[_,_,_,_]) (vs:=[_,vI (99)]) call13 e2z (λX w hs=>wE hl.up zow oM oM hs) I (xO zoy) ?_;intro el fq fc bl bf;obtain⟨fj,dt,rfl,dj,rfl,cu,da⟩:=bf;refine w_c I (sC (ev1 I) call59 (λw hs=>zOQ hs oM oM) λek h1 ba cb=>?_);refine w_c I (sC (ev2 I I) call22 (λw hs=>mV hs ca.up bz.up oM) λeh h2 az av=>?_);replace av:=Rp.Is.le av (Le.t (Le.q (l:=2*k+1) oM));refine w_c I (sC (ev2 I I) call20 (λw hs=>pJ hs cb.up av oM) λeg h3 ay au=>?_);replace au:=Rp.Is.le au (Le.t (Le.q (l:=2*k+3) oM));refine w_c I (sC (ev2 I I) call14 (λw hs=>zGZ hs cc.up au oM) λef h4 ax ar=>?_);replace ar:=Rp.Is.le ar (Le.t (Le.q (l:=3*k+4) oM));have ae:=(Le.t (Le.q (l:=3*k+4) oM)).R O;refine yG (A:=[_,_]) I (uB sizeOf31 pH ae ar) λcn an=>(go5 ?_);refine wG (jG (t:=4) zK mh2 I an) ?_;intro cq ab aj;refine gO (λE S=>zS I ab E S) ?_;exact⟨_,(.cons _ (.cons _ (.cons _ (.cons _ (zmi _))))),(((((((J.trans H).trans D).trans bl).trans ba).trans az).trans ay).trans ax),_,_,I,zot,(Rp.Is.le aj (Le.t (Le.q (l:=13*k+33) oM)))⟩
 refine gc6 (λbm=>?_) λbm=>?_
 ·
  refine go1 ?_;refine qJ (A:=[_,_,_,_]) 10 [] [(0,.q),(1,.q),(5,.q),(6,.q),(2,.c),(3,.q),(4,.c),(7,.c),(8,.c),(9,.c),(10,.t)] zX nX zou nX (wX I (xB zK pH C) λee bx=>(go1 ?_));refine wX I (xB zK pH ac) λeb bv=>(wX I (xB zK pH C) λea bu=>?_);refine w_c I ?_;refine oO (A:=[_,_,_,_]) (vs:=[_,vI (9)]) call13 e2z (λX w hs=>wE hl.up zow oM oM hs) I (xO zoy) ?_;intro ed fp fb bk be;obtain⟨fi,dr,rfl,di,rfl,ct,cz⟩:=be;refine go1 ?_;refine w_c I (sC (vs:=[_,vI (2)]) e2z call21 (λw hs=>dE hs oM oM dC dC) λec h1 ba bw=>?_);refine w_c I (sC (ev2 I I) call22 (λw hs=>mV hs bv.up bu.up oM) λdz h2 az aq=>?_);replace aq:=Rp.Is.le aq (Le.t (Le.q (l:=2*k+1) oM));refine w_c I (sC (ev2 I I) call20 (λw hs=>pJ hs bw.up aq oM) λdy h3 ay ap=>?_);replace ap:=Rp.Is.le ap (Le.t (Le.q (l:=2*k+3) oM));refine w_c I (sC (ev2 I I) call14 (λw hs=>zGZ hs bx.up ap oM) λdx h4 ax ao=>?_);replace ao:=Rp.Is.le ao (Le.t (Le.q (l:=3*k+4) oM));have ad:=(Le.t (Le.q (l:=3*k+4) oM)).R O;refine yG (A:=[_,_]) I (uB sizeOf31 pH ad ao) λcm am=>(go5 ?_);refine wG (jG (t:=4) zK mh2 I am) ?_;intro cp aa ai;refine gO (λE S=>zS I aa E S) ?_;exact⟨_,(.cons _ (.cons _ (.cons _ (.cons _ (zmi _))))),(((((((J.trans H).trans D).trans bk).trans ba).trans az).trans ay).trans ax),_,_,I,zot,(Rp.Is.le ai (Le.t (Le.q (l:=13*k+33) oM)))⟩
 refine go6 ?_;refine yH (A:=[_,_,_,_]) (vs:=[_]) call16 ⟨I,y5i⟩ (λX w hs=>zET hl.up zow hs) I ?_;intro dw fo fa bj M;obtain⟨fh,fg,rfl,dh,de,M⟩:=M;refine zP (A:=[_,_]) (uB sizeOf31 pH O M) λcl ak=>(go3 ?_);refine wG (jG (t:=4) zK mh2 I ak) ?_;intro co Z ah;refine gO (λE S=>zS I Z E S) ?_;exact⟨_,(.cons _ (.cons _ (.cons _ (.cons _ (zmi _))))),(((J.trans H).trans D).trans bj),_,_,I,zot,(Rp.Is.le ah (Le.t (Le.q (l:=13*k+33) oM)))⟩
end Go.Proofs.YtpkaegemlpaenaaGreat
namespace Bk
open Classical
def yIR(P:Rat->Prop):Prop:=∀x,(P x->0<=x)/\(¬P x->x<=0)
def kq(P:Rat->Prop)(a b m n:Rat):Int:=if(¬P a/\P b)/\(0<m/\n<0) then 1 else if(P a/\¬P b)/\(m<0/\0<n) then -1 else 0
def ndR(ai aj ak bi bj bk:Rat):Prop:=∀s:Rat,0<=s->s<=1->ai+s*(bi-ai)=0->aj+s*(bj-aj)=0->¬0<=ak+s*(bk-ak)
def zML(p:Prop):Int:=if p then 1 else 0
def zeS(a b:Rat):Rat:=a/(a-b)
theorem zXR{a b:Rat}(h:(a<=0/\0<=b)\/(b<=0/\0<=a))(hne:a≠b):0<=zeS a b/\zeS a b<=1/\a+zeS a b*(b-a)=0:=by
 have hd:a-b≠0:=λe=>hne zo0;have e:zeS a b*(a-b)=a:=by unfold zeS;grind
 generalize zeS a b=s at *;have C:a-b<0\/0<a-b:=by grind
 refine⟨?_,?_,zo0⟩
 · refine Rat.not_lt.1 λhs=>?_
   rcases C with t|t
   · have:=uD (show 0< -s by grind) (show 0< -(a-b) by grind)
     grind
   · have:=uD (show 0< -s by grind) t
     grind
 · refine Rat.not_lt.1 λhs=>?_
   rcases C with t|t
   · have:=uD (show 0<s-1 by grind) (show 0< -(a-b) by grind)
     grind
   · have:=uD (show 0<s-1 by grind) t
     grind
theorem vJ{d y:Rat}(hd:0<d):0<d*y↔0<y:=by
 constructor
 · intro h
   refine Rat.not_le.1 λe=>?_;have:=yki e (zee hd);grind
 · exact uD hd
def atS(a b s:Rat):Rat:=a+s*(b-a)
theorem yOJ{a b s:Rat}(h0:0<=s)(h1:s<=1)(ha:0<=a)(hb:0<=b):0<=atS a b s:=by
 have D:=zod h0 hb;have C:=zod (show 0<=1-s by grind) ha;unfold atS;grind
theorem yL8{a b s:Rat}(h0:0<=s)(h1:s<=1)(ha:a<=0)(hb:b<=0):atS a b s<=0:=by
 have D:=zod h0 (show 0<= -b by grind);have C:=zod (show 0<=1-s by grind) (show 0<= -a by grind);unfold atS;grind
theorem yOI{a b s:Rat}(hab:a<b):(0<atS a b s↔zeS a b<s)/\(atS a b s=0↔zeS a b=s):=by
 have e:zeS a b*(a-b)=a:=by unfold zeS;have:a-b≠0:=λe=>zo0;grind
 have C:atS a b s=(b-a)*(s-zeS a b):=by unfold atS;grind
 rw[C,vJ (show 0<b-a by grind)];refine⟨by constructor<;>intro h<;>grind,λh=>?_,λh=>by rw[h];grind⟩
 rcases zoe.1 h with h|h<;>grind
theorem yOK{a b s:Rat}(hab:b<a):(0<atS a b s↔s<zeS a b)/\(atS a b s=0↔zeS a b=s):=by
 have e:zeS a b*(a-b)=a:=by unfold zeS;have:a-b≠0:=λe=>zo0;grind
 have C:atS a b s=(a-b)*(zeS a b-s):=by unfold atS;grind
 rw[C,vJ (show 0<a-b by grind)];refine⟨by constructor<;>intro h<;>grind,λh=>?_,λh=>by rw[h];grind⟩
 rcases zoe.1 h with h|h<;>grind
section
variable {P:Rat->Prop}(hP:yIR P)
include hP
theorem yBK{a1 a2 a3 b1 b2 b3:Rat}(h:¬P a3/\P b3):a3<b3/\kq P a3 b3 (a2*b3-a3*b2) (a3*b1-a1*b3)=zML (0<atS a1 b1 (zeS a3 b3)/\0<atS a2 b2 (zeS a3 b3)):=by
 have h1:=(hP a3).2 h.1;have h2:=(hP b3).1 h.2;have J:a3≠b3:=λe=>h.1 (e▸h.2);have C:a3<b3:=by grind
 refine⟨C,?_⟩;have hz:zeS a3 b3*(a3-b3)=a3:=by unfold zeS;have:a3-b3≠0:=λe=>zo0;grind
 have O:a2*b3-a3*b2=(b3-a3)*atS a2 b2 (zeS a3 b3):=by unfold atS;grind
 have M:-(a3*b1-a1*b3)=(b3-a3)*atS a1 b1 (zeS a3 b3):=by unfold atS;grind
 have H:0<a2*b3-a3*b2↔0<atS a2 b2 (zeS a3 b3):=by rw[O,vJ (show 0<b3-a3 by grind)]
 have D:a3*b1-a1*b3<0↔0<atS a1 b1 (zeS a3 b3):=by rw[<-vJ (show 0<b3-a3 by grind),<-M];constructor<;>intro h<;>grind
 unfold kq zML
 by_cases c:0<atS a1 b1 (zeS a3 b3)/\0<atS a2 b2 (zeS a3 b3)
 · rw[zau c,zau ⟨h,H.2 c.2,D.2 c.1⟩]
 · rw[zae c,zae (λe=>c ⟨D.1 e.2.2,H.1 e.2.1⟩),zae λe=>h.1 e.1.1]
theorem yBM{a1 a2 a3 b1 b2 b3:Rat}(h:P a3/\¬P b3):b3<a3/\kq P a3 b3 (a2*b3-a3*b2) (a3*b1-a1*b3)= -zML (0<atS a1 b1 (zeS a3 b3)/\0<atS a2 b2 (zeS a3 b3)):=by
 have h1:=(hP b3).2 h.2;have h2:=(hP a3).1 h.1;have J:a3≠b3:=λe=>h.2 (e▸h.1);have C:b3<a3:=by grind
 refine⟨C,?_⟩;have hz:zeS a3 b3*(a3-b3)=a3:=by unfold zeS;have:a3-b3≠0:=λe=>zo0;grind
 have O:-(a2*b3-a3*b2)=(a3-b3)*atS a2 b2 (zeS a3 b3):=by unfold atS;grind
 have M:a3*b1-a1*b3=(a3-b3)*atS a1 b1 (zeS a3 b3):=by unfold atS;grind
 have H:a2*b3-a3*b2<0↔0<atS a2 b2 (zeS a3 b3):=by rw[<-vJ (show 0<a3-b3 by grind),<-O];constructor<;>intro h<;>grind
 have D:0<a3*b1-a1*b3↔0<atS a1 b1 (zeS a3 b3):=by rw[M,vJ (show 0<a3-b3 by grind)]
 unfold kq zML;rw[zae λe=>e.1.1 h.1]
 by_cases c:0<atS a1 b1 (zeS a3 b3)/\0<atS a2 b2 (zeS a3 b3)
 · rw[zau c,zau ⟨h,H.2 c.2,D.2 c.1⟩]
 · rw[zae c,zae λe=>c ⟨D.1 e.2.2,H.1 e.2.1⟩];rfl
omit hP in
theorem zT1{a b m n:Rat}(h:P a↔P b):kq P a b m n=0:=by
 unfold kq;rw[zae (λe=>e.1.1 (h.2 e.1.2)),zae λe=>e.1.2 (h.1 e.1.1)]
theorem zED{a b s:Rat}(h0:0<=s)(h1:s<=1):(¬P a/\P b->(0<atS a b s↔zeS a b<s)/\(atS a b s=0↔zeS a b=s))/\(P a/\¬P b->(0<atS a b s↔s<zeS a b)/\(atS a b s=0↔zeS a b=s))/\(P a/\P b->0<=atS a b s)/\(¬P a/\¬P b->atS a b s<=0):=by
 have ha:=hP a;have C:=hP b;refine⟨λh=>yOI ?_,λh=>yOK ?_,λh=>yOJ h0 h1 (ha.1 h.1) (C.1 h.2),λh=>yL8 h0 h1 (ha.2 h.1) (C.2 h.2)⟩
 · have D:a≠b:=λe=>h.1 (e▸h.2)
   have:=ha.2 h.1;have:=C.1 h.2;grind
 · have D:a≠b:=λe=>h.2 (e▸h.1)
   have:=ha.1 h.1;have:=C.2 h.2;grind
theorem zQA{a b:Rat}(h:(¬P a/\P b)\/(P a/\¬P b)):0<=zeS a b/\zeS a b<=1/\atS a b (zeS a b)=0:=by
 have ha:=hP a;have D:=hP b;have C:a≠b:=λe=>by rcases h with h|h<;>rw[e] at h<;>grind
 refine zXR ?_ C
 rcases h with h|h
 · exact .inl ⟨ha.2 h.1,D.1 h.2⟩
 · exact .inr ⟨D.2 h.2,ha.1 h.1⟩
theorem yBL{a1 a2 a3 b1 b2 b3:Rat}(n1:ndR a2 a3 a1 b2 b3 b1)(n2:ndR a3 a1 a2 b3 b1 b2)(n3:ndR a1 a2 a3 b1 b2 b3):
 kq P a3 b3 (a2*b3-a3*b2) (a3*b1-a1*b3)+kq P a1 b1 (a3*b1-a1*b3) (a1*b2-a2*b1)+kq P a2 b2 (a1*b2-a2*b1) (a2*b3-a3*b2)=zML (P b1/\P b2/\P b3)-zML (P a1/\P a2/\P a3):=by
 have u1:=yBK hP (a1:=a2) (a2:=a3) (a3:=a1) (b1:=b2) (b2:=b3) (b3:=b1);have u2:=yBK hP (a1:=a3) (a2:=a1) (a3:=a2) (b1:=b3) (b2:=b1) (b3:=b2);have u3:=yBK hP (a1:=a1) (a2:=a2) (a3:=a3) (b1:=b1) (b2:=b2) (b3:=b3);have d1:=yBM hP (a1:=a2) (a2:=a3) (a3:=a1) (b1:=b2) (b2:=b3) (b3:=b1);have d2:=yBM hP (a1:=a3) (a2:=a1) (a3:=a2) (b1:=b3) (b2:=b1) (b3:=b2);have d3:=yBM hP (a1:=a1) (a2:=a2) (a3:=a3) (b1:=b1) (b2:=b2) (b3:=b3);have o1:=zT1 (P:=P) (a:=a1) (b:=b1) (m:=a3*b1-a1*b3) (n:=a1*b2-a2*b1);have o2:=zT1 (P:=P) (a:=a2) (b:=b2) (m:=a1*b2-a2*b1) (n:=a2*b3-a3*b2);have o3:=zT1 (P:=P) (a:=a3) (b:=b3) (m:=a2*b3-a3*b2) (n:=a3*b1-a1*b3);have z1:=zQA hP (a:=a1) (b:=b1);have z2:=zQA hP (a:=a2) (b:=b2);have z3:=zQA hP (a:=a3) (b:=b3);have O:=λh0 h1=>zED hP (a:=a2) (b:=b2) (s:=zeS a1 b1) h0 h1;have M:=λh0 h1=>zED hP (a:=a3) (b:=b3) (s:=zeS a1 b1) h0 h1;have J:=λh0 h1=>zED hP (a:=a1) (b:=b1) (s:=zeS a2 b2) h0 h1;have H:=λh0 h1=>zED hP (a:=a3) (b:=b3) (s:=zeS a2 b2) h0 h1;have D:=λh0 h1=>zED hP (a:=a1) (b:=b1) (s:=zeS a3 b3) h0 h1;have C:=λh0 h1=>zED hP (a:=a2) (b:=b2) (s:=zeS a3 b3) h0 h1;have aa:(0<=zeS a1 b1/\zeS a1 b1<=1/\atS a1 b1 (zeS a1 b1)=0)->(atS a2 b2 (zeS a1 b1)=0->¬0<=atS a3 b3 (zeS a1 b1))/\(atS a3 b3 (zeS a1 b1)=0->¬0<=atS a2 b2 (zeS a1 b1)):=λh=>⟨λe=>n3 _ h.1 h.2.1 h.2.2 e,λe=>n2 _ h.1 h.2.1 e h.2.2⟩;have Z:(0<=zeS a2 b2/\zeS a2 b2<=1/\atS a2 b2 (zeS a2 b2)=0)->(atS a3 b3 (zeS a2 b2)=0->¬0<=atS a1 b1 (zeS a2 b2))/\(atS a1 b1 (zeS a2 b2)=0->¬0<=atS a3 b3 (zeS a2 b2)):=λh=>⟨λe=>n1 _ h.1 h.2.1 h.2.2 e,λe=>n3 _ h.1 h.2.1 e h.2.2⟩;have U:(0<=zeS a3 b3/\zeS a3 b3<=1/\atS a3 b3 (zeS a3 b3)=0)->(atS a1 b1 (zeS a3 b3)=0->¬0<=atS a2 b2 (zeS a3 b3))/\(atS a2 b2 (zeS a3 b3)=0->¬0<=atS a1 b1 (zeS a3 b3)):=λh=>⟨λe=>n2 _ h.1 h.2.1 h.2.2 e,λe=>n1 _ h.1 h.2.1 e h.2.2⟩;generalize kq P a1 b1 (a3*b1-a1*b3) (a1*b2-a2*b1)=K1 at *;generalize kq P a2 b2 (a1*b2-a2*b1) (a2*b3-a3*b2)=K2 at *;generalize kq P a3 b3 (a2*b3-a3*b2) (a3*b1-a1*b3)=K3 at *;generalize zeS a1 b1=t1 at *;generalize zeS a2 b2=t2 at *;generalize zeS a3 b3=t3 at *;generalize atS a2 b2 t1=y12 at *;generalize atS a3 b3 t1=y13 at *;generalize atS a1 b1 t2=y21 at *;generalize atS a3 b3 t2=y23 at *;generalize atS a1 b1 t3=y31 at *;generalize atS a2 b2 t3=y32 at *
 clear n1 n2 n3
 generalize P a1=A1 at *;generalize P a2=A2 at *;generalize P a3=A3 at *;generalize P b1=B1 at *;generalize P b2=B2 at *;generalize P b3=B3 at *;unfold zML at *
 by_cases cA1:A1<;>by_cases cB1:B1<;>by_cases cA2:A2<;>by_cases cB2:B2<;>by_cases cA3:A3<;>by_cases cB3:B3<;>
  simp only[cA1,cB1,cA2,cB2,cA3,cB3,not_true_eq_false,not_false_eq_true,true_and,and_true,false_and,and_false,and_self,false_or,or_false,forall_const,true_implies,false_implies,implies_true,if_true,if_false,iff_true,iff_false] at *<;>grind
end
def kp(d e A B:Pt):Int:=kq (λx=>0<x) (yB A d e) (yB B d e) (yB A B d) (yB A B e)
def mtR(A B d:Pt):Prop:=∃s l:Rat,0<=s/\s<=1/\0<=l/\wV A (scT s (yJ B A))=scT l d
theorem yMX:yIR λx=>0<x:=λx=>⟨λh=>zee h,λh=>Rat.not_lt.1 h⟩
theorem yMY:yIR λx=>0<=x:=λx=>⟨λh=>h,λh=>by grind⟩
theorem yK5{P:Rat->Prop}{a b m n m' n':Rat}(h1:0<m↔0<m')(h2:n<0↔n'<0)(h3:m<0↔m'<0)(h4:0<n↔0<n'):kq P a b m n=kq P a b m' n':=by
 unfold kq
 by_cases c1:(¬P a/\P b)/\(0<m/\n<0)
 · rw[zau c1,zau ⟨c1.1,h1.1 c1.2.1,h2.1 c1.2.2⟩]
 · rw[zae c1,zae (c:=(¬P a/\P b)/\(0<m'/\n'<0)) λe=>c1 ⟨e.1,h1.2 e.2.1,h2.2 e.2.2⟩]
   by_cases c2:(P a/\¬P b)/\(m<0/\0<n)
   · rw[zau c2,zau ⟨c2.1,h3.1 c2.2.1,h4.1 c2.2.2⟩]
   · rw[zae c2,zae (c:=(P a/\¬P b)/\(m'<0/\0<n')) λe=>c2 ⟨e.1,h3.2 e.2.1,h4.2 e.2.2⟩]
theorem zMF{a b m n r:Rat}(hr:0<r):kq (λx=>0<x) a b (r*m) (r*n)=kq (λx=>0<x) a b m n:=by
 have J:=vJ (y:=m) hr;have H:=vJ (y:=n) hr;have D:r*m<0↔m<0:=by have:=vJ (y:=-m) hr;constructor<;>intro h<;>grind
 have C:r*n<0↔n<0:=by have:=vJ (y:=-n) hr;constructor<;>intro h<;>grind
 exact yK5 J C D H
theorem zSH{a b m n r:Rat}(hr:r<0):kq (λx=>0<=x) (-a) (-b) (r*m) (r*n)= -kq (λx=>0<x) a b m n:=by
 have C:0< -r:=by grind
 have U:0<r*m↔m<0:=by have:=vJ (y:=-m) C;constructor<;>intro h<;>grind
 have O:0<r*n↔n<0:=by have:=vJ (y:=-n) C;constructor<;>intro h<;>grind
 have M:r*m<0↔0<m:=by have:=vJ (y:=m) C;constructor<;>intro h<;>grind
 have J:r*n<0↔0<n:=by have:=vJ (y:=n) C;constructor<;>intro h<;>grind
 have H:0<= -a↔¬0<a:=by constructor<;>intro h<;>grind
 have D:0<= -b↔¬0<b:=by constructor<;>intro h<;>grind
 unfold kq;simp only[U,O,M,J,H,D,zfi]
 by_cases c1:0<a/\¬0<b
 · have c2:¬(¬0<a/\0<b):=λe=>e.1 c1.1
   simp only[c1,c2,not_true_eq_false,not_false_eq_true,and_self,true_and,false_and,and_false,if_false]
   split<;>rfl
 · by_cases c2:¬0<a/\0<b
   · simp only[c2,not_true_eq_false,not_false_eq_true,and_self,true_and,false_and,and_false,if_false]
     split<;>rfl
   · simp only[c1,c2,false_and,if_false];rfl
section
variable (A B d e g:Pt)
theorem pl_1:yB A g d*yB B d e-yB A d e*yB B g d=yB d e g*yB A B d:=by
 unfold yB zF zO;grind
theorem pl_2:yB A d e*yB B e g-yB A e g*yB B d e=yB d e g*yB A B e:=by
 unfold yB zF zO;grind
theorem pl_3:yB A e g*yB B g d-yB A g d*yB B e g=yB d e g*yB A B g:=by
 unfold yB zF zO;grind
theorem zD3(s:Rat):yB (wV A (scT s (yJ B A))) d e=yB A d e+s*(yB B d e-yB A d e):=by
 unfold yB zF zO wV scT yJ;grind
theorem yLS(Y:Pt):scT (yB d e g) Y=wV (wV (scT (yB Y e g) d) (scT (yB Y g d) e)) (scT (yB Y d e) g):=by
 unfold yB zF zO wV scT
 congr 1<;>grind
end
theorem zZH{d e g Y:Pt}(hD:yB d e g≠0)(h2:yB Y g d=0)(h3:yB Y d e=0):Y=scT (yB Y e g/yB d e g) d:=by
 have h:=yLS d e g Y;rw[h2,h3] at h;generalize yB d e g=D at *;generalize yB Y e g=t at *;rw[qZ] at h ⊢;obtain⟨J,H,C⟩:=h;unfold scT wV at *;simp only at J H C ⊢;exact⟨zo0,zo0,zo0⟩
theorem yAX{A B d e g:Pt}(hD:yB d e g≠0)(hn:¬mtR A B d):(0<yB d e g->ndR (yB A g d) (yB A d e) (yB A e g) (yB B g d) (yB B d e) (yB B e g))/\(yB d e g<0->ndR (-yB A g d) (-yB A d e) (-yB A e g) (-yB B g d) (-yB B d e) (-yB B e g)):=by
 constructor
 · intro C s h0 h1 M J H
   refine hn ⟨s,_,h0,h1,?_,zZH (Y:=wV A (scT s (yJ B A))) hD ?_ ?_⟩
   · rw[zD3]
     generalize yB A e g+s*(yB B e g-yB A e g)=t at *;rw[y0i];exact zod H (zee (Rat.inv_pos.2 C))
   · rw[zD3];exact M
   · rw[zD3];exact J
 · intro C s h0 h1 M J H
   refine hn ⟨s,_,h0,h1,?_,zZH (Y:=wV A (scT s (yJ B A))) hD ?_ ?_⟩
   · rw[zD3]
     have U:0<= -(yB A e g+s*(yB B e g-yB A e g)):=by grind
     generalize yB A e g+s*(yB B e g-yB A e g)=t at *;generalize yB d e g=D at *;have O:t/D*D=t:=by grind
     refine Rat.not_lt.1 λh=>?_;have:=uD (show 0< -(t/D) by grind) (show 0< -D by grind);grind
   · rw[zD3];grind
   · rw[zD3];grind
def zWC(d e g X:Pt):Int:=if 0<yB d e g then zML (0<yB X e g/\0<yB X g d/\0<yB X d e) else -zML (0<= -yB X e g/\0<= -yB X g d/\0<= -yB X d e)
theorem yK6{A B d e g:Pt}(hD:yB d e g≠0)(h1:¬mtR A B d)(h2:¬mtR A B e)(h3:¬mtR A B g):kp d e A B+kp e g A B+kp g d A B=zWC d e g B-zWC d e g A:=by
 have r1:yB e g d=yB d e g:=by unfold yB zF zO;grind
 have r2:yB g d e=yB d e g:=by unfold yB zF zO;grind
 have U:=yAX hD h1;have H:=yAX (r1▸hD) h2;have D:=yAX (r2▸hD) h3;rw[r1] at H;rw[r2] at D;have O:=pl_1 A B d e g;have M:=pl_2 A B d e g;have J:=pl_3 A B d e g;have C:0<yB d e g\/yB d e g<0:=by grind
 unfold zWC
 rcases C with hp|hp
 · have h:=yBL yMX (U.1 hp) (H.1 hp) (D.1 hp)
   rw[O,M,J,zMF hp,zMF hp,zMF hp] at h;rw[zau hp,zau hp];exact h
 · have Z:¬0<yB d e g:=λe=>by grind
   have h:=yBL yMY (U.2 hp) (H.2 hp) (D.2 hp);have m:∀x y:Rat,-x*-y=x*y:=λx y=>by grind
   rw[m,m,m,m,m,m,O,M,J,zSH hp,zSH hp,zSH hp] at h;rw[zae Z,zae Z];unfold kp;omega
abbrev EL:=List (Pt×Pt)
def kE(d e:Pt):EL->Int
  |[]=>0
  |x::r=>kp d e x.1 x.2+kE d e r
def dfE(f:Pt->Int):EL->Int
  |[]=>0
  |x::r=>f x.2-f x.1+dfE f r
def zCS(E:EL):Prop:=∀f:Pt->Int,dfE f E=0
def iE(E:EL)(d:Pt):Prop:=∀x,x∈E->¬mtR x.1 x.2 d
def zMN(N:Pt)(h:Rat)(E:EL):Prop:=∀x,x∈E->zF N x.1=h/\zF N x.2=h
theorem zFO{d e:Pt}:∀{E:EL},(∀x,x∈E->kp d e x.1 x.2=0)->kE d e E=0
  |[],_=>rfl
  |x::r,h=>by
   show kp d e x.1 x.2+kE d e r=0
   rw[h x (.head _),zFO λy hy=>h y (.tail _ hy)];rfl
theorem zHU{d e d' e':Pt}{m:Pt->Pt}:∀{E:EL},(∀x,x∈E->kp d e x.1 x.2=kp d' e' (m x.1) (m x.2))->kE d e E=kE d' e' (E.map λx=>(m x.1,m x.2))
  |[],_=>rfl
  |x::r,h=>by
   show kp d e x.1 x.2+kE d e r=kp d' e' (m x.1) (m x.2)+kE d' e' (r.map _)
   rw[h x (.head _),zHU λy hy=>h y (.tail _ hy)]
theorem bJ(d e:Pt):∀E F:EL,kE d e (E++F)=kE d e E+kE d e F
  |[],F=>by show _=0+_;rw[yxe];rfl
  |x::r,F=>by
   show kp d e x.1 x.2+kE d e (r++F)=kp d e x.1 x.2+kE d e r+_
   rw[bJ d e r F];omega
theorem yBO{d e g:Pt}(hD:yB d e g≠0){E:EL}(hc:zCS E)(h1:iE E d)(h2:iE E e)(h3:iE E g):kE d e E+kE e g E+kE g d E=0:=by
 have aux:∀E:EL,iE E d->iE E e->iE E g->kE d e E+kE e g E+kE g d E=dfE (zWC d e g) E:=by
  intro E
  induction E with
  |nil=>intro _ _ _;rfl
  |cons x r ih=>
   intro h1 h2 h3;have:=yK6 hD (h1 x (.head _)) (h2 x (.head _)) (h3 x (.head _));have:=ih (λy hy=>h1 y (.tail _ hy)) (λy hy=>h2 y (.tail _ hy)) (λy hy=>h3 y (.tail _ hy))
   show kp d e x.1 x.2+kE d e r+(kp e g x.1 x.2+kE e g r)+(kp g d x.1 x.2+kE g d r)=zWC d e g x.2-zWC d e g x.1+dfE _ r
   omega
 rw[aux E h1 h2 h3];exact hc _
theorem zS7(x:Rat):0<=x*x:=by
 rcases(show x<=0\/0<=x by grind) with h|h
 · have:=zod (show 0<= -x by grind) (show 0<= -x by grind);grind
 · exact zod h h
theorem q5{N:Pt}(h:N≠zT):0<zF N N:=by
 obtain⟨x,y,z⟩:=N;have h1:=zS7 x;have h2:=zS7 y;have h3:=zS7 z;unfold zF;refine Rat.not_le.1 λe=>h ?_;have C:∀t:Rat,t*t=0->t=0:=λt e=>(zoe.1 e).elim id id;have J:=C x zo0;have H:=C y zo0;have D:=C z zo0;rw[J,H,D]
theorem sD{N:Pt}(h:N≠zT):zF N N≠0:=λe=>absurd (q5 h) (by rw[e];decide)
section
variable {N A B e e' d:Pt}{h:Rat}
theorem zM1(he:zF N e=0)(he':zF N e'=0):zF N N*yB A e e'=zF N A*yB N e e':=by
 have:zF N N*yB A e e'-zF N A*yB N e e'=zF N e'*zF (zO N A) e-zF N e*zF (zO N A) e':=by
  unfold yB zF zO;grind
 rw[he,he'] at this;grind
theorem yCX(hN:N≠zT)(he:zF N e=0)(he':zF N e'=0)(hA:zF N A=h)(hB:zF N B=h):yB A e e'=yB B e e':=by
 have h1:=zM1 (A:=A) he he';have h2:=zM1 (A:=B) he he';rw[hA] at h1;rw[hB,<-h1] at h2;have h3:=sD hN;generalize zF N N=n at *;have C:n*(yB B e e'-yB A e e')=0:=by grind
 have:=(zoe.1 C).resolve_left h3;grind
theorem zT2(hN:N≠zT)(he:zF N e=0)(he':zF N e'=0)(hA:zF N A=h)(hB:zF N B=h):kp e e' A B=0:=by
 unfold kp;rw[yCX hN he he' hA hB];exact zT1 Iff.rfl
theorem zH9(s:Rat):zF N (wV A (scT s (yJ B A)))=zF N A+s*(zF N B-zF N A):=by
 unfold zF wV scT yJ;grind
theorem zH8(l:Rat):zF N (scT l d)=l*zF N d:=by unfold zF scT;grind
theorem yHG(hA:zF N A=h)(hB:zF N B=h)(hm:mtR A B d):∃l,0<=l/\h=l*zF N d:=by
 obtain⟨s,l,h0,h1,C,e⟩:=hm;have:=zbi (zF N) e;rw[zH9,zH8,hA,hB] at this;exact⟨l,C,zo0⟩
end
theorem zL5{N e:Pt}{h:Rat}{E:EL}(hE:zMN N h E)(hh:h≠0)(he:zF N e=0):iE E e:=λx hx hm=>by
 obtain⟨l,_,e1⟩:=yHG (hE x hx).1 (hE x hx).2 hm;rw[he,ywe] at e1;exact hh e1
theorem zMG{N e e':Pt}{h:Rat}{E:EL}(hN:N≠zT)(hE:zMN N h E)(he:zF N e=0)(he':zF N e'=0):kE e e' E=0:=zFO λx hx=>zT2 hN he he' (hE x hx).1 (hE x hx).2
section
variable {N d e e':Pt}{h:Rat}{E:EL}(hN:N≠zT)(hc:zCS E)(hE:zMN N h E)(hh:h≠0)(hd:iE E d)
include hN hc hE hh hd
theorem zDT(hcd:zF N d≠0)(he:zF N e=0)(he':zF N e'=0)(hi:yB N e e'≠0):kE d e E= -kE e' d E:=by
 have C:yB d e e'≠0:=λe0=>by
  have:=zM1 (A:=d) he he';rw[e0,ywe] at this;exact(zoe.1 this.symm).elim hcd hi
 have h1:=yBO C hc hd (zL5 hE hh he) (zL5 hE hh he');have h2:=zMG hN hE he he';omega
omit hc hE hh hd in
theorem yG6(he:zF N e=0)(he':zF N e'=0)(z:e≠zT)(z':e'≠zT):∃g,zF N g=0/\yB N e g≠0/\yB N e' g≠0:=by
 by_cases hi:yB N e e'=0
 · refine⟨zO N e,by unfold zF zO;grind,?_,?_⟩
   · have:yB N e (zO N e)=zF N N*zF e e-zF N e*zF N e:=by unfold yB zF zO;grind
     rw[this,he];intro e0;have:zF N N*zF e e=0:=by grind
     exact(zoe.1 this).elim (sD hN) (sD z)
   · have h1:yB N e' (zO N e)=zF N N*zF e e'-zF N e*zF N e':=by unfold yB zF zO;grind
     rw[h1,he,y3u];intro e0;have h2:zF e e'=0:=(zoe.1 (show zF N N*zF e e'=0 by grind)).resolve_left (sD hN);have h3:zF N N*(zF e e*zF e' e'-zF e e'*zF e e')=yB N e e'*yB N e e'+(zF N e*(zF N e*zF e' e'-zF N e'*zF e e')+zF N e'*(zF N e'*zF e e-zF N e*zF e e')):=by unfold yB zF zO;grind
     rw[h2,hi,he,he'] at h3;have C:zF N N*(zF e e*zF e' e')=0:=by grind
     rcases zoe.1 C with h|h
     · exact sD hN h
     · exact(zoe.1 h).elim (sD z) (sD z')
 · refine⟨wV e e',by unfold zF wV at *;grind,?_,?_⟩
   · have:yB N e (wV e e')=yB N e e':=by unfold yB zF zO wV;grind
     rw[this];exact hi
   · have:yB N e' (wV e e')= -yB N e e':=by unfold yB zF zO wV;grind
     rw[this];intro e0;exact hi zo0
theorem zAW(hcd:zF N d≠0)(he:zF N e=0)(he':zF N e'=0)(z:e≠zT)(z':e'≠zT):kE d e E=kE d e' E/\kE e' d E= -kE d e E:=by
 obtain⟨g,C,H,J⟩:=yG6 hN he he' z z';have a1:=zDT hN hc hE hh hd hcd he C H;have a2:=zDT hN hc hE hh hd hcd he' C J;have i3:yB N g e'≠0:=by
  have:yB N g e'= -yB N e' g:=by unfold yB zF zO;grind
  rw[this];intro e0;exact J zo0
 have Z:yB N g e≠0:=by
  have:yB N g e= -yB N e g:=by unfold yB zF zO;grind
  rw[this];intro e0;exact H zo0
 have a3:=zDT hN hc hE hh hd hcd C he' i3;have M:g≠zT:=λe0=>H (by rw[e0];unfold yB zF zO;grind);have a4:=zDT hN hc hE hh hd hcd C he Z;obtain⟨g2,D,U,O⟩:=yG6 hN he C z M;have b1:=zDT hN hc hE hh hd hcd he D U;have b2:=zDT hN hc hE hh hd hcd C D O;exact⟨zot,zot⟩
theorem yF3{G:Pt}(hG:iE E G)(hcG:zF N G≠0)(hr:wV (scT (zF N d) G) (scT (-zF N G) d)≠zT)(he:zF N e=0)(z:e≠zT):kE d G E=kE d e E-kE G e E:=by
 generalize C:wV (scT (zF N d) G) (scT (-zF N G) d)=r at hr;have D:zF N (zO N r)=0:=by unfold zF zO;grind
 have M:yB d G (zO N r)=zF r r:=by
  rw[<-C];unfold yB zF zO wV scT;grind
 have H:zF N r=0:=by rw[<-C];unfold zF wV scT;grind
 have J:zO N r≠zT:=λe0=>by
  have h1:zF (zO N r) (zO N r)=zF N N*zF r r-zF N r*zF N r:=by unfold zF zO;grind
  rw[e0,H] at h1;have h2:zF N N*zF r r=0:=by
   have:zF zT zT=0:=by show(0:Rat)*0+0*0+0*0=0;grind
   grind
  exact(zoe.1 h2).elim (sD hN) (sD hr)
 have h1:=yBO (by rw[M];exact sD hr) hc hd hG (zL5 hE hh D);have h2:=(zAW hN hc hE hh hG hcG D he J z).1
 by_cases hcd:zF N d=0
 · have h3:=zMG hN hE D hcd
   have O:=zMG hN hE hcd he;omega
 · have h3:=(zAW hN hc hE hh hd hcd he D z J).2
   omega
end
def c2Z(u v q:P2):Int:=if kW u v q then(if u.2<=q.2 then 1 else -1) else 0
def nkN(n:Pt):Rat:=if 0<n.z then n.z else if n.z<0 then -n.z else if 0<n.y then n.y else if n.y<0 then -n.y else if 0<n.x then n.x else -n.x
def eN(n:Pt):Pt:=if 0<n.z then T3.mk n.z 0 (-n.x) else if n.z<0 then T3.mk 0 (-n.z) n.y else if 0<n.y then T3.mk 0 (-n.z) n.y else if n.y<0 then T3.mk (-n.y) n.x 0 else if 0<n.x then T3.mk (-n.y) n.x 0 else T3.mk n.z 0 (-n.x)
section
variable {N:Pt}(hN:N≠zT)
include hN
theorem six{M:Nat->Nat->Rat->Pt->Prop}(h1:0<N.z->M 0 1 N.z (T3.mk N.z 0 (-N.x)))(h2:N.z<0->M 1 0 (-N.z) (T3.mk 0 (-N.z) N.y))(h3:N.z=0->0<N.y->M 2 0 N.y (T3.mk 0 (-N.z) N.y))(h4:N.z=0->N.y<0->M 0 2 (-N.y) (T3.mk (-N.y) N.x 0))(h5:N.z=0->N.y=0->0<N.x->M 1 2 N.x (T3.mk (-N.y) N.x 0))(h6:N.z=0->N.y=0->N.x<0->M 2 1 (-N.x) (T3.mk N.z 0 (-N.x))):
 M (axI N) (axJ N) (nkN N) (eN N):=by
 unfold axI axJ nkN eN
 by_cases c1:0<N.z
 · simp only[zau c1];exact h1 c1
 · by_cases c2:N.z<0
   · simp only[zae c1,zau c2];exact h2 c2
   · have C:N.z=0:=by grind
     by_cases c3:0<N.y
     · simp only[zae c1,zae c2,zau c3];exact h3 C c3
     · by_cases c4:N.y<0
       · simp only[zae c1,zae c2,zae c3,zau c4];exact h4 C c4
       · have D:N.y=0:=by grind
         by_cases c5:0<N.x
         · simp only[zae c1,zae c2,zae c3,zae c4,zau c5];exact h5 C D c5
         · have H:N.x<0:=by
            refine Rat.not_le.1 λe=>hN ?_;rw[qZ];exact⟨by show N.x=0;grind,D,C⟩
           simp only[zae c1,zae c2,zae c3,zae c4,zae c5,zau H];exact h6 C D H
theorem zH7:0<nkN N/\zF N (eN N)=0/\eN N≠zT:=by
 refine six hN (M:=λi j C e=>0<C/\zF N e=0/\e≠zT) (λh=>⟨h,?_,λe=>?_⟩) (λh=>⟨zo0,?_,λe=>?_⟩) (λz h=>⟨h,?_,λe=>?_⟩) (λz h=>⟨zo0,?_,λe=>?_⟩) (λz y h=>⟨h,?_,λe=>?_⟩) (λz y h=>⟨zo0,?_,λe=>?_⟩)
 any_goals (unfold zF;grind)
 · have:=zbi T3.x e;simp only at this;have:N.z=0:=this;grind
 · have:=zbi T3.y e;simp only at this;have:-N.z=0:=this;grind
 · have:=zbi T3.z e;simp only at this;have:N.y=0:=this;grind
 · have:=zbi T3.x e;simp only at this;have:-N.y=0:=this;grind
 · have:=zbi T3.y e;simp only at this;have:N.x=0:=this;grind
 · have:=zbi T3.z e;simp only at this;have:-N.x=0:=this;grind
theorem yN6{A d:Pt}{h c:Rat}(hA:zF N A=h)(hd:zF N d=c):yB A d (eN N)=c*A.at (axJ N)-h*d.at (axJ N):=by
 subst hA hd;refine six hN (M:=λi j C e=>yB A d e=zF N d*A.at j-zF N A*d.at j) (λh=>?_) (λh=>?_) (λz h=>?_) (λz h=>?_) (λz y h=>?_) (λz y h=>?_)
 all_goals (unfold yB zF zO;simp only[T3.at];grind)
theorem eN_o{A B d:Pt}{h c t:Rat}(hA:zF N A=h)(hB:zF N B=h)(hd:zF N d=c)(ht:t*c=h):c*cr (pr A (axI N) (axJ N)) (pr B (axI N) (axJ N)) (pr (scT t d) (axI N) (axJ N))=nkN N*yB A B d:=by
 refine six hN (M:=λi j C e=>c*cr (pr A i j) (pr B i j) (pr (scT t d) i j)=C*yB A B d) (λh=>?_) (λh=>?_) (λz h=>?_) (λz h=>?_) (λz y h=>?_) (λz y h=>?_)
 all_goals (unfold yB zF zO cr pr scT at *;simp only[T3.at];grind)
end
theorem yN5{N A B d e:Pt}{h c:Rat}(hA:zF N A=h)(hB:zF N B=h)(hd:zF N d=c)(he:zF N e=0):c*yB A B e= -h*(yB B d e-yB A d e):=by
 unfold yB zF zO at *;grind
theorem yOE{N A B d:Pt}{h c t:Rat}(hN:N≠zT)(hA:zF N A=h)(hB:zF N B=h)(hd:zF N d=c)(ht:0<t)(htc:t*c=h)(hc:c≠0):
 (0<c->c2Z (pr A (axI N) (axJ N)) (pr B (axI N) (axJ N)) (pr (scT t d) (axI N) (axJ N))=kp d (eN N) A B)/\(c<0->c2Z (pr A (axI N) (axJ N)) (pr B (axI N) (axJ N)) (pr (scT t d) (axI N) (axJ N))=kp (eN N) d A B):=by
 obtain⟨M,he,_⟩:=zH7 hN;have a1:=yN6 hN hA hd;have b1:=yN6 hN hB hd;have o1:=eN_o hN hA hB hd htc;have s1:=yN5 (A:=A) (B:=B) hA hB hd he;have e1:yB A (eN N) d= -yB A d (eN N):=by unfold yB zF zO;grind
 have e2:yB B (eN N) d= -yB B d (eN N):=by unfold yB zF zO;grind
 have D:(pr (scT t d) (axI N) (axJ N)).2=t*d.at (axJ N):=by
  unfold pr scT;generalize axJ N=j
  match j with
  |0=>rfl
  |1=>rfl
  |_+2=>rfl
 have hu:(pr A (axI N) (axJ N)).2=A.at (axJ N):=I;have hv:(pr B (axI N) (axJ N)).2=B.at (axJ N):=I;unfold c2Z kW orZ kp;rw[D,hu,hv,e1,e2,a1,b1];rw[a1,b1] at s1;simp only[oK,qW];generalize cr (pr A (axI N) (axJ N)) (pr B (axI N) (axJ N)) (pr (scT t d) (axI N) (axJ N))=o at *;generalize A.at (axJ N)=x at *;generalize B.at (axJ N)=y at *;generalize d.at (axJ N)=z at *;generalize yB A B d=m at *;generalize yB A B (eN N)=n at *;generalize nkN N=k at *;subst htc
 -- n = -(t) * c * (y - x)
 have hn:n= -(t*c)*(y-x):=by
  have:c*(n- -(t*c)*(y-x))=0:=by grind
  have:=(zoe.1 this).resolve_left hc;grind
 have ax:c*x-t*c*z=c*(x-t*z):=by grind
 have bx:c*y-t*c*z=c*(y-t*z):=by grind
 rw[ax,bx];generalize hz:t*z=w at *;have go:∀(p q r s:Prop) {_:Decidable p} {_:Decidable q} {_:Decidable r} {_:Decidable s},(p↔q\/r)->(q->s)->(r->¬s)->(if p then(if s then(1:Int) else -1) else 0)=if q then 1 else if r then -1 else 0:=by
  intro p q r s _ _ _ _ h1 h2 h3
  by_cases D:q
  · rw[zau (h1.2 (.inl D)),zau (h2 D),zau D]
  · by_cases hr:r
    · rw[zau (h1.2 (.inr hr)),zae (h3 hr),zae D,zau hr]
    · rw[zae (λe=>(h1.1 e).elim D hr),zae D,zae hr]
 constructor
 · intro J
   have H:0<c*(x-w)↔w<x:=by rw[vJ J];constructor<;>intro h<;>grind
   have f2:0<c*(y-w)↔w<y:=by rw[vJ J];constructor<;>intro h<;>grind
   have f3:0<m↔0<o:=by rw[<-vJ M,<-o1,vJ J]
   have Z:m<0↔o<0:=by
    have:=vJ (y:=-m) M;have:=vJ (y:=-o) J;constructor<;>intro h<;>grind
   have htc:=uD ht J;have U:n<0↔x<y:=by
    have:=vJ (y:=y-x) htc;constructor<;>intro h<;>grind
   have O:0<n↔y<x:=by
    have:=vJ (y:=x-y) htc;constructor<;>intro h<;>grind
   unfold kq;refine go _ _ _ _ ?_ ?_ ?_
   · simp only[H,f2,f3,Z,U,O]
     constructor<;>intro h<;>grind
   · simp only[H];intro h;grind
   · simp only[H];intro h;grind
 · intro J
   have C:0< -c:=by grind
   have H:0< -(c*(x-w))↔w<x:=by rw[show -(c*(x-w))= -c*(x-w) by grind,vJ C];constructor<;>intro h<;>grind
   have f2:0< -(c*(y-w))↔w<y:=by rw[show -(c*(y-w))= -c*(y-w) by grind,vJ C];constructor<;>intro h<;>grind
   have f3:m<0↔0<o:=by
    have:=vJ (y:=-m) M;have:=vJ (y:=o) C;constructor<;>intro h<;>grind
   have Z:0<m↔o<0:=by
    have:=vJ (y:=m) M;have:=vJ (y:=-o) C;constructor<;>intro h<;>grind
   have htc:=uD ht C;have U:0<n↔x<y:=by
    have:=vJ (y:=y-x) htc;constructor<;>intro h<;>grind
   have O:n<0↔y<x:=by
    have:=vJ (y:=x-y) htc;constructor<;>intro h<;>grind
   unfold kq;refine go _ _ _ _ ?_ ?_ ?_
   · simp only[H,f2,f3,Z,U,O]
     constructor<;>intro h<;>grind
   · simp only[H];intro h;grind
   · simp only[H];intro h;grind
theorem yOD{u v q u' v' q':P2}(h1:u.2<=q.2↔u'.2<=q'.2)(h2:v.2<=q.2↔v'.2<=q'.2)(h3:orZ u v q=orZ u' v' q'):c2Z u v q=c2Z u' v' q':=by
 have hc:kW u v q↔kW u' v' q':=by unfold kW;rw[h1,h2,h3]
 unfold c2Z
 by_cases e:kW u v q
 · rw[zau e,zau (hc.1 e)]
   by_cases e2:u.2<=q.2
   · rw[zau e2,zau (h1.1 e2)]
   · rw[zae e2,zae λe'=>e2 (h1.2 e')]
 · rw[zae e,zae λe'=>e (hc.2 e')]
theorem zP2{u v q:P2}(s:P2):c2Z (u.1+s.1,u.2+s.2) (v.1+s.1,v.2+s.2) (q.1+s.1,q.2+s.2)=c2Z u v q:=by
 have h1:∀x y z:Rat,x+z<=y+z↔x<=y:=λx y z=>by constructor<;>intro h<;>grind
 have h2:orZ (u.1+s.1,u.2+s.2) (v.1+s.1,v.2+s.2) (q.1+s.1,q.2+s.2)=orZ u v q:=by
  unfold orZ cr
  congr 1
  grind
 exact yOD (h1 _ _ _) (h1 _ _ _) h2
def nZ(p:Pt)(l:List Pt):Nat->EL:=wS λm=>(yJ (gp l m) p,yJ (gp l ((m+1)%l.length)) p)
def mY(p:Pt)(L:List (List Pt)):Nat->EL:=gP λm=>nZ p (gl L m) (gl L m).length
theorem zAZ(f:Pt->Int):∀E F:EL,dfE f (E++F)=dfE f E+dfE f F
  |[],F=>by show _=0+_;rw[yxe];rfl
  |x::r,F=>by
   show f x.2-f x.1+dfE f (r++F)=f x.2-f x.1+dfE f r+_
   rw[zAZ f r F];omega
theorem yHR(f:Pt->Int)(p:Pt)(l:List Pt):∀m,m<=l.length->dfE f (nZ p l m)=f (yJ (gp l (m%l.length)) p)-f (yJ (gp l 0) p)
  |0,_=>by rw[Nat.zero_mod];show(0:Int)=_;omega
  |m+1,h=>by
   have ih:=yHR f p l m zot;rw[zoh (show m<l.length by omega)] at ih
   show dfE f (nZ p l m++[(yJ (gp l m) p,yJ (gp l ((m+1)%l.length)) p)])=_
   rw[zAZ,ih]
   show _+(f (yJ (gp l ((m+1)%l.length)) p)-f (yJ (gp l m) p)+0)=_
   omega
theorem yC8(p:Pt)(l:List Pt):zCS (nZ p l l.length):=λf=>by
 rw[yHR f p l _ (zbe _),y4i];omega
theorem oB(p:Pt)(L:List (List Pt)):∀n,zCS (mY p L n)
  |0=>λ_=>rfl
  |n+1=>λf=>by
   show dfE f (mY p L n++nZ p (gl L n) (gl L n).length)=0
   rw[zAZ,oB p L n f,yC8 p _ f];rfl
theorem zB5{α:Type}{g:Nat->α}{x:α}:∀{n},x∈wS g n->∃m,m<n/\x=g m
  |0,h=>by cases h
  |n+1,h=>by
   have h':x∈wS g n++[g n]:=h;rw[zmu] at h'
   rcases h' with h'|h'
   · obtain⟨m,hm,e⟩:=zB5 h'
     exact⟨m,zot,e⟩
   · exact⟨n,zot,by simpa using h'⟩
theorem u4{α:Type}{g:Nat->List α}{x:α}:∀{n},x∈gP g n->∃m,m<n/\x∈g m
  |0,h=>by cases h
  |n+1,h=>by
   have h':x∈gP g n++g n:=h;rw[zmu] at h'
   rcases h' with h'|h'
   · obtain⟨m,hm,e⟩:=u4 h'
     exact⟨m,zot,e⟩
   · exact⟨n,zot,h'⟩
theorem zO2{p:Pt}{L:List (List Pt)}{x:Pt×Pt}(h:x∈mY p L L.length):∃l k,l<L.length/\k<(gl L l).length/\x=(yJ (gp (gl L l) k) p,yJ (gp (gl L l) ((k+1)%(gl L l).length)) p):=by
 obtain⟨l,C,h⟩:=u4 h;obtain⟨k,hk,h⟩:=zB5 h;exact⟨l,k,C,hk,h⟩
def wnT(l:List Pt)(q:P2)(i j:Nat):Nat->Int
  |0=>0
  |m+1=>wnT l q i j m+c2Z (vV l i j m) (vT l i j m) q
def wnF(L:List (List Pt))(q:P2)(i j:Nat):Nat->Int
  |0=>0
  |m+1=>wnF L q i j m+wnT (gl L m) q i j (gl L m).length
theorem yAD(l:List Pt)(q:P2)(i j:Nat):∀m,kM l q i j m↔wnT l q i j m%2=1
  |0=>by show False↔(0:Int)%2=1;exact⟨False.elim,λe=>absurd e zox⟩
  |m+1=>by
   have ih:=yAD l q i j m
   show((kW _ _ _/\¬kM _ _ _ _ m)\/(¬kW _ _ _/\kM _ _ _ _ m))↔(wnT l q i j m+c2Z (vV l i j m) (vT l i j m) q)%2=1
   rw[ih];unfold c2Z
   by_cases h:kW (vV l i j m) (vT l i j m) q
   · rw[zau h]
     constructor
     · rintro(e|e)
       · split<;>omega
       · exact absurd h e.1
     · intro e
       refine .inl ⟨h,?_⟩
       split at e<;>omega
   · rw[zae h]
     constructor
     · rintro(e|e)
       · exact absurd e.1 h
       · omega
     · intro e;exact .inr ⟨h,zot⟩
theorem yG3(L:List (List Pt))(q:P2)(i j:Nat):∀m,(∀k,k<m->kL (gl L k) q i j≠0)->mD L q i j m=if wnF L q i j m%2=1 then 1 else -1
  |0,_=>rfl
  |m+1,h=>by
   have ih:=yG3 L q i j m λk hk=>h k zot;have hm:=h m zot;have ho:=yAD (gl L m) q i j (gl L m).length;have h1:kL (gl L m) q i j=1↔wnT (gl L m) q i j (gl L m).length%2=1:=by
    rw[<-ho];unfold kL at hm ⊢
    split
    · rename_i e;rw[zau e] at hm;exact absurd I hm
    · split
      · rename_i e;exact⟨λ_=>e,λ_=>I⟩
      · rename_i e;exact⟨λe'=>absurd e' zox,λe'=>absurd e' e⟩
   show(if kL (L.getD m []) q i j=1 then -(mD L q i j m) else mD L q i j m)=_
   rw[ih]
   show _=if(wnF L q i j m+wnT (gl L m) q i j (gl L m).length)%2=1 then(1:Int) else -1
   by_cases e:kL (L.getD m []) q i j=1
   · have C:=h1.1 e
     rw[zau e]
     by_cases e3:wnF L q i j m%2=1
     · rw[zau e3,zae zot]
     · rw[zae e3,zau zot];rfl
   · have C:¬wnT (gl L m) q i j (gl L m).length%2=1:=λe'=>e (h1.2 e')
     rw[zae e]
     by_cases e3:wnF L q i j m%2=1
     · rw[zau e3,zau zot]
     · rw[zae e3,zae zot]
theorem yIB{L:List (List Pt)}{q:P2}{i j:Nat}(h:whZ L q i j≠0):whZ L q i j=if wnF L q i j L.length%2=1 then 1 else -1:=by
 unfold whZ at h ⊢
 split
 · rename_i e;rw[zau e] at h;exact absurd I h
 · rename_i e
   exact yG3 L q i j _ λk hk e'=>e ⟨k,hk,e'⟩
section
variable {N p d:Pt}{h c t:Rat}{i j:Nat}
theorem zZP(p:Pt)(X:Pt)(i j:Nat):pr (wV p X) i j=((pr X i j).1+(pr p i j).1,(pr X i j).2+(pr p i j).2):=by
 have e:∀k,(wV p X).at k=X.at k+p.at k:=λk=>by
  unfold wV
  match k with
  |0=>show p.x+X.x=X.x+p.x;grind
  |1=>show p.y+X.y=X.y+p.y;grind
  |_+2=>show p.z+X.z=X.z+p.z;grind
 unfold pr;rw[e,e]
theorem yES(A p:Pt):wV p (yJ A p)=A:=by
 unfold wV yJ;rw[qZ];exact⟨zo0,zo0,zo0⟩
theorem yL1(A B X:Pt)(i j:Nat):c2Z (pr A i j) (pr B i j) (pr (wV p X) i j)=c2Z (pr (yJ A p) i j) (pr (yJ B p) i j) (pr X i j):=by
 have D:=zZP p (yJ A p) i j;have C:=zZP p (yJ B p) i j;rw[yES] at D C;rw[D,C,zZP];exact zP2 (pr p i j)
variable (hN:N≠zT)(hd:zF N d=c)(ht:0<t)(htc:t*c=h)(hc:c≠0)
include hN hd ht htc hc
theorem zXT(l:List Pt):∀m,m<=l.length->zMN N h (nZ p l m)->(0<c->wnT l (pr (wV p (scT t d)) (axI N) (axJ N)) (axI N) (axJ N) m=kE d (eN N) (nZ p l m))/\(c<0->wnT l (pr (wV p (scT t d)) (axI N) (axJ N)) (axI N) (axJ N) m=kE (eN N) d (nZ p l m))
  |0,_,_=>⟨λ_=>rfl,λ_=>rfl⟩
  |m+1,hm,hE=>by
   have hE':zMN N h (nZ p l m++[(yJ (gp l m) p,yJ (gp l ((m+1)%l.length)) p)]):=hE;obtain⟨h1,h2⟩:=zXT l m zot λx hx=>hE' x (zqe _ hx);have h3:=hE' _ (zve _ (.head _));obtain⟨g1,g2⟩:=yOE hN h3.1 h3.2 hd ht htc hc;have e0:=yL1 (p:=p) (gp l m) (gp l ((m+1)%l.length)) (scT t d) (axI N) (axJ N);constructor
   · intro hp
     show wnT l _ _ _ m+c2Z (pr (gp l m) _ _) (pr (gp l ((m+1)%l.length)) _ _) _=kE d (eN N) (nZ p l m++[_])
     rw[bJ,h1 hp,e0,g1 hp]
     show _=_+(_+0);rw[y4u]
   · intro hp
     show wnT l _ _ _ m+c2Z (pr (gp l m) _ _) (pr (gp l ((m+1)%l.length)) _ _) _=kE (eN N) d (nZ p l m++[_])
     rw[bJ,h2 hp,e0,g2 hp]
     show _=_+(_+0);rw[y4u]
theorem zFW(L:List (List Pt)):∀m,zMN N h (mY p L m)->(0<c->wnF L (pr (wV p (scT t d)) (axI N) (axJ N)) (axI N) (axJ N) m=kE d (eN N) (mY p L m))/\(c<0->wnF L (pr (wV p (scT t d)) (axI N) (axJ N)) (axI N) (axJ N) m=kE (eN N) d (mY p L m))
  |0,_=>⟨λ_=>rfl,λ_=>rfl⟩
  |m+1,hE=>by
   have hE':zMN N h (mY p L m++nZ p (gl L m) (gl L m).length):=hE;obtain⟨h1,h2⟩:=zFW L m λx hx=>hE' x (zqe _ hx);obtain⟨g1,g2⟩:=zXT hN hd ht htc hc (gl L m) _ (zbe _) λx hx=>hE' x (zve _ hx);constructor
   · intro hp
     show wnF L _ _ _ m+wnT (gl L m) _ _ _ (gl L m).length=kE d (eN N) (mY p L m++_)
     rw[bJ,h1 hp,g1 hp]
   · intro hp
     show wnF L _ _ _ m+wnT (gl L m) _ _ _ (gl L m).length=kE (eN N) d (mY p L m++_)
     rw[bJ,h2 hp,g2 hp]
end
section
variable {A B p v:Pt}
end
theorem zJD(s:Sd)(f:Nat)(q:Pt):-1<=whF s f q/\whF s f q<=1:=by
 unfold whF whZ
 split
 · omega
 · exact zFX _ _ _ _ _
def bdS(s:Sd)(p d:Pt)(f:Nat):Prop:=¬skP s p d f/\whF s f (aF p d (hnF s p f/cnF s d f))=0
def nbS(s:Sd)(p d:Pt):Prop:=∀f,f<s.2.1.length->¬bdS s p d f
section
variable {s:Sd}{p d:Pt}{f:Nat}
end
theorem zB1{s:Sd}(h:jQ s){p d:Pt}(hc:zIG s p d):nbS s p d:=λf hf e=>yAP (fO h) hf hc e.1 e.2
abbrev xL(s:Sd)(f:Nat):Pt:=(s.2.1.getD f zA).1.1
def edS(s:Sd)(p:Pt)(f:Nat):EL:=mY p (xR s f) (xR s f).length
def wnS(s:Sd)(f:Nat)(q:Pt):Int:=wnF (xR s f) (pr q (axI (xL s f)) (axJ (xL s f))) (axI (xL s f)) (axJ (xL s f)) (xR s f).length
def wnP(s:Sd):Prop:=∀f,f<s.2.1.length->∀q,whF s f q≠0->wnS s f q=0\/wnS s f q=1
theorem zS0{s:Sd}(hw:wnP s){f:Nat}(hf:f<s.2.1.length){q:Pt}(h:whF s f q≠0):wnS s f q=if whF s f q=1 then 1 else 0:=by
 have h1:=hw f hf q h;rw[eR] at h ⊢;have h2:=yIB h
 rcases h1 with e|e
 · unfold wnS at e ⊢
   rw[h2];rw[e];rw[zae (show ¬(0:Int)%2=1 by decide),zae (show ¬(-1:Int)=1 by decide)]
 · unfold wnS at e ⊢
   rw[h2];rw[e];rw[zau (show(1:Int)%2=1 by decide),zau I]
section
variable {s:Sd}{f:Nat}(hs:zUD s)(hf:f<s.2.1.length)
include hs hf
theorem zH5(p:Pt):zMN (xL s f) (hnF s p f) (edS s p f):=λx hx=>by
 obtain⟨l,k,hl,hk,rfl⟩:=zO2 hx;have h1:=((hs f hf).2 l hl k hk).1;have h2:=((hs f hf).2 l hl _ (zcu (k+1) (show 0<(gl (xR s f) l).length by omega))).1;have e:∀A:Pt,zF (xL s f) A=(s.2.1.getD f zA).1.2->zF (xL s f) (yJ A p)=hnF s p f:=λA h=>by
  unfold hnF;rw[<-h];unfold zF yJ;grind
 exact⟨e _ h1,e _ h2⟩
omit hs hf in
theorem zD8{p d:Pt}{x:Pt×Pt}{sx l:Rat}(hx:x∈edS s p f)(h0:0<=sx)(h1:sx<=1)(e:wV x.1 (scT sx (yJ x.2 x.1))=scT l d):whF s f (wV p (scT l d))=0:=by
 obtain⟨m,k,O,hk,rfl⟩:=zO2 hx;rw[eR];generalize axI (s.2.1.getD f zA).1.1=i;generalize axJ (s.2.1.getD f zA).1.1=j;have C:onS (vV (gl (xR s f) m) i j k) (vT (gl (xR s f) m) i j k) (pr (wV p (scT l d)) i j):=by
  unfold vV vT;generalize gp (gl (xR s f) m) k=A at *;generalize gp (gl (xR s f) m) ((k+1)%(gl (xR s f) m).length)=B at *;have D:∀n,(wV p (scT l d)).at n=A.at n+sx*(B.at n-A.at n):=λn=>by
   rw[<-e];unfold wV scT yJ
   match n with
   |0=>simp only[T3.at];grind
   |1=>simp only[T3.at];grind
   |_+2=>simp only[T3.at];grind
  have H:∀a b:Rat,kR a b (a+sx*(b-a)):=λa b=>by
   unfold kR
   rcases(show a<=b\/b<=a by grind) with h|h
   · have M:=zod h0 (show 0<=b-a by grind)
     have J:=zod (show 0<=1-sx by grind) (show 0<=b-a by grind);exact .inl ⟨zo0,zo0⟩
   · have M:=zod h0 (show 0<=a-b by grind)
     have J:=zod (show 0<=1-sx by grind) (show 0<=a-b by grind);exact .inr ⟨zo0,zo0⟩
  unfold pr;rw[D,D];refine⟨H _ _,H _ _,?_⟩;unfold cr;simp only;grind
 unfold whZ;rw[zau ⟨m,O,zau ⟨k,hk,C⟩⟩]
theorem zMZ{p d:Pt}(hh:hnF s p f≠0)(hb:¬bdS s p d f):iE (edS s p f) d:=λx hx hm=>by
 obtain⟨sx,l,h0,h1,hl,e⟩:=hm;have hE:=zH5 hs hf p x hx;obtain⟨l2,hl2,e2⟩:=yHG hE.1 hE.2 ⟨sx,l,h0,h1,hl,e⟩;have e3:hnF s p f=l*cnF s d f:=by
  have:=zbi (zF (xL s f)) e;rw[zH9,zH8,hE.1,hE.2] at this
  show _=l*zF (xL s f) d
  grind
 have hw:=zD8 hx h0 h1 e;have hc:cnF s d f≠0:=λe0=>hh (by rw[e3,e0];grind);have C:0<l:=by
  have:l≠0:=λe0=>hh (by rw[e3,e0];grind);grind
 have et:hnF s p f/cnF s d f=l:=by
  rw[e3];generalize cnF s d f=c at *;grind
 refine hb ⟨?_,by rw[et];exact hw⟩;unfold skP;rw[nT,e3];generalize cnF s d f=c at *;intro D;refine D ?_
 rcases(show 0<c\/c<0 by grind) with h|h
 · exact .inl ⟨h,uD C h⟩
 · refine .inr ⟨h,?_⟩
   have:=uD C (show 0< -c by grind);grind
omit hs hf in
theorem yF2{N A B d:Pt}{h c:Rat}(hN:N≠zT)(hA:zF N A=h)(hB:zF N B=h)(hd:zF N d=c)(hs:¬((0<c/\0<h)\/(c<0/\h<0)))(hh:h≠0):kp d (eN N) A B=0:=by
 obtain⟨nk,H,_⟩:=zH7 hN
 by_cases hc:c=0
 · exact zT2 hN (hd.trans hc) H hA hB
 · have Z:=yN5 (A:=A) (B:=B) hA hB hd H
   unfold kp kq;generalize yB A d (eN N)=a at *;generalize yB B d (eN N)=b at *;generalize yB A B (eN N)=n at *;have D:0< -(c*h):=by
    rcases(show 0<c\/c<0 by grind) with h1|h1<;>rcases(show 0<h\/h<0 by grind) with h2|h2
    · exact absurd (.inl ⟨h1,h2⟩) hs
    · have:=uD h1 (show 0< -h by grind);grind
    · have:=uD (show 0< -c by grind) h2;grind
    · exact absurd (.inr ⟨h1,h2⟩) hs
   have C:0<c*c:=by
    have:=zS7 c;have:c*c≠0:=λe=>(zoe.1 e).elim hc hc;grind
   have U:c*c*n= -(c*h)*(b-a):=by grind
   rw[zae,zae]
   · rintro⟨⟨h1,h2⟩,h3,J⟩
     have O:=uD C J;have M:=zod (zee D) (show 0<=a-b by grind);grind
   · rintro⟨⟨h1,h2⟩,h3,J⟩
     have O:=uD C (show 0< -n by grind);have M:=zod (zee D) (show 0<=b-a by grind);grind
theorem yC4(hw:wnP s){p d:Pt}(hh:hnF s p f≠0)(hb:¬bdS s p d f):crE s p d f=kE d (eN (xL s f)) (edS s p f):=by
 have hN:=(hs f hf).1;have hE:=zH5 hs hf p;have Z:=zMZ hs hf hh hb;obtain⟨nk,J,hz⟩:=zH7 hN;unfold crE
 by_cases hk:skP s p d f
 · rw[zau hk]
   unfold skP at hk;rw[nT] at hk;exact(zFO λx hx=>yF2 hN (hE x hx).1 (hE x hx).2 I hk hh).symm
 · rw[zae hk]
   have H:whF s f (aF p d (hnF s p f/cnF s d f))≠0:=λe=>hb ⟨hk,e⟩;have D:=zS0 hw hf H;have C:(0<cnF s d f/\0<hnF s p f)\/(cnF s d f<0/\hnF s p f<0):=zdi λe=>hk (by unfold skP;rw[nT];exact e);have hc:cnF s d f≠0:=λe=>by rw[e] at C;rcases C with h|h<;>exact absurd h.1 zox
   have htc:hnF s p f/cnF s d f*cnF s d f=hnF s p f:=by generalize cnF s d f=c at *;grind
   have ht:0<hnF s p f/cnF s d f:=by
    refine Rat.not_le.1 λe=>?_
    rcases C with h|h
    · have:=zod (show 0<= -(hnF s p f/cnF s d f) by grind) (zee h.1);grind
    · have:=zod (show 0<= -(hnF s p f/cnF s d f) by grind) (show 0<= -cnF s d f by grind);grind
   obtain⟨U,O⟩:=zFW hN (c:=cnF s d f) I ht htc hc (xR s f) _ hE;have M:wnF (xR s f) (pr (wV p (scT (hnF s p f/cnF s d f) d)) (axI (xL s f)) (axJ (xL s f))) (axI (xL s f)) (axJ (xL s f)) (xR s f).length=if whF s f (aF p d (hnF s p f/cnF s d f))=1 then 1 else 0:=D
   rcases C with h|h
   · rw[<-show _=kE d (eN (xL s f)) (edS s p f) from U h.1,M,zau h.1]
   · have h0:¬0<cnF s d f:=λe=>absurd (show(0:Rat)<0 by grind) zox
     have h3:=(zAW hN (oB p (xR s f) _) hE hh Z hc J J hz hz).2;rw[show kE (eN (xL s f)) d (mY p (xR s f) (xR s f).length)=_ from(O h.1).symm,M] at h3
     show _=kE d (eN (xL s f)) (mY p (xR s f) (xR s f).length)
     rw[zae h0]
     by_cases e:whF s f (aF p d (hnF s p f/cnF s d f))=1
     · rw[zau e] at h3 ⊢
       have h4:(1:Int)= -kE d (eN (xL s f)) (mY p (xR s f) (xR s f).length):=h3;omega
     · rw[zae e] at h3 ⊢
       have h4:(0:Int)= -kE d (eN (xL s f)) (mY p (xR s f) (xR s f).length):=h3;omega
end
theorem kq_0{P:Rat->Prop}{a b m n:Rat}(h:¬(0<m/\n<0)/\¬(m<0/\0<n)):kq P a b m n=0:=by
 unfold kq;rw[zae λe=>h.1 e.2,zae λe=>h.2 e.2]
def tuT(N d G:Pt):Pt:=wV (scT (zF N d) G) (scT (-zF N G) d)
section
variable {N A B d G:Pt}(hN:N≠zT)(hA:zF N A=0)(hB:zF N B=0)
include hN hA hB
omit hN in
theorem zPF(x:Pt):zF N N*yB A B x=zF N x*yB A B N:=by
 have D:yB A B x=yB x A B:=by unfold yB zF zO;grind
 have C:yB A B N=yB N A B:=by unfold yB zF zO;grind
 rw[D,C];exact zM1 hA hB
omit hN hB in
theorem yNZ:zF N N*yB A d G=yB A N (tuT N d G):=by
 have:zF N N*yB A d G-yB A N (tuT N d G)=zF N A*yB N d G:=by
  unfold tuT yB zF zO wV scT;grind
 rw[hA] at this;grind
theorem yF6(h:¬(0<zF N d/\zF N G<0)/\¬(zF N d<0/\0<zF N G)):kp d G A B=0:=by
 have O:=zPF hA hB d;have M:=zPF hA hB G;have D:=q5 hN;unfold kp;generalize zF N N=n at *;generalize yB A B d=u at *;generalize yB A B G=v at *;generalize yB A B N=w at *;generalize zF N d=c at *;generalize zF N G=g at *;refine kq_0 ⟨λe=>?_,λe=>?_⟩
 · have J:=uD D e.1
   have H:=uD D (show 0< -v by grind)
   rcases(show w<=0\/0<=w by grind) with hw|hw
   · have hc:c<0:=Rat.not_le.1 λhc=>by have:=zod hc (show 0<= -w by grind);grind
     have C:0<g:=Rat.not_le.1 λC=>by have:=zod (show 0<= -g by grind) (show 0<= -w by grind);grind
     exact h.2 ⟨hc,C⟩
   · have hc:0<c:=Rat.not_le.1 λhc=>by have:=zod (show 0<= -c by grind) hw;grind
     have C:g<0:=Rat.not_le.1 λC=>by have:=zod C hw;grind
     exact h.1 ⟨hc,C⟩
 · have J:=uD D (show 0< -u by grind)
   have H:=uD D e.2
   rcases(show w<=0\/0<=w by grind) with hw|hw
   · have hc:0<c:=Rat.not_le.1 λhc=>by have:=zod (show 0<= -c by grind) (show 0<= -w by grind);grind
     have C:g<0:=Rat.not_le.1 λC=>by have:=zod C (show 0<= -w by grind);grind
     exact h.1 ⟨hc,C⟩
   · have hc:c<0:=Rat.not_le.1 λhc=>by have:=zod hc hw;grind
     have C:0<g:=Rat.not_le.1 λC=>by have:=zod (show 0<= -g by grind) hw;grind
     exact h.2 ⟨hc,C⟩
theorem yBZ:(0<zF N d/\zF N G<0->kp d G A B=kp N (tuT N d G) (wV A N) (wV B N))/\(zF N d<0/\0<zF N G->kp d G A B=kp (scT (-1) (tuT N d G)) N (wV A N) (wV B N)):=by
 have m1:=zPF hA hB d;have m2:=zPF hA hB G;have a1:=yNZ (d:=d) (G:=G) hA;have b1:=yNZ (d:=d) (G:=G) hB;have hn:=q5 hN;have hr:zF N (tuT N d G)=0:=by unfold tuT zF wV scT;grind
 have U:=zPF hA hB (tuT N d G);rw[hr,y3u] at U;have C:yB A B (tuT N d G)=0:=(zoe.1 U).resolve_left (sD hN);generalize aa:tuT N d G=r at *;have a2:yB (wV A N) N r=yB A N r:=by unfold yB zF zO wV;grind
 have b2:yB (wV B N) N r=yB B N r:=by unfold yB zF zO wV;grind
 have a3:yB (wV A N) (scT (-1) r) N=yB A N r:=by unfold yB zF zO wV scT;grind
 have b3:yB (wV B N) (scT (-1) r) N=yB B N r:=by unfold yB zF zO wV scT;grind
 have s1:yB (wV A N) (wV B N) N=yB A B N:=by unfold yB zF zO wV;grind
 have s2:yB (wV A N) (wV B N) r=yB A B r+yB A N r-yB B N r:=by unfold yB zF zO wV;grind
 have s3:yB (wV A N) (wV B N) (scT (-1) r)= -yB A B r-yB A N r+yB B N r:=by unfold yB zF zO wV scT;grind
 unfold kp;rw[a2,b2,a3,b3,s1,s2,s3,C,<-a1,<-b1];generalize zF N N=n at *;generalize yB A B d=u at *;generalize yB A B G=v at *;generalize yB A B N=w at *;generalize zF N d=c at *;generalize zF N G=g at *;generalize yB A d G=a at *;generalize yB B d G=b at *;have sg:∀x:Rat,0<n*x↔0<x:=λx=>vJ hn;have f1:=sg u;have f2:=sg (-v);have f3:=sg (-u);have f4:=sg v;have f5:=sg a;have f6:=sg b;have f7:=sg (b-a);have f8:=sg (a-b);constructor
 · rintro⟨hc,D⟩
   have Z:=vJ (y:=w) hc;have g2:=vJ (y:=w) (show 0< -g by grind);have g3:=vJ (y:=-w) hc;have g4:=vJ (y:=-w) (show 0< -g by grind);have O:0<u↔0<w:=by rw[<-f1,m1,Z]
   have M:v<0↔0<w:=by constructor<;>intro h<;>grind
   have J:u<0↔w<0:=by constructor<;>intro h<;>grind
   have H:0<v↔w<0:=by constructor<;>intro h<;>grind
   unfold kq;simp only[f5,f6,O,M,J,H]
   by_cases c1:¬0<a/\0<b
   · have c2:¬(0<a/\¬0<b):=λe=>c1.1 e.1
     by_cases hw:0<w
     · rw[zau ⟨c1,hw,hw⟩,zau ⟨c1,hw,zo0⟩]
     · rw[zae λe=>hw e.2.1,zae λe=>c2 e.1,zae λe=>hw e.2.1,zae λe=>c2 e.1]
   · by_cases c2:0<a/\¬0<b
     · by_cases hw:w<0
       · rw[zae λe=>c1 e.1,zau ⟨c2,hw,hw⟩,zae λe=>c1 e.1,zau ⟨c2,hw,zo0⟩]
       · rw[zae λe=>c1 e.1,zae λe=>hw e.2.1,zae λe=>c1 e.1,zae λe=>hw e.2.1]
     · rw[zae λe=>c1 e.1,zae λe=>c2 e.1,zae λe=>c1 e.1,zae λe=>c2 e.1]
 · rintro⟨hc,D⟩
   have Z:=vJ (y:=w) D;have g2:=vJ (y:=w) (show 0< -c by grind);have g3:=vJ (y:=-w) D;have g4:=vJ (y:=-w) (show 0< -c by grind);have O:0<u↔w<0:=by constructor<;>intro h<;>grind
   have M:v<0↔w<0:=by constructor<;>intro h<;>grind
   have J:u<0↔0<w:=by constructor<;>intro h<;>grind
   have H:0<v↔0<w:=by constructor<;>intro h<;>grind
   unfold kq;simp only[f5,f6,O,M,J,H]
   by_cases c1:¬0<a/\0<b
   · have c2:¬(0<a/\¬0<b):=λe=>c1.1 e.1
     by_cases hw:w<0
     · rw[zau ⟨c1,hw,hw⟩,zau ⟨c1,zo0,hw⟩]
     · rw[zae λe=>hw e.2.1,zae λe=>c2 e.1,zae λe=>hw e.2.2,zae λe=>c2 e.1]
   · by_cases c2:0<a/\¬0<b
     · by_cases hw:0<w
       · rw[zae λe=>c1 e.1,zau ⟨c2,hw,hw⟩,zae λe=>c1 e.1,zau ⟨c2,zo0,hw⟩]
       · rw[zae λe=>c1 e.1,zae λe=>hw e.2.1,zae λe=>c1 e.1,zae λe=>hw e.2.2]
     · rw[zae λe=>c1 e.1,zae λe=>c2 e.1,zae λe=>c1 e.1,zae λe=>c2 e.1]
end
theorem zUI(p N:Pt)(L:List (List Pt)):∀n,(mY p L n).map (λx=>(wV x.1 N,wV x.2 N))=mY (yJ p N) L n
  |0=>rfl
  |n+1=>by
   have ha:∀A:Pt,wV (yJ A p) N=yJ A (yJ p N):=λA=>by
    unfold wV yJ;rw[qZ];exact⟨zo0,zo0,zo0⟩
   have hX:∀l m,(nZ p l m).map (λx=>(wV x.1 N,wV x.2 N))=nZ (yJ p N) l m:=λl m=>by
    induction m with
    |zero=>rfl
    |succ m ih=>
     show(nZ p l m++[_]).map _=nZ (yJ p N) l m++[_]
     rw[zle,ih]
     show _++[(wV (yJ (gp l m) p) N,wV (yJ (gp l ((m+1)%l.length)) p) N)]=_
     rw[ha,ha]
   show(mY p L n++nZ p _ _).map _=mY (yJ p N) L n++nZ (yJ p N) _ _
   rw[zle,zUI p N L n,hX]
section
variable {s:Sd}{f:Nat}(hs:zUD s)(hw:wnP s)(hf:f<s.2.1.length)
include hs hw hf
theorem yNW{p d G:Pt}(hh:hnF s p f=0)(hp:whF s f p≠0/\whF s f p≠1)(hG:zF (xL s f) G≠0)(hr:tuT (xL s f) d G≠zT):kE d G (edS s p f)=0:=by
 have hN:=(hs f hf).1;have hE:=zH5 hs hf p;rw[hh] at hE;obtain⟨nk,he,hz⟩:=zH7 hN;have H:=sD hN
 by_cases ho:(0<zF (xL s f) d/\zF (xL s f) G<0)\/(zF (xL s f) d<0/\0<zF (xL s f) G)
 · -- seen from a point behind the face
   have D:=zH5 hs hf (yJ p (xL s f));have C:hnF s (yJ p (xL s f)) f=zF (xL s f) (xL s f):=by
    have:hnF s (yJ p (xL s f)) f=hnF s p f+zF (xL s f) (xL s f):=by unfold hnF zF yJ;grind
    rw[this,hh];grind
   have hb:wV (yJ p (xL s f)) (scT 1 (xL s f))=p:=by
    unfold wV yJ scT;rw[qZ];exact⟨zo0,zo0,zo0⟩
   have hm:iE (edS s (yJ p (xL s f)) f) (xL s f):=λx hx ad=>by
    obtain⟨sx,l,h0,h1,hl,e⟩:=ad;have Z:=D x hx;have:=zbi (zF (xL s f)) e;rw[zH9,zH8,Z.1,Z.2,C] at this;have l1:l=1:=by
     generalize zF (xL s f) (xL s f)=n at *;have:n*(l-1)=0:=by grind
     have:=(zoe.1 this).resolve_left H;grind
    have U:=zD8 hx h0 h1 e;rw[l1,hb] at U;exact hp.1 U
   have J:=zS0 hw hf hp.1;rw[zae hp.2] at J;have w1:=(zFW hN (p:=yJ p (xL s f)) (d:=xL s f) (c:=zF (xL s f) (xL s f)) (t:=1) I zox (h:=hnF s (yJ p (xL s f)) f) (by rw[C];grind) H (xR s f) _ D).1 (q5 hN);rw[hb] at w1;have k0:kE (xL s f) (eN (xL s f)) (edS s (yJ p (xL s f)) f)=0:=w1.symm.trans J;have M:zF (xL s f) (tuT (xL s f) d G)=0:=by unfold tuT zF wV scT;grind
   have O:zCS (edS s (yJ p (xL s f)) f):=oB (yJ p (xL s f)) (xR s f) (xR s f).length;have aa:edS s (yJ p (xL s f)) f=(edS s p f).map λx=>(wV x.1 (xL s f),wV x.2 (xL s f)):=(zUI p (xL s f) (xR s f) _).symm
   rcases ho with h|h
   · rw[zHU (d':=xL s f) (e':=tuT (xL s f) d G) (m:=λX=>wV X (xL s f)) λx hx=>(yBZ hN (hE x hx).1 (hE x hx).2).1 h,<-aa]
     rw[<-(zAW hN O D (by rw[C];exact H) hm H he M hz hr).1];exact k0
   · have ac:zF (xL s f) (scT (-1) (tuT (xL s f) d G))=0:=by rw[zH8,M];grind
     have ab:scT (-1) (tuT (xL s f) d G)≠zT:=λe=>hr (by
      generalize tuT (xL s f) d G=r at *;unfold scT at e;rw[qZ] at e ⊢;obtain⟨e1,e2,e3⟩:=e;have z:(zT:Pt).x=0/\(zT:Pt).y=0/\(zT:Pt).z=0:=⟨I,I,I⟩;simp only at e1 e2 e3;exact⟨zo0,zo0,zo0⟩)
     rw[zHU (d':=scT (-1) (tuT (xL s f) d G)) (e':=xL s f) (m:=λX=>wV X (xL s f)) λx hx=>(yBZ hN (hE x hx).1 (hE x hx).2).2 h,<-aa];have:=(zAW hN O D (by rw[C];exact H) hm H he ac hz ab).2;rw[show kE (xL s f) (eN (s.2.1.getD f zA).1.1) (edS s (yJ p (xL s f)) f)=0 from k0] at this;exact this.trans zox
 · exact zFO λx hx=>yF6 hN (hE x hx).1 (hE x hx).2 ⟨λe=>ho (.inl e),λe=>ho (.inr e)⟩
theorem zXB{p d G:Pt}(ho:¬onP s p f)(hd:¬bdS s p d f)(hg:¬bdS s p G f)(hG:cnF s G f≠0)(hr:tuT (xL s f) d G≠zT):kE d G (edS s p f)=crE s p d f-crE s p G f:=by
 have hN:=(hs f hf).1;obtain⟨Z,U,hz⟩:=zH7 hN
 by_cases hh:hnF s p f=0
 · have C:∀x,skP s p x f:=λx=>by unfold skP;rw[hh,show yQ 0=0 from zau I,Int.mul_zero];exact Int.le_refl 0
   have J:∀x,crE s p x f=0:=λx=>zau (C x);rw[J,J];have D:sdZ (s.2.1.getD f zA).1 p=0:=by
    unfold sdZ hgt;have:zF (s.2.1.getD f zA).1.1 p-(s.2.1.getD f zA).1.2=0:=by unfold hnF at hh;grind
    rw[this];exact zau I
   have M:¬0<=whF s f p:=λe=>ho ⟨D,e⟩;exact yNW hs hw hf hh ⟨zot,zot⟩ hG hr
 · have O:=zMZ hs hf hh hd
   have H:=zMZ hs hf hh hg;rw[yC4 hs hf hw hh hd,yC4 hs hf hw hh hg];exact yF3 hN (oB p (xR s f) _) (zH5 hs hf p) hh O H hG hr U hz
end
abbrev QI:=Int×Int
def cZ(κ:Int->Int->Int):List QI->Int
  |[]=>0
  |x::r=>κ x.1 x.2+cZ κ r
theorem zC4{κ:Int->Int->Int}{a b:List QI}(h:a.Perm b):cZ κ a=cZ κ b:=by
 induction h with
 |nil=>rfl
 |cons x _ ih=>show κ x.1 x.2+_=κ x.1 x.2+_;rw[ih]
 |swap x y l=>show κ y.1 y.2+(κ x.1 x.2+_)=κ x.1 x.2+(κ y.1 y.2+_);omega
 |trans _ _ h1 h2=>exact h1.trans h2
theorem nD(κ:Int->Int->Int):∀a b:List QI,cZ κ (a++b)=cZ κ a+cZ κ b
  |[],b=>by show _=0+_;rw[yxe];rfl
  |x::r,b=>by
   show κ x.1 x.2+cZ κ (r++b)=κ x.1 x.2+cZ κ r+_
   rw[nD κ r b];omega
def swQ(x:QI):QI:=(x.2,x.1)
theorem zC3{κ:Int->Int->Int}(h:∀a b,κ b a= -κ a b):∀l:List QI,cZ κ (l.map swQ)= -cZ κ l
  |[]=>rfl
  |x::r=>by
   show κ x.2 x.1+cZ κ (r.map swQ)= -(κ x.1 x.2+cZ κ r)
   rw[zC3 h r,h];omega
theorem eW(a b:Int):∀l:List QI,(l.map swQ).count (a,b)=l.count (b,a)
  |[]=>rfl
  |x::r=>by
   rw[zwu,List.count_cons,List.count_cons,eW a b r];have e:(swQ x==(a,b))=(x==(b,a)):=by
    obtain⟨u,v⟩:=x;unfold swQ;rw[yeu,beq_iff_eq,beq_iff_eq,Prod.mk.injEq,Prod.mk.injEq];exact And.comm
   rw[e]
theorem zVE{κ:Int->Int->Int}(h:∀a b,κ b a= -κ a b){l:List QI}(hl:∀a b,l.count (a,b)<=l.count (b,a)):cZ κ l=0:=by
 have C:l.Perm (l.map swQ):=List.perm_iff_count.2 λx=>by
  obtain⟨a,b⟩:=x;rw[eW];exact Nat.le_antisymm (hl a b) (hl b a)
 have h1:=zC4 (κ:=κ) C;rw[zC3 h] at h1;omega
def rQ(e:E5):QI:=(e.1,e.2.1)
theorem zBA(E:List E5)(a b:Int):∀m,m<=E.length->iP E a b m=(((E.map rQ).take m).count (a,b):Nat)
  |0,_=>rfl
  |m+1,h=>by
   have ih:=zBA E a b m zot;have hm:m<(E.map rQ).length:=by rw[zde];omega
   rw[zue hm,List.count_append];have e:(E.map rQ)[m]=rQ (E.getD m e0):=by
    rw[List.getElem_map,zoa,zoc zot];rfl
   rw[e];have hc:List.count (a,b) [rQ (E.getD m e0)]=if zPR (E.getD m e0) a b then 1 else 0:=by
    rw[List.count_cons,List.count_nil]
    by_cases h:zPR (E.getD m e0) a b
    · rw[zau h,zau (by rw[beq_iff_eq];exact Prod.ext h.1 h.2)]
    · rw[zae h,zae (by rw[beq_iff_eq];exactλe=>h ⟨zbi Prod.fst e,zbi Prod.snd e⟩)]
   rw[hc]
   show(if zPR (E.getD m e0) a b then iP E a b m+1 else iP E a b m)=_
   by_cases h:zPR (E.getD m e0) a b
   · rw[zau h,zau h,ih];omega
   · rw[zae h,zae h,ih];omega
theorem zC7{s:Sd}(h:jQ s)(a b:Int):((edZ (xP s)).map rQ).count (a,b)<=((edZ (xP s)).map rQ).count (b,a):=by
 have hc:=(mF h).2.2.2.2;generalize hE:edZ (xP s)=E at *;have hx:∀i,i<E.length->¬yCS E i:=by
  unfold clZ at hc
  split at hc
  · rw[hE] at hc
    exact(oN _).1 hc
  · exact absurd hc zo3
 have ht:∀a b,tmZ E a b=((E.map rQ).count (a,b):Nat):=λa b=>by
  unfold tmZ;rw[zBA E a b _ (zbe _),zvu (by rw[zde];exact zbe _)]
 rcases yii ((E.map rQ).count (a,b)) with h0|h0
 · omega
 · have D:=List.count_pos_iff.1 h0
   obtain⟨x,C,e⟩:=zlu.1 D;obtain⟨i,hi,rfl⟩:=yxu.1 C;have h1:=hx i hi;unfold yCS at h1;have H:E.getD i ((0:Int),(0:Int),(0:Int),(0:Int),(0:Int))=E[i]:=by rw[zoa,zoc hi];rfl
   rw[H,show E[i].1=a from zbi Prod.fst e,show E[i].2.1=b from zbi Prod.snd e,ht,ht] at h1;omega
def kIS(s:Sd)(p d G:Pt)(a b:Int):Int:=kp d G (yJ (ptI s.1 a) p) (yJ (ptI s.1 b) p)
theorem zT3(d e A B:Pt):kp d e B A= -kp d e A B:=by
 have C:∀x,yB B A x= -yB A B x:=λx=>by unfold yB zF zO;grind
 unfold kp;rw[C,C];generalize yB A d e=a;generalize yB B d e=b;generalize yB A B d=m;generalize yB A B e=n;unfold kq
 by_cases c1:(¬0<a/\0<b)/\(0<m/\n<0)
 · rw[zau c1,zae (λe=>by have:=e.1.1 c1.1.2;exact this),zau ⟨⟨c1.1.2,c1.1.1⟩,zo0,zo0⟩]
 · by_cases c2:(0<a/\¬0<b)/\(m<0/\0<n)
   · rw[zae c1,zau c2,zau ⟨⟨c2.1.2,c2.1.1⟩,zo0,zo0⟩];rfl
   · rw[zae c1,zae c2,zae (λe=>c2 ⟨⟨e.1.2,e.1.1⟩,zo0,zo0⟩),zae (λe=>c1 ⟨⟨e.1.2,e.1.1⟩,zo0,zo0⟩)];rfl
section
variable {s:Sd}(h:jQ s)(p d G:Pt)
include h
theorem zMH{f:Nat}(hf:f<s.2.1.length):kE d G (edS s p f)=cZ (kIS s p d G) ((edL (s.2.1.getD f zA).2.1 f (s.2.1.getD f zA).2.1.length).map rQ):=by
 obtain⟨c1,c2⟩:=dW hf (aY h hf).2;unfold edS;rw[c1];have hl:∀n,n<=(s.2.1.getD f zA).2.1.length->kE d G (mY p (xR s f) n)=cZ (kIS s p d G) ((edL (s.2.1.getD f zA).2.1 f n).map rQ):=by
  intro n
  induction n with
  |zero=>intro _;rfl
  |succ n ih=>
   intro hn;obtain⟨c3,c4⟩:=c2 n zot;have hk:∀k,k<=((s.2.1.getD f zA).2.1.getD n []).length->kE d G (nZ p (gl (xR s f) n) k)=cZ (kIS s p d G) ((edX ((s.2.1.getD f zA).2.1.getD n []) f n k).map rQ):=by
    intro k
    induction k with
    |zero=>intro _;rfl
    |succ k ihk=>
     intro hk
     show kE d G (nZ p (gl (xR s f) n) k++[_])=cZ _ ((edX _ f n k++[_]).map rQ)
     rw[bJ,zle,nD,ihk zot]
     show _+(kp d G (yJ (gp (gl (xR s f) n) k) p) (yJ (gp (gl (xR s f) n) ((k+1)%(gl (xR s f) n).length)) p)+0)=_+(kIS s p d G _ _+0)
     rw[c3,c4 k zot,c4 _ (zcu _ zot)];rfl
   show kE d G (mY p (xR s f) n++nZ p (gl (xR s f) n) (gl (xR s f) n).length)=cZ _ ((edL _ f n++edX _ f n _).map rQ)
   rw[bJ,zle,nD,ih zot,c3,hk _ (zbe _)]
 exact hl _ (zbe _)
def kES(s:Sd)(p d G:Pt):Nat->Int
  |0=>0
  |n+1=>kES s p d G n+kE d G (edS s p n)
theorem yBP:kES s p d G s.2.1.length=0:=by
 have hn:∀n,n<=s.2.1.length->kES s p d G n=cZ (kIS s p d G) ((edF (xP s) n).map rQ):=by
  intro n
  induction n with
  |zero=>intro _;rfl
  |succ n ih=>
   intro hn
   show kES s p d G n+kE d G (edS s p n)=cZ _ ((edF (xP s) n++edL ((xP s).getD n []) n ((xP s).getD n []).length).map rQ)
   rw[zle,nD,ih zot,zMH h p d G zot,rC zot]
 rw[hn _ (zbe _)];have:=zVE (κ:=kIS s p d G) (λa b=>zT3 d G _ _) (zC7 h);unfold edZ at this;rw[kQ] at this;exact this
end
theorem vk_3{n:Pt}(hn:n≠zT){i j k:Nat}(h1:i≠j)(h2:i≠k)(h3:j≠k)(hi:zF n (vK i)=0)(hj:zF n (vK j)=0)(hk:zF n (vK k)=0):False:=by
 have e:∀m:Nat,zF n (vK m)=n.x+n.y*((m:Int):Rat)+n.z*(((m:Int):Rat)*((m:Int):Rat)):=λm=>by
  unfold zF vK;simp only[zji];have:((1:Int):Rat)=1:=I;rw[this];grind
 have C:∀a b:Nat,a≠b->((a:Int):Rat)-((b:Int):Rat)≠0:=λa b h e=>h (by
  have:=zqu.1 (show((a:Int):Rat)=((b:Int):Rat) by grind);omega)
 rw[e] at hi hj hk;have J:=C i j h1;have H:=C i k h2;have D:=C j k h3;generalize ((i:Int):Rat)=x at *;generalize ((j:Int):Rat)=y at *;generalize ((k:Int):Rat)=z at *;have U:(x-y)*(n.y+n.z*(x+y))=0:=by grind
 have O:(x-z)*(n.y+n.z*(x+z))=0:=by grind
 have m1:=(zoe.1 U).resolve_left J;have Z:=(zoe.1 O).resolve_left H;have g3:n.z*(y-z)=0:=by grind
 have M:=(zoe.1 g3).resolve_right D;exact hn (by rw[qZ];exact⟨show n.x=0 by grind,show n.y=0 by grind,M⟩)
theorem zXY{d:Pt}(hd:d≠zT){i j:Nat}(h:i≠j)(hi:zO d (vK i)=zT)(hj:zO d (vK j)=zT):False:=by
 have H:=zbi T3.z hi;have D:=zbi T3.z hj;have J:=zbi T3.y hi;have o:((1:Int):Rat)=1:=I;have U:d.x*((i:Int):Rat)-d.y*1=0:=H;have Z:d.x*((j:Int):Rat)-d.y*1=0:=D;have O:d.z*1-d.x*(((i:Int)*(i:Int):Int):Rat)=0:=J;have M:((i:Int):Rat)-((j:Int):Rat)≠0:=λe=>h (by
  have:=zqu.1 (show((i:Int):Rat)=((j:Int):Rat) by grind);omega)
 have g:d.x*(((i:Int):Rat)-((j:Int):Rat))=0:=by grind
 have C:=(zoe.1 g).resolve_right M;exact hd (by
  rw[qZ];rw[C] at U O;exact⟨C,show d.y=0 by grind,show d.z=0 by grind⟩)
theorem yCC{s:Sd}(h:jQ s)(p:Pt){d d0:Pt}(hd:d≠zT)(hd0:d0≠zT):∃k:Nat,zIG s p (vK k)/\(∀f,f<s.2.1.length->cnF s (vK k) f≠0)/\zO d (vK k)≠zT/\zO d0 (vK k)≠zT:=by
 have M:=cG h;have H:=fO h;obtain⟨k,hk,D⟩:=zQ7 (λ(q:Nat->Prop) (k:Nat)=>q k) ((sfE s s.2.1.length).map (λ(e:PIr) (k:Nat)=>lY p (ptI s.1 e.1) (ptI s.1 e.2) (vK k))++((List.range s.2.1.length).map (λ(f k:Nat)=>cnF s (vK k) f=0)++[λk:Nat=>zO d (vK k)=zT,λk:Nat=>zO d0 (vK k)=zT])) (List.range (2*((sfE s s.2.1.length).map (λ(e:PIr) (k:Nat)=>lY p (ptI s.1 e.1) (ptI s.1 e.2) (vK k))++((List.range s.2.1.length).map (λ(f k:Nat)=>cnF s (vK k) f=0)++[λk:Nat=>zO d (vK k)=zT,λk:Nat=>zO d0 (vK k)=zT])).length+1)) List.nodup_range (by rw[yku];omega) λq C i j k h1 h2 h3 a b c=>by
  rw[zmu,zmu] at C
  rcases C with C|C|C
  · obtain⟨e,J,rfl⟩:=zlu.1 C
    exact yHM (yG9 J) h1 h2 h3 a b c
  · obtain⟨f,hf,rfl⟩:=zlu.1 C
    exact vk_3 (H f (zog.1 hf)).1 h1 h2 h3 a b c
  · simp only[zfu,zge,or_false] at C
    rcases C with rfl|rfl
    · exact zXY hd h1 a b
    · exact zXY hd0 h1 a b
 refine⟨k,(zM3 M p _).2 λe J=>?_,λf hf=>?_,?_,?_⟩
 · exact D _ (zqe _ (zlu.2 ⟨e,J,I⟩))
 · exact D _ (zve _ (zqe _ (zlu.2 ⟨f,zog.2 hf,I⟩)))
 · exact D _ (zve _ (zve _ (.head _)))
 · exact D _ (zve _ (zve _ (.tail _ (.head _))))
theorem yMU{N d G:Pt}(hG:zF N G≠0)(hp:zO d G≠zT):tuT N d G≠zT:=λe=>hp (by
 unfold tuT wV scT at e;rw[qZ] at e;obtain⟨e1,e2,e3⟩:=e;have z:(zT:Pt).x=0/\(zT:Pt).y=0/\(zT:Pt).z=0:=⟨rfl,rfl,rfl⟩;simp only at e1 e2 e3;generalize zF N G=g at *;generalize zF N d=c at *;have core:∀x:Rat,g*x=0->x=0:=λx e=>(zoe.1 e).resolve_left hG;unfold zO;rw[qZ];exact⟨core _ zo2,core _ zo2,core _ zo2⟩)
theorem zJC{s:Sd}(h:jQ s)(hw:wnP s){p d d0:Pt}(ho:¬onB s p)(hd:d≠zT)(hb:nbS s p d)(hd0:d0≠zT)(hb0:nbS s p d0):crS s p d s.2.1.length=crS s p d0 s.2.1.length:=by
 obtain⟨k,hk,hc,h1,h2⟩:=yCC h p hd hd0;have hbk:=zB1 h hk;have key:∀x:Pt,zO x (vK k)≠zT->nbS s p x->crS s p x s.2.1.length=crS s p (vK k) s.2.1.length:=λx hx hbx=>by
  have hn:∀n,n<=s.2.1.length->kES s p x (vK k) n=crS s p x n-crS s p (vK k) n:=by
   intro n
   induction n with
   |zero=>intro _;rfl
   |succ n ih=>
    intro hn
    show kES s p x (vK k) n+kE x (vK k) (edS s p n)=crS s p x n+crE s p x n-(crS s p (vK k) n+crE s p (vK k) n)
    rw[ih zot,zXB (fO h) hw (show n<s.2.1.length by omega) (λe=>ho ⟨n,zot,e⟩) (hbx n zot) (hbk n zot) (hc n zot) (yMU (hc n zot) hx)];omega
  have:=hn _ (zbe _);rw[yBP h] at this;omega
 rw[key d h1 hb,key d0 h2 hb0]
def bxC(c:SI->Bool):Bool:=(List.range 2).all λp=>(List.range 2).all λq=>(List.range 2).all λr=>c (bxJ (1+p:Nat) (1+q:Nat) (1+r:Nat))
def baC(c:SI->Bool):Bool:=baT.all λT=>c (nrI (prI T 1))&&c (nrI (prI T 2))
def trC(c:SI->Bool):Bool:=(List.range 3).all λa=>(List.range 2).all λb=>(List.range 2).all λk=>c (nrI (prI (trT a b k) 1))&&c (nrI (prI (trT a b k) 2))
def teC(c:SI->Bool):Bool:=(List.range 3).all λp=>(List.range 2).all λk=>(List.range 3).all λq=>(List.range 3).all λe=>(List.range 3).all λf=>(List.range 3).all λg=>c (nrI (teI p k q e f g))
theorem yIT{c:SI->Bool}(h:teC c=true){p k q e f g:Nat}(hp:p<3)(hk:k<2)(hq:q<3)(he:e<3)(hf:f<3)(hg:g<3):c (nrI (teI p k q e f g))=true:=
 zob.1 (zob.1 (zob.1 (zob.1 (zob.1 (zob.1 h p (zog.2 hp)) k (zog.2 hk)) q (zog.2 hq)) e (zog.2 he)) f (zog.2 hf)) g (zog.2 hg)
theorem zMW{c:SI->Bool}(hb:bxC c=true)(ha:baC c=true)(hr:trC c=true)(ht:teC c=true){I:SI}(h:yCR I):c I=true:=by
 rcases h with⟨p,q,r,⟨hp,hq,hr⟩,rfl⟩|⟨T,h,hT,hh,rfl⟩|⟨p,k,q,e,f,g,⟨hp,hk,hq⟩,⟨he,hf,hg⟩,rfl⟩
 · exact zob.1 (zob.1 (zob.1 hb p (zog.2 hp)) q (zog.2 hq)) r (zog.2 hr)
 · rcases hT with hT|⟨a,b,k,⟨ha',hb',hk⟩,rfl⟩
   · have h1:=zob.1 ha T hT
     rw[zbu] at h1
     rcases hh with rfl|rfl
     · exact h1.1
     · exact h1.2
   · have h1:=zob.1 (zob.1 (zob.1 hr a (zog.2 ha')) b (zog.2 hb')) k (zog.2 hk)
     rw[zbu] at h1
     rcases hh with rfl|rfl
     · exact h1.1
     · exact h1.2
 · exact yIT ht hp hk hq he hf hg
def somI(I:SI):Bool:=decide (0<I.1.length/\0<I.2.length)
theorem yGG{I:SI}(h:yCR I):somI I=true:=zMW (by decide +kernel) (by decide +kernel) (by decide +kernel) (by decide +kernel) h
theorem yET{s:Sd}(h:zIP s):0<s.1.length/\0<s.2.1.length:=by
 obtain⟨v,I,D,H,C⟩:=h;have h1:=z4u (yGG D);rw[w9 C,C.2.2.1];exact h1
def cI(u:PI):P2:=((u.1:Rat),(u.2:Rat))
abbrev BE:=PI×PI×Int
def fBE(e:BE)(y:Int):Int:=e.1.1*(e.2.1.2-e.1.2)+(e.2.1.1-e.1.1)*(y-e.1.2)
def hBE(e:BE):Int:=e.2.1.2-e.1.2
def yBF(k:Int)(a b:BE):Bool:=decide (fBE a k*hBE b<=fBE b k*hBE a)&&decide (fBE a (k+1)*hBE b<=fBE b (k+1)*hBE a)
def mdBE(k:Int)(a b:BE):Bool:=decide ((fBE a k+fBE a (k+1))*hBE b<=(fBE b k+fBE b (k+1))*hBE a)
def zT5(k:Int)(e:BE):List BE->List BE
  |[]=>[e]
  |x::r=>if mdBE k e x then e::x::r else x::zT5 k e r
def zYN(k:Int):List BE->List BE
  |[]=>[]
  |x::r=>zT5 k x (zYN k r)
def lO(k:Int):List (PI×PI)->List BE
  |[]=>[]
  |x::r=>if x.1.2<=k/\k<x.2.2 then(x.1,x.2,1)::lO k r else if x.2.2<=k/\k<x.1.2 then(x.2,x.1,-1)::lO k r else lO k r
def zP6(k:Int):List BE->Bool
  |[]=>true
  |[_]=>false
  |[a,b]=>decide (a.2.2= -1/\b.2.2=1)&&yBF k a b
  |a::b::c::r=>decide (a.2.2= -1/\b.2.2=1)&&yBF k a b&&yBF k b c&&zP6 k (c::r)
def edI(S:List (List PI)):List (PI×PI):=S.flatMap λs=>(List.range s.length).map λm=>(gI s m,gI s ((m+1)%s.length))
def yME(lo n:Nat)(S:List (List PI)):Bool:=(edI S).all (λx=>decide (-(lo:Int)<=x.1.2/\x.1.2<=(n:Int))&&decide (-(lo:Int)<=x.2.2/\x.2.2<=(n:Int)))&&(List.range (lo+n)).all λ(k:Nat)=>zP6 ((k:Int)-(lo:Int)) (zYN ((k:Int)-(lo:Int)) (lO ((k:Int)-(lo:Int)) (edI S)))
def nE(q:P2):List (PI×PI)->Int
  |[]=>0
  |x::r=>c2Z (cI x.1) (cI x.2) q+nE q r
def cR(q:P2)(e:BE):Prop:=0<cr (cI e.1) (cI e.2.1) q
def zF9(q:P2):List BE->Int
  |[]=>0
  |e::r=>(if cR q e then e.2.2 else 0)+zF9 q r
theorem yB6{a b:Int}:(a:Rat)<=(b:Rat)↔a<=b:=by rw[<-Rat.not_lt,z1u,y2u]
section
variable {q:P2}{k:Int}(hk:(k:Rat)<=q.2/\q.2<((k+1:Int):Rat))
include hk
theorem zEV(a:Int):(a:Rat)<=q.2↔a<=k:=by
 constructor
 · intro h
   have h1:(a:Rat)<((k+1:Int):Rat):=by grind
   have:=z1u.1 h1;omega
 · intro h
   have:=yB6.2 h;grind
theorem zJK:∀E:List (PI×PI),nE q E=zF9 q (lO k E)
  |[]=>rfl
  |x::r=>by
   have ih:=zJK r
   show c2Z (cI x.1) (cI x.2) q+nE q r=zF9 q (lO k (x::r))
   rw[ih];unfold c2Z kW orZ;have e1:(cI x.1).2<=q.2↔x.1.2<=k:=zEV hk x.1.2;have e2:(cI x.2).2<=q.2↔x.2.2<=k:=zEV hk x.2.2;have ec:cr (cI x.2) (cI x.1) q= -cr (cI x.1) (cI x.2) q:=by unfold cr;grind
   simp only[oK,qW];rw[show lO k (x::r)=(if x.1.2<=k/\k<x.2.2 then(x.1,x.2,1)::lO k r else if x.2.2<=k/\k<x.1.2 then(x.2,x.1,-1)::lO k r else lO k r) from I]
   by_cases c1:x.1.2<=k/\k<x.2.2
   · rw[zau c1]
     show _=(if cR q (x.1,x.2,1) then 1 else 0)+_
     have:cR q (x.1,x.2,1)↔0<cr (cI x.1) (cI x.2) q:=Iff.rfl;have J:¬(cI x.2).2<=q.2:=λe=>by have:=e2.1 e;omega
     have C:(cI x.1).2<=q.2:=e1.2 c1.1
     by_cases h:0<cr (cI x.1) (cI x.2) q
     · rw[zau (this.2 h),zau ⟨λe=>J (e.1 C),.inl ⟨C,h⟩⟩,zau C]
     · rw[zae λe=>h (this.1 e),zae λe=>e.2.elim (λe=>h e.2) (λe=>J e.1)]
   · rw[zae c1]
     by_cases c2:x.2.2<=k/\k<x.1.2
     · rw[zau c2]
       show _=(if cR q (x.2,x.1,-1) then -1 else 0)+_
       have:cR q (x.2,x.1,-1)↔cr (cI x.1) (cI x.2) q<0:=by
        show 0<cr (cI x.2) (cI x.1) q↔_
        rw[ec];constructor<;>intro h<;>grind
       have D:¬(cI x.1).2<=q.2:=λe=>by have:=e1.1 e;omega
       have H:(cI x.2).2<=q.2:=e2.2 c2.1
       by_cases h:cr (cI x.1) (cI x.2) q<0
       · rw[zau (this.2 h),zau ⟨λe=>D (e.2 H),.inr ⟨H,h⟩⟩,zae D]
       · rw[zae λe=>h (this.1 e),zae λe=>e.2.elim (λe=>D e.1) (λe=>h e.2)]
     · rw[zae c2,zae λe=>e.1 (by rw[e1,e2];omega),yxe]
omit hk in
theorem zFU:∀E:List (PI×PI),∀e,e∈lO k E->e.1.2<=k/\k<e.2.1.2
  |[],_,h=>by cases h
  |x::r,e,h=>by
   unfold lO at h
   split at h
   · rename_i c
     rcases zfu.1 h with rfl|h
     · exact c
     · exact zFU r e h
   · split at h
     · rename_i c
       rcases zfu.1 h with rfl|h
       · exact c
       · exact zFU r e h
     · exact zFU r e h
theorem u5{a b:BE}(ha:a.1.2<=k/\k<a.2.1.2)(hb:b.1.2<=k/\k<b.2.1.2)(h:yBF k a b=true)(hl:cR q a):cR q b:=by
 unfold yBF at h;rw[zbu,zfe,zfe] at h;have h1:=yB6.2 h.1;have h2:=yB6.2 h.2;have M:(0:Rat)<((hBE a:Int):Rat):=yju.2 (by unfold hBE;omega);have J:(0:Rat)<((hBE b:Int):Rat):=yju.2 (by unfold hBE;omega);have C:∀e:BE,cr (cI e.1) (cI e.2.1) q=((fBE e k:Int):Rat)+(q.2-(k:Rat))*(((fBE e (k+1):Int):Rat)-((fBE e k:Int):Rat))-((hBE e:Int):Rat)*q.1:=λe=>by
  unfold cr cI fBE hBE;simp only[zli,zru,zji];have:((1:Int):Rat)=1:=I;rw[this];grind
 unfold cR at *;rw[C] at hl ⊢;simp only[zji] at h1 h2;have H:0<=q.2-(k:Rat):=by grind
 have D:0<=1-(q.2-(k:Rat)):=by
  have:=hk.2;simp only[zli] at this;have o:((1:Int):Rat)=1:=I;rw[o] at this;grind
 generalize ((hBE a:Int):Rat)=x at *;generalize ((hBE b:Int):Rat)=y at *;generalize ((fBE a k:Int):Rat)=a0 at *;generalize ((fBE a (k+1):Int):Rat)=a1 at *;generalize ((fBE b k:Int):Rat)=b0 at *;generalize ((fBE b (k+1):Int):Rat)=b1 at *;generalize q.2-(k:Rat)=t at *;have Z:=uD J hl;have U:=zod D (show 0<=b0*x-a0*y by grind);have O:=zod H (show 0<=b1*x-a1*y by grind);rw[<-vJ M];grind
theorem zU3:∀{B:List BE},(∀e,e∈B->e.1.2<=k/\k<e.2.1.2)->zP6 k B=true->(∀e,B.head?=some e->cR q e)->zF9 q B=0
  |[],_,_,_=>rfl
  |[_],_,h,_=>Bool.noConfusion h
  |[a,b],hu,h,hh=>by
   unfold zP6 at h;rw[zbu,zfe] at h;have la:=hh a rfl;have lb:=u5 hk (hu a zo3) (hu b zo3) h.2 la
   show(if cR q a then a.2.2 else 0)+((if cR q b then b.2.2 else 0)+0)=0
   rw[zau la,zau lb,h.1.1,h.1.2];rfl
  |a::b::c::r,hu,h,hh=>by
   unfold zP6 at h;rw[zbu,zbu,zbu,zfe] at h;have la:=hh a rfl;have lb:=u5 hk (hu a zo3) (hu b zo3) h.1.1.2 la;have lc:=u5 hk (hu b zo3) (hu c zo3) h.1.2 lb;have ih:=zU3 (B:=c::r) (λe he=>hu e (.tail _ (.tail _ he))) h.2 λe he=>by
    have:c=e:=by simpa using he
    exact this▸lc
   show(if cR q a then a.2.2 else 0)+((if cR q b then b.2.2 else 0)+zF9 q (c::r))=0
   rw[zau la,zau lb,h.1.1.1.1,h.1.1.1.2,ih];rfl
theorem yDX:∀{B:List BE},(∀e,e∈B->e.1.2<=k/\k<e.2.1.2)->zP6 k B=true->zF9 q B=0\/zF9 q B=1
  |[],_,_=>.inl rfl
  |[_],_,h=>Bool.noConfusion h
  |[a,b],hu,h=>by
   unfold zP6 at h;rw[zbu,zfe] at h;have hl:=u5 hk (hu a zo3) (hu b zo3) h.2
   show(if cR q a then a.2.2 else 0)+((if cR q b then b.2.2 else 0)+0)=0\/(if cR q a then a.2.2 else 0)+((if cR q b then b.2.2 else 0)+0)=1
   rw[h.1.1,h.1.2]
   by_cases c1:cR q a
   · rw[zau c1,zau (hl c1)];exact .inl rfl
   · rw[zae c1]
     by_cases c2:cR q b
     · rw[zau c2];exact .inr rfl
     · rw[zae c2];exact .inl rfl
  |a::b::c::r,hu,h=>by
   unfold zP6 at h;rw[zbu,zbu,zbu,zfe] at h;have hl:=u5 hk (hu a zo3) (hu b zo3) h.1.1.2;have hc:=u5 hk (hu b zo3) (hu c zo3) h.1.2
   show(if cR q a then a.2.2 else 0)+((if cR q b then b.2.2 else 0)+zF9 q (c::r))=0\/(if cR q a then a.2.2 else 0)+((if cR q b then b.2.2 else 0)+zF9 q (c::r))=1
   rw[h.1.1.1.1,h.1.1.1.2]
   by_cases c2:cR q b
   · have h0:=zU3 hk (B:=c::r) (λe he=>hu e (.tail _ (.tail _ he))) h.2 λe he=>by
      have:c=e:=by simpa using he
      exact this▸hc c2
     rw[zau c2,h0]
     by_cases c1:cR q a
     · rw[zau c1];exact .inl I
     · rw[zae c1];exact .inr I
   · rw[zae c2,zae λe=>c2 (hl e)]
     have C:=yDX (B:=c::r) (λe he=>hu e (.tail _ (.tail _ he))) h.2;omega
end
theorem zPD(k:Int)(e:BE):∀l,(zT5 k e l).Perm (e::l)
  |[]=>.refl _
  |x::r=>by
   unfold zT5
   split
   · exact .refl _
   · exact((zPD k e r).cons x).trans (.swap e x r)
theorem zGA(k:Int):∀l,(zYN k l).Perm l
  |[]=>.refl _
  |x::r=>(zPD k x _).trans ((zGA k r).cons x)
theorem zVF{q:P2}{a b:List BE}(h:a.Perm b):zF9 q a=zF9 q b:=by
 induction h with
 |nil=>rfl
 |cons x _ ih=>show _+_=_+_;rw[ih]
 |swap x y l=>show(if cR q y then y.2.2 else 0)+((if cR q x then x.2.2 else 0)+_)=(if cR q x then x.2.2 else 0)+((if cR q y then y.2.2 else 0)+_);omega
 |trans _ _ h1 h2=>exact h1.trans h2
theorem yGX{lo n:Nat}{S:List (List PI)}(h:yME lo n S=true)(q:P2):nE q (edI S)=0\/nE q (edI S)=1:=by
 unfold yME at h;rw[zbu] at h;have hk:((q.2.floor:Int):Rat)<=q.2/\q.2<((q.2.floor+1:Int):Rat):=⟨Rat.floor_le q.2,Rat.lt_floor_add_one q.2⟩;generalize q.2.floor=k at hk;rw[zJK hk]
 by_cases hr:-(lo:Int)<=k/\k<n
 · have h1:=zob.1 h.2 (k+lo).toNat (zog.2 zot)
   rw[show(((k+(lo:Int)).toNat:Int)-(lo:Int))=k by omega] at h1;rw[<-zVF (zGA k _)];exact yDX hk (λe he=>zFU (edI S) e ((zGA k _).mem_iff.1 he)) h1
 · have h0:lO k (edI S)=[]:=by
    refine yue.2 λe he=>?_;have aux:∀E:List (PI×PI),(∀x,x∈E->(-(lo:Int)<=x.1.2/\x.1.2<=(n:Int))/\(-(lo:Int)<=x.2.2/\x.2.2<=(n:Int)))->lO k E=[]:=by
     intro E
     induction E with
     |nil=>intro _;rfl
     |cons x r ih=>
      intro hE;have hx:=hE x (.head _);unfold lO;rw[zae zot,zae zot];exact ih λy hy=>hE y (.tail _ hy)
    rw[aux _ λx hx=>by
     have:=zob.1 h.1 x hx;rw[zbu,zfe,zfe] at this;exact this] at he
    cases he
   rw[h0];exact .inl I
def yDY(I:SI):Bool:=I.2.all λf=>yME 0 4 (f.2.2.1.map (flI (tA f.1) I.1))
theorem yMC:bxC yDY=true:=by decide +kernel
theorem yMD:baC yDY=true:=by decide +kernel
theorem yMA:trC yDY=true:=by decide +kernel
theorem yMB:teC yDY=true:=by decide +kernel
theorem yGH{I:SI}(h:yCR I):yDY I=true:=zMW yMC yMD yMA yMB h
theorem zC5(q:P2):∀a b:List (PI×PI),nE q (a++b)=nE q a+nE q b
  |[],b=>by show _=0+_;rw[yxe];rfl
  |x::r,b=>by
   show c2Z (cI x.1) (cI x.2) q+nE q (r++b)=c2Z (cI x.1) (cI x.2) q+nE q r+_
   rw[zC5 q r b];omega
theorem yHN(a:Nat×Nat)(P:List I3){x:List Int}{m:Nat}(h:m<x.length):gI (flI a P x) m=(aI3 (g3 P (x.getD m 0).toNat) a.1,aI3 (g3 P (x.getD m 0).toNat) a.2):=by
 unfold gI flI;exact qI (λk:Int=>(aI3 (g3 P k.toNat) a.1,aI3 (g3 P k.toNat) a.2)) 0 (0,0) h
theorem yHB(v u:I3)(i j:Nat):pr (cP v u) i j=((cI (aI3 u i,aI3 u j)).1+((aI3 v i:Int):Rat),(cI (aI3 u i,aI3 u j)).2+((aI3 v j:Int):Rat)):=by
 unfold pr cI;rw[yHX,yHX,zli,zli];refine Prod.ext ?_ ?_
 · show _+_=_+_;grind
 · show _+_=_+_;grind
section
variable {v:I3}{I:SI}{s:Sd}
theorem yH7(h:aH v I s)(hb:chI I=true){f:Nat}(hf:f<I.2.length)(q:Pt):∃q':P2,wnS s f q=nE q' (edI ((I.2.getD f fi0).2.2.1.map (flI (tA (I.2.getD f fi0).1) I.1))):=by
 obtain⟨c1,c2⟩:=yFR h hb hf;obtain⟨r,hr,hpl⟩:=zTS (h.2.2.2 f hf);have hax:=zHJ (v:=v) (f:=I.2.getD f fi0) hr;rw[<-hpl] at hax;have hai:axI (xL s f)=(tA (I.2.getD f fi0).1).1:=hax.1;have haj:axJ (xL s f)=(tA (I.2.getD f fi0).1).2:=hax.2;refine⟨((pr q (tA (I.2.getD f fi0).1).1 (tA (I.2.getD f fi0).1).2).1-((aI3 v (tA (I.2.getD f fi0).1).1:Int):Rat),(pr q (tA (I.2.getD f fi0).1).1 (tA (I.2.getD f fi0).1).2).2-((aI3 v (tA (I.2.getD f fi0).1).2:Int):Rat)),?_⟩;unfold wnS;rw[hai,haj,c1];generalize hA:tA (I.2.getD f fi0).1=A at *;generalize hL:(I.2.getD f fi0).2.2.1=L at *;generalize hQ:pr q A.1 A.2=Q;have hq:Q=((Q.1-((aI3 v A.1:Int):Rat))+((aI3 v A.1:Int):Rat),(Q.2-((aI3 v A.2:Int):Rat))+((aI3 v A.2:Int):Rat)):=by
  refine Prod.ext ?_ ?_
  · show _=_-_+_;grind
  · show _=_-_+_;grind
 have hloop:∀l,l<L.length->∀m,m<=(L.getD l []).length->wnT (gl (xR s f) l) Q A.1 A.2 m=nE (Q.1-((aI3 v A.1:Int):Rat),Q.2-((aI3 v A.2:Int):Rat)) ((List.range m).map λm=>(gI (flI A I.1 (L.getD l [])) m,gI (flI A I.1 (L.getD l [])) ((m+1)%(flI A I.1 (L.getD l [])).length))):=by
  intro l hl m;obtain⟨c3,c4⟩:=c2 l hl;have hfl:(flI A I.1 (L.getD l [])).length=(L.getD l []).length:=zde _
  induction m with
  |zero=>intro _;rfl
  |succ m ih=>
   intro hm;rw[yvu,zle,zC5,<-ih zot]
   show wnT (gl (xR s f) l) Q A.1 A.2 m+c2Z (pr (gp (gl (xR s f) l) m) A.1 A.2) (pr (gp (gl (xR s f) l) ((m+1)%(gl (xR s f) l).length)) A.1 A.2) Q=_+(c2Z (cI (gI (flI A I.1 (L.getD l [])) m)) (cI (gI (flI A I.1 (L.getD l [])) ((m+1)%(flI A I.1 (L.getD l [])).length))) _+0)
   have hmod:(m+1)%(L.getD l []).length<(L.getD l []).length:=zcu _ zot;rw[c3,hfl,yHN A I.1 (show m<(L.getD l []).length by omega),yHN A I.1 hmod,c4 m zot,c4 _ hmod,yHB,yHB,y4u]
   congr 1
   refine(zbi (c2Z _ _) hq).trans ?_;exact zP2 (q:=(Q.1-((aI3 v A.1:Int):Rat),Q.2-((aI3 v A.2:Int):Rat))) (((aI3 v A.1:Int):Rat),((aI3 v A.2:Int):Rat))
 have hall:∀n,n<=L.length->wnF (xR s f) Q A.1 A.2 n=nE (Q.1-((aI3 v A.1:Int):Rat),Q.2-((aI3 v A.2:Int):Rat)) (edI ((L.take n).map (flI A I.1))):=by
  intro n
  induction n with
  |zero=>intro _;rfl
  |succ n ih=>
   intro hn;have hn':n<L.length:=by omega
   rw[zue hn',zle];unfold edI;rw[List.flatMap_append,zC5]
   show wnF (xR s f) Q A.1 A.2 n+wnT (gl (xR s f) n) Q A.1 A.2 (gl (xR s f) n).length=_
   have e:=ih zot;unfold edI at e;rw[e]
   congr 1
   obtain⟨c3,c4⟩:=c2 n hn';have hg:L[n]=L.getD n []:=by rw[zoa,zoc hn'];rfl
   rw[c3,hloop n hn' _ (zbe _),hg]
   show _=nE _ (List.flatMap _ [flI A I.1 (L.getD n [])])
   rw[List.flatMap_cons,List.flatMap_nil,zqi];have hfl:(flI A I.1 (L.getD n [])).length=(L.getD n []).length:=zde _;rw[hfl]
 have:=hall _ (zbe _);rw[z6i] at this;exact this
end
theorem zYP{s:Sd}(h:zIP s):wnP s:=by
 obtain⟨v,I,D,J,C⟩:=h;intro f hf q _;rw[C.2.2.1] at hf;obtain⟨H,e⟩:=yH7 C (zMX D) hf q;rw[e];have h1:=zob.1 (yGH D) _ (kJ (d:=fi0) hf);exact yGX h1 H
end Bk
namespace Bk
open Go Go.RowKit
section
variable {P:Program}{n:Nat}{w0:World}{h0:Mem}{e:List (Nat×Value)}{A B R:List Res}{q:Res}{h:Mem}{Q:Exit->Act->World->Prop}
theorem yIQ:(A++q::(B++R)).Perm (A++(B++(R++[q]))):=by
 refine List.Perm.append_left A ?_;rw[<-zki];exact(List.perm_append_singleton q (B++R)).symm
theorem zW7{ops:Array Oper}{l:List Oper}(k:GL P n w0 h0 ops Q l e (A++(B++(R++[q]))) h):GL P n w0 h0 ops Q l e (A++q::(B++R)) h:=λa w E S=>k a w E (S.perm yIQ)
theorem yCA{x:Exit}(k:GQ n w0 h0 Q x e (q::(A++B)) h):GQ n w0 h0 Q x e (A++q::B) h:=λa w E S=>k a w E (S.perm yci)
theorem yNC:((A++R)++B).Perm (A++(B++R)):=by
 rw[zki];exact List.Perm.append_left A List.perm_append_comm
theorem yCF{ops:Array Oper}{l:List Oper}(k:GL P n w0 h0 ops Q l e (A++(B++R)) h):GL P n w0 h0 ops Q l e ((A++R)++B) h:=λa w E S=>k a w E (S.perm yNC)
end
section
variable {α:Type}{ρ:Rp α}{E:Nat}{h h':Mem}
def mC(E:Nat)(ρ:Rp α)(h:Mem):List Value->List (List α)->List Res->Prop
  |[],_,R=>R=[]
  |v::vs,x::xs,R=>∃cs R',R=.gs E ρ.n v x.length cs::R'/\v.oneCell'=true/\RL ρ h cs x/\mC E ρ h vs xs R'
  |_::_,[],_=>False
theorem mC.mono(hh:MLe h h'):∀{vs:List Value} {xs:List (List α)} {R:List Res},mC E ρ h vs xs R->mC E ρ h' vs xs R
  |[],_,_,r=>r
  |_::_,_::_,_,⟨cs,R',e,o,r,s⟩=>⟨cs,R',e,o,r.mono hh,s.mono hh⟩
  |_::_,[],_,r=>r.elim
theorem mC.snoc:∀{vs:List Value} {xs:List (List α)} {R:List Res} {v:Value} {x:List α} {cs:List Value},mC E ρ h vs xs R->vs.length=xs.length->v.oneCell'=true->RL ρ h cs x->mC E ρ h (vs++[v]) (xs++[x]) (R++[.gs E ρ.n v x.length cs])
  |[],[],R,v,x,cs,r,_,o,rl=>by
   have:R=[]:=r;subst this;exact⟨cs,[],rfl,o,rl,rfl⟩
  |[],_::_,_,_,_,_,_,hl,_,_=>absurd hl zo3
  |_::_,[],_,_,_,_,r,_,_,_=>r.elim
  |_::vs,_::xs,R,v,x,cs,⟨c1,R',e,o1,r1,s⟩,hl,o,rl=>by
   subst e;exact⟨c1,_,rfl,o1,r1,s.snoc (by simpa using hl) o rl⟩
theorem mC.head{vs:List Value}{xs:List (List α)}{R:List Res}{i:Nat}(r:mC E ρ h (vs.drop i) (xs.drop i) R)(hi:i<vs.length)(hx:i<xs.length):∃cs R',R=.gs E ρ.n (vs.getD i (.slice none 0 0)) (xs.getD i []).length cs::R'/\(vs.getD i (.slice none 0 0)).oneCell'=true/\RL ρ h cs (xs.getD i [])/\mC E ρ h (vs.drop (i+1)) (xs.drop (i+1)) R':=by
 rw[z4e hi,z4e hx] at r;have D:vs.getD i (.slice none 0 0)=vs[i]:=by rw[zoa,zoc hi];rfl
 have C:xs.getD i []=xs[i]:=by rw[zoa,zoc hx];rfl
 rw[D,C];exact r
end
abbrev FV:=Pl×Value×List Nat
abbrev fv0:FV:=((T3.mk (0:Rat) 0 0,(0:Rat)),((Value.slice none 0 0),([]:List Nat)))
abbrev nV:Value:=.slice none 0 0
def fvZ(F:List Fc)(vs:List Value):Nat->List FV:=wS λu=>((F.getD u zA).1,(vs.getD u nV,(F.getD u zA).2.2))
def lpS(F:List Fc):List (List (List Int)):=F.map λf=>f.2.1
section
variable {k l:Nat}{h:Mem}
theorem fv_R{π:Rp Pl}{cs:List Value}{a:Pl}{v:Value}{X:List (List Int)}{m:List Nat}(r:(rpP π (rpP rpV qF)).R h cs (a,(v,m)))(s:(rpS (rpS rpI)).Is h v X):(rpP π (rpP (rpS (rpS rpI)) qF)).R h cs (a,(X,m)):=by
 obtain⟨p,q,e,J,C,M,O,H,D⟩:=r;exact⟨p,q,e,J,C,M,O,by rw[show C=[v] from H.1];exact zLB s,D⟩
theorem yHO{π:Rp Pl}:∀{xs:List FV} {ys:List Fc} {cs:List Value},RL (rpP π (rpP rpV qF)) h cs xs->xs.length=ys.length->(∀u,u<xs.length->(xs.getD u fv0).1=(ys.getD u zA).1/\(xs.getD u fv0).2.2=(ys.getD u zA).2.2/\(rpS (rpS rpI)).Is h (xs.getD u fv0).2.1 (ys.getD u zA).2.1)->RL (rpP π (rpP (rpS (rpS rpI)) qF)) h cs ys
  |[],[],_,r,_,_=>r
  |[],_::_,_,_,hl,_=>absurd hl zo3
  |_::_,[],_,_,hl,_=>absurd hl zo3
  |x::xs,y::ys,_,⟨a,b,e,r,s⟩,hl,hg=>by
   obtain⟨g1,g2,g3⟩:=hg 0 (yme _);refine⟨a,b,e,?_,yHO s (by simpa using hl) λu hu=>hg (u+1) (Nat.succ_lt_succ hu)⟩;obtain⟨x1,x2,x3⟩:=x;obtain⟨y1,y2,y3⟩:=y;have g1':x1=y1:=g1;have g2':x3=y3:=g2;subst g1' g2';exact fv_R r g3
end
theorem zTY(F:List Fc){i:Nat}(hi:i<F.length):(lpS F).getD i []=(F.getD i zA).2.1:=by
 unfold lpS;rw[zoa,zoa,zvi,zoc hi];rfl
theorem yBA{F:List Fc}{i:Nat}(hi:i<F.length):(lpS F).take (i+1)=(lpS F).take i++[(F.getD i zA).2.1]:=by
 have C:i<(lpS F).length:=by unfold lpS;rw[zde];exact hi
 rw[zue C,<-zTY F hi,zoa,zoc C];rfl
theorem zMA(F:List Fc):(lpS F).length=F.length:=zde _
theorem yFV(F:List Fc):(lpS F).take F.length=lpS F:=by rw[<-zMA,z6i]
theorem yN3{π:Rp Pl}{ρ:Rp (List Int)}{h:Mem}{v:Value}{f:Fc}(r:(rpP π (rpP (rpS ρ) qF)).Is h v f):∃u,(rpP π (rpP rpV qF)).Is h v (f.1,(u,f.2.2))/\(rpS ρ).Is h u f.2.1:=by
 obtain⟨cs,r,e⟩:=r;obtain⟨p,q,Z,J,p2,M,U,C,H⟩:=r;have O:=(rpS ρ).one C;obtain⟨u,ds,rfl,s,D⟩:=C;exact⟨u,⟨cs,⟨p,q,Z,J,[u],M,U,⟨I,by simpa using O⟩,H⟩,e⟩,[u],⟨u,ds,I,s,D⟩,I⟩
theorem yCK{F:List Fc}{vs:List Value}{f:Nat}(v:Value)(h:vs.length=f):fvZ F vs f++[((F.getD f zA).1,(v,(F.getD f zA).2.2))]=fvZ F (vs++[v]) (f+1):=by
 subst h
 show _=fvZ F (vs++[v]) vs.length++[((F.getD vs.length zA).1,((vs++[v]).getD vs.length nV,(F.getD vs.length zA).2.2))]
 have D:(vs++[v]).getD vs.length nV=v:=by simp
 rw[D]
 congr 1
 refine tD _ λu C=>?_;have:(vs++[v]).getD u nV=vs.getD u nV:=by
  rw[zoa,zoa,ypi C]
 rw[this]
def rvL(L:List (List Int))(k:Nat):List (List Int):=wS (λq=>if q<k then lD (L.getD q []) (L.getD q []).length else L.getD q []) L.length
theorem bG(L:List (List Int))(k:Nat):(rvL L k).length=L.length:=yW _ _
theorem iW{L:List (List Int)}{k q:Nat}(hq:q<L.length):(rvL L k).getD q []=if q<k then lD (L.getD q []) (L.getD q []).length else L.getD q []:=uE _ [] hq
theorem zVP(L:List (List Int)):rvL L 0=L:=by
 refine cS [] (bG L 0) λq C=>?_;rw[bG] at C;rw[iW C,zae (z0i q)]
theorem yJR{L:List (List Int)}{k:Nat}(hk:k<L.length):(rvL L k).set k (lD ((rvL L k).getD k []) ((rvL L k).getD k []).length)=rvL L (k+1):=by
 rw[iW hk,zae (ytu k)];refine cS [] (by rw[lS,bG,bG]) λu C=>?_;rw[lS,bG] at C;rw[iW C]
 by_cases e:u=k
 · subst e
   rw[zau (Nat.lt_succ_self u),zoa,yti (by rw[bG];exact C)];rfl
 · rw[zoa,ymi (λh=>e h.symm),<-zoa,iW C]
   by_cases c:u<k
   · rw[zau c,zau zot]
   · rw[zae c,zae zot]
theorem mC.flip{E:Nat}{h:Mem}{vs:List Value}{F:List Fc}{R:List Res}{i:Nat}(r:mC E (rpS rpI) h (vs.drop i) ((lpS F).drop i) R)(hi:i<vs.length)(hx:i<F.length):∃cs R',R=.gs E 1 (vs.getD i nV) (rvL (F.getD i zA).2.1 0).length cs::R'/\(vs.getD i nV).oneCell'=true/\RL (rpS rpI) h cs (rvL (F.getD i zA).2.1 0)/\mC E (rpS rpI) h (vs.drop (i+1)) ((lpS F).drop (i+1)) R':=by
 rw[zVP,<-zTY F hx];exact r.head hi (by rw[zMA];exact hx)
def zE7(h:Mem)(vs:List Value)(G:Nat->List (List Int))(i:Nat):Prop:=∀u,u<i->(rpS (rpS rpI)).Is h (vs.getD u nV) (G u)
theorem zE7.mono{h h':Mem}(hh:MLe h h'){vs:List Value}{G:Nat->List (List Int)}{i:Nat}(r:zE7 h vs G i):zE7 h' vs G i:=λu hu=>(r u hu).mono hh
theorem zE7.next{h h':Mem}(hh:MLe h h'){vs:List Value}{G:Nat->List (List Int)}{i:Nat}(r:zE7 h vs G i)(s:(rpS (rpS rpI)).Is h' (vs.getD i nV) (G i)):zE7 h' vs G (i+1):=λu hu=>by
 rcases zhu.1 hu with h1|rfl
 · exact(r u h1).mono hh
 · exact s
theorem mC.up{α:Type}{ρ:Rp α}{E:Nat}{h h':Mem}{vs:List Value}{xs:List (List α)}{R:List Res}(r:mC E ρ h vs xs R)(hm:MLe h h':=by exact mle):mC E ρ h' vs xs R:=r.mono hm
theorem zE7.up{h h':Mem}{vs:List Value}{G:Nat->List (List Int)}{i:Nat}(r:zE7 h vs G i)(hm:MLe h h':=by exact mle):zE7 h' vs G i:=r.mono hm
def fcS(f:Fc):Fc:=(opP f.1,(rvL f.2.1 f.2.1.length,f.2.2))
def flS(s:Sd):Sd:=(s.1,(s.2.1.map fcS,s.2.2))
end Bk
namespace Bk
end Bk
namespace Bk
open Classical
section
variable {α β:Type}
theorem zTQ(h:Nat->α):∀k,wS h (k+1)=h 0::wS (λm=>h (m+1)) k
  |0=>rfl
  |k+1=>by
   show wS h (k+1)++[h (k+1)]=h 0::(wS (λm=>h (m+1)) k++[h (k+1)])
   rw[zTQ h k];rfl
theorem zR2(g:Nat->α)(p:α->β):∀k,(wS g k).map p=wS (λm=>p (g m)) k
  |0=>rfl
  |k+1=>by
   show(wS g k++[g k]).map p=wS (λm=>p (g m)) k++[p (g k)]
   rw[zle,zR2 g p k];rfl
theorem yA0:∀(k:Nat) (g:Nat->α),(wS (λm=>g (k-1-m)) k).Perm (wS g k)
  |0,_=>.refl _
  |k+1,g=>by
   rw[zTQ];have e:wS (λm=>g (k+1-1-(m+1))) k=wS (λm=>g (k-1-m)) k:=tD _ λm _=>by
    show g _=g _
    rw[show k+1-1-(m+1)=k-1-m by omega]
   rw[e]
   show(g k::_).Perm (wS g k++[g k])
   exact((yA0 k g).cons _).trans (List.perm_append_singleton _ _).symm
theorem zR1{g:Nat->α}{m:Nat}:∀{n},m<n->g m∈wS g n
  |n+1,h=>by
   show g m∈wS g n++[g n]
   rcases zhu.1 h with h|rfl
   · exact zqe _ (zR1 h)
   · exact zve _ (.head _)
theorem zSM{g:Nat->List α}{x:α}{m:Nat}:∀{n},m<n->x∈g m->x∈gP g n
  |n+1,h,hx=>by
   show x∈gP g n++g n
   rcases zhu.1 h with h|rfl
   · exact zqe _ (zSM h hx)
   · exact zve _ hx
end
def pxL(x:List Int):Nat->List QI:=wS λi=>(x.getD i 0,x.getD ((i+1)%x.length) 0)
theorem yHA(x:List Int)(f l n:Nat):(edX x f l n).map rQ=pxL x n:=zR2 _ _ _
theorem yJW(x:List Int):(pxL (lD x x.length) (lD x x.length).length).Perm ((pxL x x.length).map swQ):=by
 have D:(lD x x.length).length=x.length:=yW _ _;have C:∀i,i<x.length->(lD x x.length).getD i 0=x.getD (x.length-1-i) 0:=λi hi=>uE _ 0 hi;unfold pxL;rw[D,zR2];generalize lD x x.length=y at D C
 rcases hn:x.length with _|k
 · exact .refl _
 rw[hn] at C
 show(wS (λi=>(y.getD i 0,y.getD ((i+1)%(k+1)) 0)) k++[(y.getD k 0,y.getD ((k+1)%(k+1)) 0)]).Perm (wS (λm=>swQ (x.getD m 0,x.getD ((m+1)%(k+1)) 0)) k++[swQ (x.getD k 0,x.getD ((k+1)%(k+1)) 0)])
 have J:(y.getD k 0,y.getD ((k+1)%(k+1)) 0)=swQ (x.getD k 0,x.getD ((k+1)%(k+1)) 0):=by
  rw[y4i,C k zot,C 0 zot];unfold swQ;rw[show k+1-1-k=0 by omega,show k+1-1-0=k by omega]
 have H:wS (λi=>(y.getD i 0,y.getD ((i+1)%(k+1)) 0)) k=wS (λm=>(λj=>swQ (x.getD j 0,x.getD ((j+1)%(k+1)) 0)) (k-1-m)) k:=tD _ λm M=>by
  show(y.getD m 0,y.getD ((m+1)%(k+1)) 0)=swQ (x.getD (k-1-m) 0,x.getD ((k-1-m+1)%(k+1)) 0)
  rw[zoh (show m+1<k+1 by omega),zoh (show k-1-m+1<k+1 by omega),C m zot,C (m+1) zot];unfold swQ;rw[show k+1-1-m=k-1-m+1 by omega,show k+1-1-(m+1)=k-1-m by omega]
 rw[J,H];exact(yA0 k λj=>swQ (x.getD j 0,x.getD ((j+1)%(k+1)) 0)).append_right _
theorem zQ4(L:List (List Int))(f:Nat):∀n,n<=L.length->((edL (rvL L L.length) f n).map rQ).Perm (((edL L f n).map rQ).map swQ)
  |0,_=>.refl _
  |n+1,hn=>by
   show((edL (rvL L L.length) f n++edX _ f n _).map rQ).Perm (((edL L f n++edX _ f n _).map rQ).map swQ)
   rw[zle,zle,zle,yHA,yHA,iW zot,zau zot];exact(zQ4 L f n zot).append (yJW _)
abbrev PP(s:Sd)(f:Nat):List QI:=(edL (s.2.1.getD f zA).2.1 f (s.2.1.getD f zA).2.1.length).map rQ
theorem zNA(L:List (List Pt))(p:P2)(i j:Nat):whZ L p i j=0↔∃m,m<L.length/\kL (gl L m) p i j=0:=by
 have hne:∀n,mD L p i j n≠0:=λn=>by
  induction n with
  |zero=>show(-1:Int)≠0;decide
  |succ n ih=>
   show(if kL (L.getD n []) p i j=1 then -(mD L p i j n) else mD L p i j n)≠0
   split<;>omega
 unfold whZ
 split
 · rename_i h;exact⟨λ_=>h,λ_=>I⟩
 · rename_i h;exact⟨λe=>absurd e (hne _),λe=>absurd e h⟩
theorem zPE(l:List Pt)(p:P2)(i j:Nat):kL l p i j=0↔∃m,m<l.length/\onS (vV l i j m) (vT l i j m) p:=by
 unfold kL
 split
 · rename_i h;exact⟨λ_=>h,λ_=>I⟩
 · rename_i h
   refine⟨λe=>?_,λe=>absurd e h⟩
   split at e<;>exact absurd e zox
theorem zP5{s:Sd}(h:jQ s){f:Nat}(hf:f<s.2.1.length)(q:Pt):whF s f q=0↔∃e,e∈PP s f/\onS (pr (ptI s.1 e.1) (axI (xL s f)) (axJ (xL s f))) (pr (ptI s.1 e.2) (axI (xL s f)) (axJ (xL s f))) (pr q (axI (xL s f)) (axJ (xL s f))):=by
 obtain⟨Z,c2⟩:=dW hf (aY h hf).2;rw[eR,zNA]
 show(∃m,m<(xR s f).length/\kL (gl (xR s f) m) (pr q (axI (xL s f)) (axJ (xL s f))) (axI (xL s f)) (axJ (xL s f))=0)↔_
 generalize axI (xL s f)=i;generalize axJ (xL s f)=j;rw[Z];constructor
 · rintro⟨m,D,hz⟩
   obtain⟨J,H⟩:=c2 m D;obtain⟨k,hk,C⟩:=(zPE _ _ _ _).1 hz;rw[J] at hk;refine⟨_,zlu.2 ⟨_,zSM D (zR1 hk),I⟩,?_⟩;unfold vV vT at C;rw[J,H k hk,H _ (zcu _ zot)] at C;exact C
 · rintro⟨e,U,C⟩
   obtain⟨e5,O,rfl⟩:=zlu.1 U;obtain⟨m,D,M⟩:=u4 O;obtain⟨k,hk,rfl⟩:=zB5 M;obtain⟨J,H⟩:=c2 m D;refine⟨m,D,(zPE _ _ _ _).2 ⟨k,by rw[J];exact hk,?_⟩⟩;unfold vV vT;rw[J,H k hk,H _ (zcu _ zot)];exact C
section
variable {s:Sd}(h:jQ s)(h':jQ (flS s)){f:Nat}(hf:f<s.2.1.length)
include h h' hf
end
section
variable {s:Sd}(h:jQ s)(h':jQ (flS s))(hw:wnP s)(hw':wnP (flS s))
include h h' hw hw'
omit h h' hw hw' in
theorem yM5{f:Nat}{p d:Pt}(hs:¬skP s p d f):cnF s d f≠0:=λe=>hs (by
 unfold skP;rw[nT];intro e2
 rcases e2 with e2|e2<;>grind)
end
abbrev ubS:Sd:=bkS (pI 0 0 0) (pI 1 1 1)
abbrev ubI:SI:=bxJ 1 1 1
def hP(w:I3):Pt:=T3.mk (1/2*(w.1:Rat)) (1/2*(w.2.1:Rat)) (1/2*(w.2.2:Rat))
theorem iO:aH z3 ubI ubS:=yDC (x:=0) (y:=0) (z:=0) zox zox zox
theorem zX6:chI ubI=true:=by decide +kernel
theorem fE:jQ ubS/\okS ubS:=w8 iO zX6
theorem yMQ:smS 2 2 2 1 ubS:=zYS iO zX6 ⟨zox,zox,zox⟩
theorem yMP:wnP ubS:=zYP ⟨_,_,.inl ⟨0,0,0,zox,rfl⟩,⟨zox,zox,zox⟩,iO⟩
def ubF(f:Nat):FI:=ubI.2.getD f fi0
def ubW(f:Nat)(w:I3):Int:=inI (dbI (flI (tA (ubF f).1) ubI.1 ((ubF f).2.2.1.getD 0 []))) (aI3 w (tA (ubF f).1).1,aI3 w (tA (ubF f).1).2)
theorem zSJ(l:List Pt)(q:P2)(i j:Nat):kL l q i j=0\/kL l q i j=1\/kL l q i j= -1:=by
 unfold kL
 split
 · exact .inl I
 · split
   · exact .inr (.inl I)
   · exact .inr (.inr I)
theorem zU6(l:List Pt)(q:P2):whZ [l] q 0 1=kL l q 0 1:=by
 have h0:whZ [l] q 0 1=0↔kL l q 0 1=0:=by
  rw[zNA];constructor
  · rintro⟨m,C,e⟩
    have:m=0:=by have:m<1:=C;omega
    subst this;exact e
  · intro e;exact⟨0,yme _,e⟩
 rcases zSJ l q 0 1 with e|e|e
 · rw[h0.2 e,e]
 · unfold whZ
   rw[zae λ⟨m,C,e'⟩=>by
    have:m=0:=by have:m<1:=C;omega
    subst this;have e':kL l q 0 1=0:=e';rw[e] at e';exact absurd e' zox]
   show(if kL l q 0 1=1 then -(-1:Int) else -1)=_
   rw[zau e,e];rfl
 · unfold whZ
   rw[zae λ⟨m,C,e'⟩=>by
    have:m=0:=by have:m<1:=C;omega
    subst this;have e':kL l q 0 1=0:=e';rw[e] at e';exact absurd e' zox]
   show(if kL l q 0 1=1 then -(-1:Int) else -1)=_
   rw[zae (by rw[e];decide),e]
theorem zX3{f:Nat}(hf:f<6)(w:I3):whF ubS f (hP w)=ubW f w:=by
 have H:=zTT iO zX6 (f:=f) hf;have h1:(ubF f).2.2.1.length=1:=by
  match f,hf with
  |0,_|1,_|2,_|3,_|4,_|5,_=>rfl
 obtain⟨l,e⟩:∃l,kY ubS f=[l]:=by
  have h2:=H.1;rw[zde,show(ubI.2.getD f fi0).2.2.1.length=1 from h1] at h2;exact List.length_eq_one_iff.1 h2
 have h3:=H.2 0 (by rw[zde,show(ubI.2.getD f fi0).2.2.1.length=1 from h1];decide);rw[e,qI (flI (tA (ubI.2.getD f fi0).1) ubI.1) [] [] (by rw[show(ubI.2.getD f fi0).2.2.1.length=1 from h1];decide)] at h3;have J:=yBH (by decide +kernel) (by decide +kernel) (yBI h3) (aI3 w (tA (ubF f).1).1,aI3 w (tA (ubF f).1).2);obtain⟨r,D,C⟩:=zTS (iO.2.2.2 f hf);unfold whF ubW;rw[e,zU6];refine Eq.trans (zbi (λq=>kL l q 0 1) ?_) J;have ha:∀n,(hP w).at n=1/2*((aI3 w n:Int):Rat):=λn=>by
  match n with
  |0=>rfl
  |1=>rfl
  |_+2=>rfl
 have hz:∀n,((aI3 z3 n:Int):Rat)=0:=λn=>by
  match n with
  |0=>rfl
  |1=>rfl
  |_+2=>rfl
 show pr (jS (ubS.2.1.getD f zA).1 (hP w)) 0 1=ag _ _ _ _ _
 unfold jS ag pr;rw[C,(zHJ D).1,(zHJ D).2,hz,hz];refine Prod.ext ?_ ?_
 · show(hP w).at (tA (ubF f).1).1=_
   rw[ha];show _=0+1/2*_;grind
 · show(hP w).at (tA (ubF f).1).2=_
   rw[ha];show _=0+1/2*_;grind
theorem zX5{f:Nat}(hf:f<6)(w:I3):∃r:Rat,0<r/\hnF ubS (hP w) f=r*(1/2)*((2*(ubF f).2.1-dt3 (ubF f).1 w:Int):Rat)/\∀d:I3,cnF ubS (nr3 d) f=r*((dt3 (ubF f).1 d:Int):Rat):=by
 obtain⟨r,D,C⟩:=zTS (iO.2.2.2 f hf);refine⟨r,D,?_,λd=>?_⟩
 · unfold hnF
   rw[C]
   show r*(((ubF f).2.1+dt3 (ubF f).1 z3:Int):Rat)-(r*((ubF f).1.1:Rat)*(hP w).x+r*((ubF f).1.2.1:Rat)*(hP w).y+r*((ubF f).1.2.2:Rat)*(hP w).z)=_
   unfold hP dt3;simp only[zru,zli,zji,show((2:Int):Rat)=2 from I,show((0:Int):Rat)=0 from I];grind
 · unfold cnF
   rw[C]
   show r*((ubF f).1.1:Rat)*(nr3 d).x+r*((ubF f).1.2.1:Rat)*(nr3 d).y+r*((ubF f).1.2.2:Rat)*(nr3 d).z=_
   unfold nr3 dt3;simp only[zli,zji];grind
theorem zCE{r:Rat}(hr:0<r)(n:Int):(r*(1/2)*((n:Int):Rat)=0↔n=0)/\(0<r*(1/2)*((n:Int):Rat)↔0<n)/\(r*(1/2)*((n:Int):Rat)<0↔n<0):=by
 have C:0<r*(1/2):=uD hr (by decide +kernel);have h:=zK9 C n;have h2:=zLA C n;refine⟨⟨λe=>?_,λe=>by rw[e];exact ywe _⟩,h,h2⟩
 rcases Int.lt_trichotomy n 0 with c|c|c
 · have:=h2.2 c;rw[e] at this;exact absurd this zox
 · exact c
 · have:=h.2 c;rw[e] at this;exact absurd this zox
def yIJ(w:I3):Bool:=(List.range 6).any λf=>decide (2*(ubF f).2.1-dt3 (ubF f).1 w=0)&&decide (0<=ubW f w)
theorem zX4(w:I3):onB ubS (hP w)↔yIJ w=true:=by
 have C:ubS.2.1.length=6:=iO.2.2.1;have e:∀f,f<6->(onP ubS (hP w) f↔2*(ubF f).2.1-dt3 (ubF f).1 w=0/\0<=ubW f w):=λf hf=>by
  obtain⟨r,D,h1,_⟩:=zX5 hf w;have h2:sdZ (ubS.2.1.getD f zA).1 (hP w)=0↔hnF ubS (hP w) f=0:=by
   unfold sdZ hnF hgt;rw[zFC];constructor<;>intro h<;>grind
  unfold onP;rw[h2,h1,(zCE D _).1,zX3 hf]
 unfold yIJ;rw[List.any_eq_true];constructor
 · rintro⟨f,hf,h⟩
   rw[C] at hf;have h:=(e f hf).1 h;exact⟨f,zog.2 hf,by rw[zbu,zfe,zfe];exact h⟩
 · rintro⟨f,hf,h⟩
   rw[zbu,zfe,zfe] at h;have hf:=zog.1 hf;exact⟨f,by rw[C];exact hf,(e f hf).2 h⟩
def ubC(w:I3):Bool:=decide (ubW 1 (2,w.2.1,w.2.2)=1)&&decide (0<=w.1/\w.1<2)
theorem zS4(w:I3)(h0:0<=w.1)(ho:yIJ w=false)(hb:w.1<2->ubW 1 (2,w.2.1,w.2.2)≠0):zEE ubS (hP w)=if ubC w=true then 1 else 0:=by
 have hl:ubS.2.1.length=6:=iO.2.2.1;have M:¬onB ubS (hP w):=λe=>by rw[(zX4 w).1 e] at ho;exact absurd ho zox
 have sk:∀f,f<6->f≠1->skP ubS (hP w) (nr3 (1,0,0)) f:=λf hf h1=>by
  obtain⟨r,C,h2,h3⟩:=zX5 hf w;unfold skP;rw[nT,h2,h3,(zCE C _).2.1,(zCE C _).2.2,zK9 C,zLA C]
  match f,hf,h1 with
  |0,_,_|2,_,_|3,_,_|4,_,_|5,_,_=>simp[ubF,bxJ,dt3];try omega
 obtain⟨r,C,h1,h3⟩:=zX5 (f:=1) zox w;have en:hnF ubS (hP w) 1=r*(1/2)*((2-w.1:Int):Rat):=by rw[h1];congr 2;simp[ubF,bxJ,dt3]
 have ec:cnF ubS (nr3 (1,0,0)) 1=r:=by rw[h3];exact Rat.mul_one r
 have D:skP ubS (hP w) (nr3 (1,0,0)) 1↔¬w.1<2:=by
  unfold skP;rw[nT,en,ec,(zCE C _).2.1];constructor
  · intro e h;exact e (.inl ⟨C,zot⟩)
  · rintro e (h|h)
    · omega
    · grind
 have O:aF (hP w) (nr3 (1,0,0)) (hnF ubS (hP w) 1/cnF ubS (nr3 (1,0,0)) 1)=hP (2,w.2.1,w.2.2):=by
  have e1:hnF ubS (hP w) 1/cnF ubS (nr3 (1,0,0)) 1=1/2*((2-w.1:Int):Rat):=by
   rw[en,ec];have J:¬r=0:=by grind
   have h:=z6u (a:=r*(1/2)*((2-w.1:Int):Rat)) J;have:(r*(1/2)*((2-w.1:Int):Rat)/r-1/2*((2-w.1:Int):Rat))*r=0:=by grind
   rcases zoe.1 this with e|e
   · grind
   · exact absurd e J
  rw[e1];unfold aF wV scT nr3 hP;rw[qZ,zru,show((2:Int):Rat)=2 from I,show((1:Int):Rat)=1 from I,show((0:Int):Rat)=0 from I];exact⟨by simp only;grind,by simp only;grind,by simp only;grind⟩
 have Z:nbS ubS (hP w) (nr3 (1,0,0)):=λf hf H=>by
  rw[hl] at hf
  by_cases e:f=1
  · subst e
    have:=H.2;rw[O,zX3 zox] at this;exact hb (zdi λe=>H.1 (D.2 e)) this
  · exact H.1 (sk f hf e)
 have hd:nr3 (1,0,0)≠zT:=λe=>absurd (zbi T3.x e) zox;have U:∀f,f<6->f≠1->crE ubS (hP w) (nr3 (1,0,0)) f=0:=λf hf h=>zau (sk f hf h);unfold zEE;rw[zae M,zJC fE.1 yMP M (zXZ _) (zB1 fE.1 (dU (cG fE.1) _).2.1) hd Z,hl]
 show 0+crE _ _ _ 0+crE _ _ _ 1+crE _ _ _ 2+crE _ _ _ 3+crE _ _ _ 4+crE _ _ _ 5=_
 rw[U 0 zox zox,U 2 zox zox,U 3 zox zox,U 4 zox zox,U 5 zox zox];unfold crE ubC;rw[O,zX3 zox,ec]
 by_cases c:w.1<2
 · rw[zae λe=>D.1 e c]
   by_cases c2:ubW 1 (2,w.2.1,w.2.2)=1
   · rw[zau c2,zau C,zau (by rw[zbu,zfe,zfe];exact⟨c2,h0,c⟩)];rfl
   · rw[zae c2,zae λe=>c2 (by rw[zbu,zfe] at e;exact e.1)];rfl
 · rw[zau (D.2 c),zae λe=>c (by rw[zbu,zfe,zfe] at e;exact e.2.2)];rfl
structure SaneW:Prop where
 h:blH (pI 0 0 0) (pI 1 1 1)
 o1:¬onA (tX ubS) (T3.mk (kP 1 2) (kP 1 2) (kP 1 2))
 w1:wdM (tX ubS) (T3.mk (kP 1 2) (kP 1 2) (kP 1 2))=1
 o2:¬onA (tX ubS) (pI 2 0 0)
 w2:wdM (tX ubS) (pI 2 0 0)=0
 i3:inM (tX ubS) (pI 1 1 1)=0
theorem iD:SaneW:=by
 have h1:T3.mk (kP 1 2) (kP 1 2) (kP 1 2)=hP (1,1,1):=qZ.2 ⟨by decide +kernel,by decide +kernel,by decide +kernel⟩;have h2:pI 2 0 0=hP (4,0,0):=qZ.2 ⟨by decide +kernel,by decide +kernel,by decide +kernel⟩;have h3:pI 1 1 1=hP (2,2,2):=qZ.2 ⟨by decide +kernel,by decide +kernel,by decide +kernel⟩;have C:=λw=>(dD fE.1 (hP w)).trans (zX4 w);refine⟨yDJ λu D=>?_,?_,?_,?_,?_,?_⟩
 · rw[zA0]
   refine Rat.not_le.2 ?_
   rcases zS6 D with rfl|rfl|rfl<;>exact z1u.2 zox
 · rw[h1,C];decide +kernel
 · rw[zKT fE.1,h1,zS4 _ zox (by decide +kernel) (by decide +kernel)];decide +kernel
 · rw[h2,C];decide +kernel
 · rw[zKT fE.1,h2,zS4 _ zox (by decide +kernel) (by decide +kernel)];decide +kernel
 · rw[zMM fE.1,h3]
   exact zau ((zX4 _).2 (by decide +kernel))
end Bk
namespace Bk
open Go Go.RowKit
section
variable {P:Program}{n:Nat}{w0:World}{h0:Mem}{e:List (Nat×Value)}{L:List Res}{h:Mem}{Q:Exit->Act->World->Prop}
theorem yCH{c:Code}(k:GC P n w0 h0 c (Exit.noGoto Q) e L h):GC P n w0 h0 (.scope c) Q e L h:=λa w E S=>wp_scope_straight (k a w E S)
theorem yCI{l:Nat}(k:GQ n w0 h0 Q .normal e L h):GC P n w0 h0 (.label l) Q e L h:=λa w E S=>wp_label (k a w E S)
theorem yN2(k:GQ n w0 h0 Q .ret e L h):GQ n w0 h0 (Exit.noGoto Q) .ret e L h:=k
end
end Bk
namespace Go.Proofs.YtpkaegemlpaenaaGreat
open Bk Go Tryz
attribute [local irreducible] GL GC GQ W OpV
section
variable{w0:World}{h0:Mem}(hs:MLe h0 (mem w0))
include hs
theorem zWQ{k m n j:Nat}{vs:Value}{s:Sq}(rs:(tSd k m n j).Is h0 vs s){vf:Value}{f:(Pq×((List (List Int))×(List Nat)))}(rf:(tFc m n).Is h0 vf f)(H0:∀u v,u<f.2.1.length->v<(f.2.1.getD u []).length->0<=(f.2.1.getD u []).getD v 0/\(f.2.1.getD u []).getD v 0<s.1.length)(H1:s.1.length<=100000)(H2:∀u,u<f.2.1.length->(f.2.1.getD u []).length<=10000)(H3:f.2.1.length<=10000):
 y8i 104 #[vs,vf] w0 h0 (λ_ r=>r=vB (True)):=by
 refine cb2 33 vs vf func104 hs ?_;refine go2 ?_;refine nB rs λb2 ab ae=>(nB rf λb3 aa ad=>(go7 ?_));refine lX (xB cC (y6u (y6i pH)) ad) λH am=>(go5 ?_);refine gcL (ι:=Nat×Mem) (λ(l,M)=>(MLe h0 M/\(l<=f.2.1.length),[(2,vP b2 0),(10,H),(11,vI (↑(f.2.1).length:Int)),(12,vI ↑l)],[.var b3 53 aa,.var b2 39 ab],M,f.2.1.length-l)) (0,h0) ?_ ?_
 · exact⟨mle,oM⟩
 rintro⟨l,M⟩ ⟨ap,C⟩
 refine yY ?_;have bb:=C;refine gc6 (λZ=>?_) λZ=>?_
 ·
  refine go6 ?_;refine lX (xI [] l underlying51 fL am) λaw ak=>(lX (xA fL ak) λac aj=>(qE ?_));refine gcL (ι:=Nat×Mem) (λ(u,J)=>(MLe M J/\(u<=(f.2.1.getD l []).length),[(2,vP b2 0),(10,H),(11,vI (↑(f.2.1).length:Int)),(12,vI ↑l),(16,ac),(17,vI (↑((f.2.1.getD l [])).length:Int)),(18,vI ↑u)],[.var b3 53 aa,.var b2 39 ab],J,(f.2.1.getD l []).length-u)) (0,M) ?_ ?_
  · exact⟨mle,oM⟩
  rintro⟨u,J⟩ ⟨ao,C⟩
  refine yY ?_;have ay:=C;have bc:=H2 l oM;refine gc6 (λU=>?_) λU=>?_
  ·
   obtain⟨ba,az⟩:=H0 l u oM oM;refine go6 ?_;refine lX (xI (0:Int) u underlying22 ty3 aj) λav ai=>(lX (xA ty3 ai) λau ah=>?_);obtain⟨rfl,aq,an⟩:=kX ah;refine go7 ?_;refine gU 7 30 (vB ((((f.2.1.getD l []).getD u (0:Int))<(0:Int))\/((↑(s.1).length:Int)<=((f.2.1.getD l []).getD u (0:Int))))) ?_ ?_
   ·
    refine zY (((f.2.1.getD l []).getD u (0:Int))<(0:Int)) (λO=>?_) (λO=>?_)
    ·
     refine gT O I (go7 ?_);refine gqU ?_;exact y4e (uH O)
    refine gF O I (go5 ?_);refine lX (xB uQ (y6i pH) ae) λar ax=>(go6 ?_);refine gqU ?_;exact y4e (uJ O)
   refine gc2 (λD=>?_) λD=>?_
   · exact absurd D oM
   refine go7 ?_;refine gqL ((u+1),J) ?_ ?_
   · exact⟨mle,oM⟩
   omega
  refine uR ?_;refine gqL ((l+1),J) ?_ ?_
  · exact⟨mle,oM⟩
  omega
 refine qE ?_;refine zC I I ?_;exact(xW trivial).symm
theorem zOC{k m n j:Nat}{vs:Value}{s:Sq}(rs:(tSd k m n j).Is h0 vs s){vf:Value}{f:(Pq×((List (List Int))×(List Nat)))}(rf:(tFc m n).Is h0 vf f)(H0:∀u v,u<f.2.1.length->v<(f.2.1.getD u []).length->0<=(f.2.1.getD u []).getD v 0/\(f.2.1.getD u []).getD v 0<s.1.length)(H1:s.1.length<=100000)(H2:∀u,u<f.2.1.length->(f.2.1.getD u []).length<=10000)(H3:f.2.1.length<=10000):
 y8i 105 #[vs,vf] w0 h0 (λh r=>(tLL (k+1)).Is h r (zBE s.1 f.2.1 f.2.1.length)):=by
 refine cb2 39 vs vf func105 hs ?_;refine go2 ?_;refine nB rs λb2 av ba=>(nB rf λb3 au az=>(qC ?_));refine lX (xB cC (y6u (y6i pH)) az) λac bi=>(go5 ?_);refine xJ 35 1 ?_;have ah:=RL.nil (ρ:=rpS (tPt (k+1))) (h:=h0);refine gcL (ι:=Nat×List (List Tq)×Value×List Value×Mem) (λ(l,D,C,H,ma)=>(MLe h0 ma/\(RL (tLs (k+1)) ma H D/\l<=f.2.1.length/\D=zBE s.1 f.2.1 l),[(2,vP b2 0),(5,C),(12,ac),(13,vI (↑(f.2.1).length:Int)),(14,vI ↑l)],[.gs 35 1 C D.length H,.var b3 53 au,.var b2 39 av],ma,f.2.1.length-l)) (0,[],(.slice none 0 0),[],h0) ?_ ?_
 · exact⟨mle,ah,zot,I⟩
 rintro⟨l,D,C,H,ma⟩ ⟨bl,U,cf,hD⟩
 refine yY ?_;have cj:D.length=l:=by rw[hD];exact yW _ _
 refine gc6 (λap=>?_) λap=>?_
 ·
  refine go6 ?_;refine lX (xI [] l underlying51 fL bi) λbw bh=>(lX (xA fL bh) λay bg=>(nY ?_));refine xJ 31 9 ?_;have ae:=RL.nil (ρ:=rpT (rpQ (k+1))) (h:=ma);refine gcL (ι:=Nat×List Tq×Value×List Value×Mem) (λ(u,E,J,M,mb)=>(MLe ma mb/\(RL (tPt (k+1)) mb M E/\u<=(f.2.1.getD l []).length/\E=zGN s.1 (f.2.1.getD l []) u),[(2,vP b2 0),(5,C),(8,J),(12,ac),(13,vI (↑(f.2.1).length:Int)),(14,vI ↑l),(18,ay),(19,vI (↑((f.2.1.getD l [])).length:Int)),(20,vI ↑u)],[.gs 31 9 J E.length M,.gs 35 1 C D.length H,.var b3 53 au,.var b2 39 av],mb,(f.2.1.getD l []).length-u)) (0,[],(.slice none 0 0),[],ma) ?_ ?_
  · exact⟨mle,ae,zot,I⟩
  rintro⟨u,E,J,M,mb⟩ ⟨bk,O,cc,hE⟩
  refine yY ?_;have ci:E.length=u:=by rw[hE];exact yW _ _
  have ch:=H2 l oM;refine gc6 (λao=>?_) λao=>?_
  ·
   obtain⟨ce,cd⟩:=H0 l u oM oM;refine go6 ?_;refine lX (xI (0:Int) u underlying22 ty3 bg) λbv bf=>(lX (xA ty3 bf) λbu be=>?_);obtain⟨rfl,bm,bj⟩:=kX be;refine go6 ?_;refine lX (xB uQ (y6i pH) ba) λbt bd=>(go1 ?_);refine lX (xI zT (((f.2.1.getD l []).getD u 0).toNat) underlying35 zK bd) λbs bc=>(lX (xA zK bc) λbr bb=>(zG (zL (ρ:=(tPt (k+1))) (m:=1) (xs:=[(s.1.getD (((f.2.1.getD l []).getD u 0).toNat) zT)]) (ps':=[(0,_)]) underlying35 yK I I I (yR (yE oM)) e2z (zD I (y5e (y5u _) zT 0 dC) (bb.le (Le.t (Le.q (l:=k+1) oM))) zN) zok nP) I I I ?_))
   rintro bq cb ⟨bo,rfl,am⟩
   refine zQ (A:=[]) (ρ:=(tPt (k+1))) am ?_;intro h1 an ad;refine xQ (A:=[]) (zR (ρ:=(tPt (k+1))) (bytes:=168) underlying35 yK I I I I nP I I O.up ad bO bO) I I I ?_
   rintro ax ca ⟨ar,rfl,ak⟩
   refine go8 ?_;refine gqL ((u+1),(E++[(s.1.getD (((f.2.1.getD l []).getD u 0).toNat) zT)]),ax,ar,h1) ?_ ?_
   · exact⟨mle,ak,zot,by rw[hE];rfl⟩
   omega
  have eu:u=(f.2.1.getD l []).length:=by omega
  refine go8 ?_;refine zQ (A:=[]) (ρ:=(tPt (k+1))) O.up ?_;intro h1 an ab;refine zG (zL (ρ:=(tLs (k+1))) (m:=1) (xs:=[E]) (ps':=[(0,_)]) underlying76 aI I I I wC e2z (zD I (y5e (y5u _) [] 0 dC) ab zN) zoj nP) I I I ?_
  rintro bp bz ⟨bn,rfl,aj⟩
  refine zQ (A:=[]) (ρ:=(tLs (k+1))) aj ?_;intro h2 cg aa;refine xQ (A:=[]) (zR (ρ:=(tLs (k+1))) (bytes:=24) underlying76 aI I I I I nP I I U.up aa bO bO) I I I ?_
  rintro aw bx ⟨aq,rfl,ai⟩
  refine go8 ?_;refine gqL ((l+1),(D++[E]),aw,aq,h2) ?_ ?_
  · exact⟨mle,ai,zot,by rw[hD,hE,eu];rfl⟩
  omega
 have el:l=f.2.1.length:=by omega
 refine qC ?_;refine wW (A:=[]) (ρ:=(tLs (k+1))) U.up ?_;intro h1 an Z;refine zC I I ?_;exact(Rp.Is.cast Z (by rw[hD,el]))
theorem zJ7{m n k j:Nat}{vf:Value}{f:(Pq×((List (List Tq))×(Int×Int)))}(rf:(rpP (tPl m n) (rpP (tLL k) (rpP rpI rpI))).Is h0 vf f){vp:Value}{p:Tq}(rp:(tPt j).Is h0 vp p)(H0:k<=50000)(H1:j<=50000)(H2:yLJ f):
 y8i 109 #[vf,vp] w0 h0 (λ_ r=>r=vI (whM f p)):=by
 obtain⟨M,hi2⟩:∃M:Nat,f.2.2.1=↑M:=⟨f.2.2.1.toNat,by have:=H2.1;omega⟩;obtain⟨J,H⟩:∃J:Nat,f.2.2.2=↑J:=⟨f.2.2.2.toNat,by have:=H2.2.1;omega⟩;have C:=H2;unfold yLJ at C;rw[hi2,H] at C;refine cb2 13 vf vp func109 hs ?_;refine go2 ?_;refine nB rf λb2 ak D=>(nB rp λb3 aj U=>(go6 ?_));refine lX (xB yIL (y6u (y6i pH)) D) λv6 r6=>(lX (xB zK pH U) λv7 r7=>(go1 ?_));refine lX (xB ty3 (y6u (y6u (y6i pH))) D) λv9 r9=>?_;obtain⟨rfl,ah,ae⟩:=kX r9;refine go1 ?_;refine lX (xB ty3 (y6u (y6u (y6u pH))) D) λad aa=>?_;obtain⟨rfl,ac,ab⟩:=kX aa;rw[hi2,H];refine cL (ev4 I I I I) call149 (λw hs=>zRS (i:=M) (j:=J) hs (r6.le (Le.s (Le.s (Le.t (Le.q (l:=j+k) oM))))) (r7.le (Le.t (Le.q (l:=j+k) oM))) oM oM oM (by first|omega|exact C.2.2.2|exact C.2.2.1) (by first|omega|exact C.2.2.2|exact C.2.2.1)) λO h1 ai Z=>?_;obtain rfl:O=vI (whZ f.2.1 (pr p M J) M J):=Z;refine go4 ?_;refine zC I I ?_;unfold whM;rw[hi2,H];rfl
theorem yFK{k l j:Nat}{vx:Value}{x:(Tq×(Tq×Prop))}(rx:(rpP (tPt k) (rpP (tPt l) rpB)).Is h0 vx x){vd:Value}{d:Tq}(rd:(tPt j).Is h0 vd d)(H0:k<=1000000)(H1:l<=1000000)(H2:j<=1000000):
 y8i 117 #[vx,vd] w0 h0 (λ_ r=>r=vB (zHW x d)):=by
 refine cb2 18 vx vd func117 hs ?_;refine go2 ?_;refine nB rx λb2 ao C=>(nB rd λb3 an M=>(go7 ?_));refine lX (xB ty4 (y6u (y6u pH)) C) λv6 r6=>?_;obtain rfl:=yJ7 r6;refine gc2 (λJ=>?_) λJ=>?_
 ·
  refine go3 ?_;refine lX (xB zK (y6u (y6i pH)) C) λv8 r8=>(lX (xB zK pH M) λv9 r9=>(cL (ev2 I I) call114 (λw hs=>zJU hs r8 r9 oM) λam h1 ah H=>?_));replace H:=Rp.Is.le H (Le.t (Le.q (l:=2*j+2*l+3) oM));refine cL (ev1 I) call78 (λw hs=>zOA hs H oM) λU h2 ae ac=>?_;obtain rfl:U=vB ((zO x.2.1 d)=zT):=ac;refine go5 ?_;refine zC I I ?_;exact kS (by unfold zHW;rw[zau J])
 refine go5 ?_;refine lX (xB zK (y6i pH) C) λak ab=>(lX (xB zK pH M) λaj aa=>(cL (ev2 I I) call120 (λw hs=>zFE hs ab aa oM) λai h1 ah D=>?_));replace D:=Rp.Is.le D (Le.q (l:=3*j+3*k+9) oM);refine cL (ev1 I) call122 (λw hs=>pL hs D oM) λO h2 ae Z=>?_;obtain rfl:O=vI (yQ (zF x.1 d)):=Z;have ad:=xC (zF x.1 d);refine go5 ?_;refine zC I I ?_;exact kS (by unfold zHW;rw[zae J];exact zFC)
theorem yJ9{m n k j:Nat}{vmd:Value}{md:((List (Pq×((List (List Tq))×(Int×Int))))×(List (List Tq)))}(rmd:(rpP (rpS (rpP (tPl m n) (rpP (tLL k) (rpP rpI rpI)))) (rpS (rpA 2 (tPt k)))).Is h0 vmd md){vp:Value}{p:Tq}(rp:(tPt j).Is h0 vp p)(H0:k<=20000)(H1:j<=20000)(H2:m<=20000)(H3:n<=20000)(H4:zWU md):
 y8i 70 #[vmd,vp] w0 h0 (λh r=>r=.tuple #[vI (↑(onJ md p):Int),vB (onA md p)]):=by
 refine cb2 35 vmd vp func70 hs ?_;refine go2 ?_;refine nB rmd λb2 ad aj=>(nB rp λb3 ac U=>(go8 ?_));refine lX (xB yIK (y6i pH) aj) λv9 r9=>(go5 ?_);refine gcL (ι:=Nat×Mem) (λ(f,ma)=>(MLe h0 ma/\(f<=md.1.length/\∀u,u<f->¬onM md p u),[(3,vP b3 0),(9,v9),(10,vI (↑(md.1).length:Int)),(11,vI ↑f)],[.var b3 31 ac,.var b2 99 ad],ma,md.1.length-f)) (0,h0) ?_ ?_
 · exact⟨mle,zot,λu h=>by omega⟩
 rintro⟨f,ma⟩ ⟨ay,bj,J⟩
 refine yY ?_;have bh:=H4.1;refine gc6 (λaa=>?_) λaa=>?_
 ·
  refine go7 ?_;refine lX (xI fm0 f underlying96 zF2 r9) λbf au=>(lX (xA zF2 au) λbe ar=>(nA (ρ:=(rpP (tPl 1 1) (rpP (tLL 1) (rpP rpI rpI)))) (X:=((zT,(0:Rat)),([],((0:Int),(0:Int))))) u9 (yA (yA (yR (yE dC)) (yE dC)) (yA wC (yA wQ wQ))) λb7 bk ai=>(go1 ?_)));have O:=(Le.p (Le.p (Le.t (Le.q (l:=m+1) oM)) (Le.q (l:=n+1) oM)) (Le.p (Le.s (Le.s (Le.t (Le.q (l:=k+1) oM)))) (Le.refl _))).R ai;refine zP (A:=[]) (uB sizeOf140 pH O (ar.le (Le.p (Le.p (Le.t (Le.q (l:=m+1) oM)) (Le.q (l:=n+1) oM)) (Le.p (Le.s (Le.s (Le.t (Le.q (l:=k+1) oM)))) (Le.refl _))))) λab C=>(go5 ?_);refine lX (xB lW (y6i pH) C) λbd aq=>(lX (xB zK pH U) λbc ap=>(cL (ev2 I I) call108 (λw hs=>zWO hs aq ap oM oM oM) λah h1 bi ao=>?_));obtain rfl:ah=vI (sdZ ((md.1.getD f fm0).1) p):=ao;have av:=aZ ((md.1.getD f fm0).1) p;refine go1 ?_;refine gU 6 26 (vB (((sdZ ((md.1.getD f fm0).1) p)=(0:Int))/\((0:Int)<(↑(((md.1.getD f fm0).2).1).length:Int)))) ?_ ?_
  ·
   refine zY ((sdZ ((md.1.getD f fm0).1) p)=(0:Int)) (λD=>?_) (λD=>?_)
   ·
    refine gT D I (go3 ?_);refine lX (xB yIL (y6u (y6i pH)) C) λbb bg=>(go6 ?_);refine gqU ?_;exact y4e (xD D)
   refine gF D I (go6 ?_);refine gqU ?_;exact y4e (xE D)
  refine qH (ι:=Mem) 6 (λm_=>MLe h1 m_) (λ_=>[(32,vB ((((sdZ ((md.1.getD f fm0).1) p)=(0:Int))/\((0:Int)<(↑(((md.1.getD f fm0).2).1).length:Int)))/\((0:Int)<=(whM (md.1.getD f fm0) p)))),(3,vP b3 0),(9,v9),(10,vI (↑(md.1).length:Int)),(11,vI ↑f),(6,vI ↑f)]) (λ_=>[.var b7 140 ab,.var b3 31 ac,.var b2 99 ad]) (λm_=>m_) ?_ ?_
  ·
   refine zY (((sdZ ((md.1.getD f fm0).1) p)=(0:Int))/\((0:Int)<(↑(((md.1.getD f fm0).2).1).length:Int))) (λD=>?_) (λD=>?_)
   ·
    refine gT D I (go1 ?_);refine lX (xB zF2 pH C) λba an=>(go1 ?_);refine lX (xB zK pH U) λaz am=>(go1 ?_);refine cL (ev2 I I) call109 (λw hs=>zJ7 hs an am oM oM (by first|omega|exact H4.2.2 f oM)) λae h2 ax ak=>?_;obtain rfl:ae=vI (whM (md.1.getD f fm0) p):=ak;refine go4 ?_;refine zU h2 ax ⟨?_,I,I,I,I,I,y5i⟩ I I;exact y4e (xD D)
   refine gF D I (go6 ?_);refine zU h1 (MLe.refl _) ⟨?_,I,I,I,I,I,y5i⟩ I I;exact y4e (xE D)
  intro H M;refine rA ?_;refine gc2 (λZ=>?_) λZ=>?_
  ·
   have aw:onM md p f:=by show((_/\_)/\_);omega
   obtain⟨e1,e2⟩:=zWA oM aw J;refine rS ?_;refine wY I I I ?_;rw[e1,xW e2]
  refine go7 ?_;refine xK (A:=[]) ?_;refine gqL ((f+1),H) ?_ ?_
  · exact⟨mle,zot,vZ (Q:=λu=>¬onM md p u) J (by show ¬((_/\_)/\_);omega)⟩
  omega
 obtain⟨e1,e2⟩:=zZ9 (md:=md) (p:=p) (λu hu=>J u oM);refine qC ?_;refine wY I I I ?_;rw[e1,yM e2];rfl
theorem zIW{m n k j:Nat}{vmd:Value}{md:((List (Pq×((List (List Tq))×(Int×Int))))×(List (List Tq)))}(rmd:(rpP (rpS (rpP (tPl m n) (rpP (tLL k) (rpP rpI rpI)))) (rpS (rpA 2 (tPt k)))).Is h0 vmd md){vp:Value}{p:Tq}(rp:(tPt j).Is h0 vp p)(H0:k<=10000)(H1:j<=10000)(H2:zWU md)(H3:cV md p<=3*md.2.length+1)(H4:clM md p (vK ↑(cV md p))):
 y8i 74 #[vmd,vp] w0 h0 (λh r=>(tPt 2).Is h r (vK ↑(cV md p))):=by
 have fc:=H2.2.1;refine cb2 75 vmd vp func74 hs ?_;refine go2 ?_;refine nB rmd λb2 bf cc=>(nB rp λb3 be bi=>(nA (ρ:=(tPt 2)) (X:=zT) yK (yR (yE dC)) λb4 bd cb=>(go2 ?_)));refine yCH (go9 ?_);refine lX (xB yMR (y6u pH) cc) λbx dc=>(go5 ?_);refine xJ 153 19 ?_;have bh:=RL.nil (ρ:=rpP (tPt (4*j+4*k+15)) (rpP (tPt (2*k+4)) rpB)) (h:=h0);refine gcL (ι:=Nat×List Ac×Value×List Value×Mem) (λ(q,D,C,J,ma)=>(MLe h0 ma/\(RL (rpP (tPt (4*j+4*k+15)) (rpP (tPt (2*k+4)) rpB)) ma J D/\q<=md.2.length/\D=acT p md.2 q),[(3,vP b3 0),(4,vP b4 0),(5,C),(14,bx),(15,vI (↑(md.2).length:Int)),(16,vI ↑q)],[.gs 153 19 C D.length J,.var b4 31 bd,.var b3 31 be,.var b2 99 bf],ma,md.2.length-q)) (0,[],(.slice none 0 0),[],h0) ?_ ?_
 · exact⟨mle,bh,zot,I⟩
 rintro⟨q,D,C,J,ma⟩ ⟨du,Z,fb,hD⟩
 refine yY ?_;have ff:D.length=q:=by rw[hD];exact yW _ _
 refine gc6 (λbq=>?_) λbq=>?_
 ·
  refine go6 ?_;refine lX (xI ed0 q underlying97 yG4 dc) λez db=>(lX (xA yG4 db) λey da=>(nA (ρ:=(rpA 2 (tPt (k+1)))) (X:=ed0) zFP (zM7 2 (yR (yE oM))) λb7 fg ca=>(zP (A:=[]) (uB sizeOf151 pH ca (da.le (Le.a (Le.t (Le.q (l:=k+1) oM))))) λdx O=>(go3 ?_))));refine zJ 11 _ [(10,(8,153,[.bool false,.slice none 0 0,.slice none 0 0,.bool false,.slice none 0 0,.slice none 0 0,.bool false,.slice none 0 0,.slice none 0 0,.bool false,.slice none 0 0,.slice none 0 0,.bool false,.slice none 0 0,.slice none 0 0,.bool false,.slice none 0 0,.slice none 0 0,.bool false]))] [(0,.q),(1,.q),(2,.q),(4,.q),(5,.q),(6,.q),(3,.c),(7,.c),(8,.c),(9,.q),(10,.a),(11,.t)] zX (jD.cons I I (uM eM I I) jD.nil) (wL zou) (uN I I kF) (λr hr=>hr) (go1 ?_);refine wX I (xB zK (y5e pH zT 0 dC) O) λew cz=>(wX I (xB zK pH bi) λev cy=>(go1 ?_));refine wX I (xB zK (y5e pH zT 1 dC) O) λes cw=>(wX I (xB zK pH bi) λer cu=>?_);refine w_c I (sC (ev2 I I) call115 (λw hs=>zLO hs cz cy oM) λeu h1 dk ba=>?_);replace ba:=Rp.Is.le ba (Le.t (Le.q (l:=j+k+3) oM));refine w_c I (sC (ev2 I I) call115 (λw hs=>zLO hs cw.up cu.up oM) λep h2 dj az=>?_);replace az:=Rp.Is.le az (Le.t (Le.q (l:=j+k+3) oM));refine w_c I (sC (ev2 I I) call114 (λw hs=>zJU hs ba.up az oM) λeo h3 di ay=>?_);replace ay:=Rp.Is.le ay (Le.t (Le.q (l:=4*j+4*k+15) oM));refine wX I (xV (ρ:=(rpP (tPt (4*j+4*k+15)) (rpP (tPt 1) rpB))) (xN (ps':=[(0,_)]) underlying153 eM I I (zV2 underlying153) e2z I (yA (yR (yE oM)) (yA (yR (yE dC)) zU4)) (zD I (y6i (y5u _)) ay zN))) λen ct=>?_;refine w_a I I (λb8=>?_);have bz:(rpP (tPt 1) (rpP (tPt 1) rpB)).R h3 [.bool false,.slice none 0 0,.slice none 0 0,.bool false,.slice none 0 0,.slice none 0 0,.bool false,.slice none 0 0,.slice none 0 0,.bool false,.slice none 0 0,.slice none 0 0,.bool false,.slice none 0 0,.slice none 0 0,.bool false,.slice none 0 0,.slice none 0 0,.bool false] (zT,(zT,False)):=(yA (yR (yE dC)) (yA (yR (yE dC)) zU4));have bg:=(Le.p (Le.t (Le.q (l:=4*j+4*k+15) oM)) (Le.refl _)).R bz;refine yG (A:=[]) I (uB sizeOf153 pH bg ct) λdw ai=>(go6 ?_);refine lX (xB zK (y6i pH) ai) λem cq=>(cL (ev1 I) call78 (λw hs=>zOA hs cq oM) λbw h4 dh cp=>?_);obtain rfl:bw=vB ((zO (T3.mk (((md.2.getD q ed0).getD 0 zT).x-p.x) (((md.2.getD q ed0).getD 0 zT).y-p.y) (((md.2.getD q ed0).getD 0 zT).z-p.z)) (T3.mk (((md.2.getD q ed0).getD 1 zT).x-p.x) (((md.2.getD q ed0).getD 1 zT).y-p.y) (((md.2.getD q ed0).getD 1 zT).z-p.z)))=zT):=cp;refine go1 ?_;refine zP (A:=[]) (uB sizeOf4 (y6u (y6u pH)) ai (yNY _)) λdp M=>(go5 ?_);refine lX (xB ty4 (y6u (y6u pH)) M) λel co=>?_;obtain rfl:=yJ7 co;refine gc2 (λad=>?_) λad=>?_
  ·
   refine go2 ?_;refine lX (xB zK (y5e pH zT 1 dC) O) λek cn=>(go1 ?_);refine lX (xB zK (y5e pH zT 0 dC) O) λej cm=>(cL (ev2 I I) call115 (λw hs=>zLO hs cn cm oM) λei h5 df ax=>?_);replace ax:=Rp.Is.le ax (Le.t (Le.q (l:=2*k+4) oM));refine go1 ?_;have an:=(Le.p (Le.refl _) (Le.p (Le.t (Le.q (l:=2*k+4) oM)) (Le.refl _))).R M;refine zP (A:=[]) (uB sizeOf31 (y6u (y6i pH)) an ax) λdn av=>(go4 ?_);refine lX (xB zS5 pH av) λbv aw=>(zG (zL (ρ:=(rpP (tPt (4*j+4*k+15)) (rpP (tPt (2*k+4)) rpB))) (m:=1) (xs:=[(zO (T3.mk (((md.2.getD q ed0).getD 0 zT).x-p.x) (((md.2.getD q ed0).getD 0 zT).y-p.y) (((md.2.getD q ed0).getD 0 zT).z-p.z)) (T3.mk (((md.2.getD q ed0).getD 1 zT).x-p.x) (((md.2.getD q ed0).getD 1 zT).y-p.y) (((md.2.getD q ed0).getD 1 zT).z-p.z)),((T3.mk (((md.2.getD q ed0).getD 1 zT).x-((md.2.getD q ed0).getD 0 zT).x) (((md.2.getD q ed0).getD 1 zT).y-((md.2.getD q ed0).getD 0 zT).y) (((md.2.getD q ed0).getD 1 zT).z-((md.2.getD q ed0).getD 0 zT).z)),(zO (T3.mk (((md.2.getD q ed0).getD 0 zT).x-p.x) (((md.2.getD q ed0).getD 0 zT).y-p.y) (((md.2.getD q ed0).getD 0 zT).z-p.z)) (T3.mk (((md.2.getD q ed0).getD 1 zT).x-p.x) (((md.2.getD q ed0).getD 1 zT).y-p.y) (((md.2.getD q ed0).getD 1 zT).z-p.z)))=zT))]) (ps':=[(0,_)]) underlying150 eM I I I (yA (yR (yE oM)) (yA (yR (yE oM)) zU4)) e2z (zD I (y5e (y5u _) (zT,(zT,False)) 0 dC) aw zN) zos nP) I I I ?_);intro bu de bm;obtain⟨br,rfl,ab⟩:=bm;refine zQ (A:=[]) (ρ:=(rpP (tPt (4*j+4*k+15)) (rpP (tPt (2*k+4)) rpB))) ab ?_;intro h6 fe ap;refine xQ (A:=[_,_]) (zR (ρ:=(rpP (tPt (4*j+4*k+15)) (rpP (tPt (2*k+4)) rpB))) (bytes:=344) underlying150 eM I I I I nP I I Z.up ap bO bO) I I I ?_;intro ak dd bl;obtain⟨ae,rfl,aa⟩:=bl;refine go8 ?_;refine xK (A:=[]) (xK (A:=[]) ?_);refine gqL ((q+1),(D++[(zO (T3.mk (((md.2.getD q ed0).getD 0 zT).x-p.x) (((md.2.getD q ed0).getD 0 zT).y-p.y) (((md.2.getD q ed0).getD 0 zT).z-p.z)) (T3.mk (((md.2.getD q ed0).getD 1 zT).x-p.x) (((md.2.getD q ed0).getD 1 zT).y-p.y) (((md.2.getD q ed0).getD 1 zT).z-p.z)),((T3.mk (((md.2.getD q ed0).getD 1 zT).x-((md.2.getD q ed0).getD 0 zT).x) (((md.2.getD q ed0).getD 1 zT).y-((md.2.getD q ed0).getD 0 zT).y) (((md.2.getD q ed0).getD 1 zT).z-((md.2.getD q ed0).getD 0 zT).z)),(zO (T3.mk (((md.2.getD q ed0).getD 0 zT).x-p.x) (((md.2.getD q ed0).getD 0 zT).y-p.y) (((md.2.getD q ed0).getD 0 zT).z-p.z)) (T3.mk (((md.2.getD q ed0).getD 1 zT).x-p.x) (((md.2.getD q ed0).getD 1 zT).y-p.y) (((md.2.getD q ed0).getD 1 zT).z-p.z)))=zT))]),ak,ae,h6) ?_ ?_
   · exact⟨mle,aa,zot,ac_t hD ad⟩
   omega
  refine go4 ?_;refine lX (xB zS5 pH M) λbv aw=>(zG (zL (ρ:=(rpP (tPt (4*j+4*k+15)) (rpP (tPt 1) rpB))) (m:=1) (xs:=[(zO (T3.mk (((md.2.getD q ed0).getD 0 zT).x-p.x) (((md.2.getD q ed0).getD 0 zT).y-p.y) (((md.2.getD q ed0).getD 0 zT).z-p.z)) (T3.mk (((md.2.getD q ed0).getD 1 zT).x-p.x) (((md.2.getD q ed0).getD 1 zT).y-p.y) (((md.2.getD q ed0).getD 1 zT).z-p.z)),(zT,(zO (T3.mk (((md.2.getD q ed0).getD 0 zT).x-p.x) (((md.2.getD q ed0).getD 0 zT).y-p.y) (((md.2.getD q ed0).getD 0 zT).z-p.z)) (T3.mk (((md.2.getD q ed0).getD 1 zT).x-p.x) (((md.2.getD q ed0).getD 1 zT).y-p.y) (((md.2.getD q ed0).getD 1 zT).z-p.z)))=zT))]) (ps':=[(0,_)]) underlying150 eM I I I (yA (yR (yE oM)) (yA (yR (yE dC)) zU4)) e2z (zD I (y5e (y5u _) (zT,(zT,False)) 0 dC) aw zN) zos nP) I I I ?_)
  rintro bu de ⟨br,rfl,ab⟩
  refine zQ (A:=[]) (ρ:=(rpP (tPt (4*j+4*k+15)) (rpP (tPt 1) rpB))) ab ?_;intro h5 df ao;refine xQ (A:=[_,_]) (zR (ρ:=(rpP (tPt (4*j+4*k+15)) (rpP (tPt (2*k+4)) rpB))) (bytes:=344) underlying150 eM I I I I nP I I Z.up (ao.le (Le.s (Le.p (Le.refl _) (Le.p (Le.t (Le.q (l:=2*k+4) oM)) (Le.refl _))))) bO bO) I I I ?_
  rintro ak dd ⟨ae,rfl,aa⟩
  refine go8 ?_;refine xK (A:=[]) (xK (A:=[]) ?_);refine gqL ((q+1),(D++[(zO (T3.mk (((md.2.getD q ed0).getD 0 zT).x-p.x) (((md.2.getD q ed0).getD 0 zT).y-p.y) (((md.2.getD q ed0).getD 0 zT).z-p.z)) (T3.mk (((md.2.getD q ed0).getD 1 zT).x-p.x) (((md.2.getD q ed0).getD 1 zT).y-p.y) (((md.2.getD q ed0).getD 1 zT).z-p.z)),(zT,(zO (T3.mk (((md.2.getD q ed0).getD 0 zT).x-p.x) (((md.2.getD q ed0).getD 0 zT).y-p.y) (((md.2.getD q ed0).getD 0 zT).z-p.z)) (T3.mk (((md.2.getD q ed0).getD 1 zT).x-p.x) (((md.2.getD q ed0).getD 1 zT).y-p.y) (((md.2.getD q ed0).getD 1 zT).z-p.z)))=zT))]),ak,ae,h5) ?_ ?_
  · exact⟨mle,aa,zot,ac_f hD ad⟩
  omega
 have eq:q=md.2.length:=by omega
 rw[eq] at hD;have dv:D.length=md.2.length:=by rw[hD];exact yW _ _
 refine go6 ?_;refine yCI (go8 ?_);refine gcL (ι:=Nat×Mem) (λ(H,mb)=>(MLe ma mb/\(H<=cV md p),[(4,vP b4 0),(5,C),(9,vI ↑H)],[.gs 153 19 C D.length J,.var b4 31 bd,.var b3 31 be,.var b2 99 bf],mb,cV md p-H)) (0,ma) ?_ ?_
 · exact⟨mle,oM⟩
 rintro⟨H,mb⟩ ⟨dt,bo⟩
 refine yY ?_;have bb:=bo;refine go5 ?_;refine gv (jO mh0 underlying150 I) I (gv (gK (p:=3) I I oM oM) I (gc4 (λaj=>?_) λaj=>?_))
 ·
  have fd:(0:Int)<=↑H*↑H/\(↑H:Int)*↑H<=36000012000001:=by have h9:H*H<=6000001*6000001:=z7u oM oM;rw[<-zeu];omega
  refine go6 ?_;refine cL (vs:=[vI (1)]) ⟨I,y5i⟩ call116 (λw hs=>zDJ hs dC dC) λeh h1 dk cl=>(go1 ?_);refine cL (ev1 I) call116 (λw hs=>zDJ hs oM oM) λeg h2 dj ck=>(go2 ?_);refine gv (gK I I oM oM) I (cL (ev1 I) call116 (λw hs=>zDJ hs oM oM) λef h3 di cj=>(lX (xV (ρ:=(tPt 2)) (xS (ps':=[(0,_),(1,_),(2,_)]) underlying31 yK I I sizeOf29 e6 I (yR (yE dC)) (zD I (y6e (y5u _)) cl.up (zD I (y7i (y5u _)) ck.up (zD I (y7u (y5u _)) cj zN))))) λee ci=>(nA (ρ:=(tPt 2)) (X:=zT) yK (yR (yE dC)) λbs dz bk=>(zP (A:=[]) (uB sizeOf31 pH bk ci) λbc ac=>(go6 ?_)))));refine gv (jO mh1 underlying150 I) I (go4 ?_);refine gcL (ι:=Nat×Mem) (λ(u,mc)=>(MLe h3 mc/\(u<=D.length/\∀v,v<u->¬zHW (D.getD v (zT,(zT,False))) (vK ↑H)),[(4,vP b4 0),(5,C),(9,vI ↑H),(10,vP bs 0),(63,C),(64,vI (↑D.length:Int)),(65,vI ↑u)],[.var bs 31 bc,.gs 153 19 C D.length J,.var b4 31 bd,.var b3 31 be,.var b2 99 bf],mc,D.length-u)) (0,h3) ?_ ?_
  · exact⟨mle,zot,λv h=>by omega⟩
  rintro⟨u,mc⟩ ⟨dr,fa,bn⟩
  refine yY ?_;refine gc6 (λbp=>?_) λbp=>?_
  ·
   refine go6 ?_;refine gv ((yZ u mh1 underlying150 sizeOf153 I I I bO nP).cv (show _=zI 1 C ((u*19+0)) from zbi (zI 1 C) zo5)) I (zI5 (F:=λv_=>(rpP (tPt (4*j+4*k+15)) (rpP (tPt (2*k+4)) rpB)).Is mc v_ (D.getD u (zT,(zT,False)))) (wO zS5 (y5e (y5u _) (zT,(zT,False)) u bO) I nP I Z.up I) (tM mh1) I ?_);intro ed ch;refine nA (ρ:=(rpP (tPt 1) (rpP (tPt 1) rpB))) (X:=(zT,(zT,False))) eM (yA (yR (yE dC)) (yA (yR (yE dC)) zU4)) λfh dy bj=>?_;have am:=(Le.p (Le.t (Le.q (l:=4*j+4*k+15) oM)) (Le.p (Le.t (Le.q (l:=2*k+4) oM)) (Le.refl _))).R bj;refine zP (A:=[]) (uB sizeOf153 pH am ch) λdm au=>(go4 ?_);refine lX (xB zS5 pH au) λec cg=>(lX (xB zK pH ac) λeb cf=>(cL (ev2 I I) call117 (λw hs=>yFK hs cg cf oM oM dC) λbt h4 dh ce=>?_));obtain rfl:bt=vB (zHW (D.getD u (zT,(zT,False))) (T3.mk (((1:Int):Int):Rat) (((↑H:Int):Int):Rat) ((((↑H:Int)*(↑H:Int)):Int):Rat))):=ce;refine gc2 (λU=>?_) λU=>?_
   ·
    refine rS ?_;refine xK (A:=[]) (xK (A:=[]) ?_);refine gqL ((H+1),h4) ?_ ?_
    · exact⟨mle,zPP hD H4 bb oM U⟩
    (have:=zPP hD H4 bb oM U;omega)
   refine go7 ?_;refine xK (A:=[]) ?_;refine gqL ((u+1),h4) ?_ ?_
   · exact⟨mle,zot,vZ (Q:=λv=>¬zHW (D.getD v (zT,(zT,False))) (vK ↑H)) bn U⟩
   omega
  refine go7 ?_;refine lX (xB zK pH ac) λea cd=>(zP (A:=[_,_]) (uB sizeOf31 pH cb cd) λdl ar=>(go8 ?_));refine yN2 (wG (jG (t:=4) zK mh2 I ar) ?_);intro dq ah aq;refine yN (λE S=>zS I ah E S) ?_;exact(Rp.Is.cast aq (by rw[<-yGL hD bb (λv hv=>bn v oM)];rfl))
 exact absurd oM aj
theorem zIX{m n k j l:Nat}{vmd:Value}{md:((List (Pq×((List (List Tq))×(Int×Int))))×(List (List Tq)))}(rmd:(rpP (rpS (rpP (tPl m n) (rpP (tLL k) (rpP rpI rpI)))) (rpS (rpA 2 (tPt k)))).Is h0 vmd md){vp:Value}{p:Tq}(rp:(tPt j).Is h0 vp p){vd:Value}{d:Tq}(rd:(tPt l).Is h0 vd d)(H0:k<=10000)(H1:j<=1000)(H2:l<=300)(H3:m<=4100)(H4:n<=4100)(H5:zWU md):
 y8i 79 #[vmd,vp,vd] w0 h0 (λh r=>r=.tuple #[vI (crA md p d),vI (crB md p d),vB (nbM md p d)]):=by
 refine cb3 77 vmd vp vd func79 hs ?_;refine go2 ?_;refine nB rmd λb3 cn bi=>(nB rp λb4 cm aw=>(nB rd λb5 cl av=>(cD ?_)));refine lX (xB yIK (y6i pH) bi) λbh cg=>(go5 ?_);refine gcL (ι:=Nat×Mem) (λ(f,ma)=>(MLe h0 ma/\(f<=md.1.length/\∀u,u<f->¬bdM (md.1.getD u fm0) p d),[(4,vP b4 0),(5,vP b5 0),(9,vI (crM md p d f).1),(10,vI (crM md p d f).2),(18,bh),(19,vI (↑(md.1).length:Int)),(20,vI ↑f)],[.var b5 31 cl,.var b4 31 cm,.var b3 99 cn],ma,md.1.length-f)) (0,h0) ?_ ?_
 · exact⟨mle,zot,λu h=>by omega⟩
 rintro⟨f,ma⟩ ⟨co,ek,ab⟩
 refine yY ?_;have dz:=H5.1;have el:=zD5 md p d f;refine gc6 (λbb=>?_) λbb=>?_
 ·
  refine go6 ?_;refine lX (xI fm0 f underlying96 zF2 cg) λdx cf=>(lX (xA zF2 cf) λdw ce=>(nA (ρ:=(rpP (tPl 1 1) (rpP (tLL 1) (rpP rpI rpI)))) (X:=((zT,(0:Rat)),([],((0:Int),(0:Int))))) u9 (yA (yA (yR (yE dC)) (yE dC)) (yA wC (yA wQ wQ))) λep cw ba=>?_));have au:=(Le.p (Le.p (Le.t (Le.q (l:=m+1) oM)) (Le.q (l:=n+1) oM)) (Le.p (Le.s (Le.s (Le.t (Le.q (l:=k+1) oM)))) (Le.refl _))).R ba;refine zP (A:=[]) (uB sizeOf140 pH au (ce.le (Le.p (Le.p (Le.t (Le.q (l:=m+1) oM)) (Le.q (l:=n+1) oM)) (Le.p (Le.s (Le.s (Le.t (Le.q (l:=k+1) oM)))) (Le.refl _))))) λcu U=>(go3 ?_);refine zJ 16 _ [(14,(13,29,[.bool false,.slice none 0 0,.slice none 0 0])),(15,(14,29,[.bool false,.slice none 0 0,.slice none 0 0]))] (zai 0 4 (zai 5 7 [(4,.c),(12,.c),(13,.c),(14,.a),(15,.a),(16,.t),(17,.t)])) zX (jD.cons I I (uM xU I I) (jD.cons I I (uM xU I I) jD.nil)) (wL zou) (uN I I (uN I I kF)) (λr hr=>hr) (go2 ?_);refine wX I (xB zK (y6i (y6i pH)) U) λdv cd=>(wX I (xB zK pH av) λdu cc=>(go2 ?_));refine wX I (xB yC (y6i (y6u pH)) U) λdr cb=>(go2 ?_);refine wX I (xB zK (y6i (y6i pH)) U) λdq ca=>(wX I (xB zK pH aw) λdp bz=>?_);refine w_c I (sC (ev2 I I) call120 (λw hs=>zFE hs cd cc oM) λdt h1 ej ap=>?_);replace ap:=Rp.Is.le ap (Le.q (l:=3*l+3*m+12) oM);refine w_c I (sC (ev2 I I) call120 (λw hs=>zFE hs ca.up bz.up oM) λdn h2 ei ao=>?_);replace ao:=Rp.Is.le ao (Le.q (l:=3*j+3*m+12) oM);refine w_c I (sC (ev2 I I) call121 (λw hs=>fV hs cb.up ao oM) λdm h3 eh an=>?_);replace an:=Rp.Is.le an (Le.q (l:=3*j+3*m+n+14) oM);refine w_a I I (λeo=>?_);have az:(rpQ (3*m+3*l+9)).R h3 [.bool false,.slice none 0 0,.slice none 0 0] (0:Rat):=(yE oM);refine w_a I I (λen=>?_);have ay:(rpQ (n+3*m+3*j+11)).R h3 [.bool false,.slice none 0 0,.slice none 0 0] (0:Rat):=(yE oM);have ar:=(Le.q (l:=3*l+3*m+12) oM).R az;refine yG (A:=[_]) I (uB sizeOf29 pH ar ap) λct ac=>?_;have aq:=(Le.q (l:=3*j+3*m+n+14) oM).R ay;refine yG (A:=[]) I (uB sizeOf29 pH aq an) λcq ae=>(go4 ?_);refine zJ 12 _ [] ((0,.q)::(2,.q)::(1,.c)::(3,.c)::zai 4 8 []) zX nX (wL zou) nX (λr hr=>hr) (wX I (xB yC pH ac) λdl bx=>(wX I (xB yC pH ae) λdk bv=>?_));refine w_c I (sC (ev1 I) call122 (λw hs=>pL hs bx oM) λbg h4 eg bw=>?_);obtain rfl:bg=vI (yQ (zF (((md.1.getD f fm0).1).1) d)):=bw;have cj:=xC (zF (((md.1.getD f fm0).1).1) d);refine w_c I (sC (ev1 I) call122 (λw hs=>pL hs bv.up oM) λbf h5 ee bu=>?_);obtain rfl:bf=vI (yQ ((((md.1.getD f fm0).1).2)-(zF (((md.1.getD f fm0).1).1) p))):=bu;have ci:=xC ((((md.1.getD f fm0).1).2)-(zF (((md.1.getD f fm0).1).1) p));have dy:=yJI (zF (md.1.getD f fm0).1.1 d) ((md.1.getD f fm0).1.2-zF (md.1.getD f fm0).1.1 p);refine wZ I (λ_ _=>gK I I oM oM) I (go2 ?_);refine jZ (((yQ (zF (((md.1.getD f fm0).1).1) d))*(yQ ((((md.1.getD f fm0).1).2)-(zF (((md.1.getD f fm0).1).1) p))))<=(0:Int)) (λaa=>?_) (λaa=>?_)
  ·
   rw[xW aa];refine dQ ?_;refine xK (A:=[]) (xK (A:=[]) (xK (A:=[]) ?_));have C:=zPT (md:=md) (p:=p) (d:=d) (f:=f) (.inl zo4);have O:¬bdM (md.1.getD f fm0) p d:=λe=>e.1 (.inl zo4);refine gqL ((f+1),h5) ?_ ?_ (he:=⟨I,I,zbi (λz:Int=>some (vI z)) (by have H:=zbi Prod.fst C.symm;exact H),zbi (λz:Int=>some (vI z)) (by have H:=zbi Prod.snd C.symm;exact H),I,I,I,y5i⟩)
   · exact⟨mle,zot,vZ (Q:=λu=>¬bdM (md.1.getD u fm0) p d) ab O⟩
   omega
  rw[yM aa];refine go1 ?_;refine oX I (xB yIL (y6u (y6i pH)) U) λdj bt=>(yV I I I (λh' L' hh hR=>jN underlying76 I (bt.mono hh)) I (gc4 (λah=>?_) λah=>?_))
  ·
   refine go8 ?_;refine xK (A:=[]) (xK (A:=[]) (xK (A:=[]) ?_));have C:=zPT (md:=md) (p:=p) (d:=d) (f:=f) (.inr oM);have O:¬bdM (md.1.getD f fm0) p d:=λe=>e.1 (.inr oM);refine gqL ((f+1),h5) ?_ ?_ (he:=⟨I,I,zbi (λz:Int=>some (vI z)) (by have H:=zbi Prod.fst C.symm;exact H),zbi (λz:Int=>some (vI z)) (by have H:=zbi Prod.snd C.symm;exact H),I,I,I,y5i⟩)
   · exact⟨mle,zot,vZ (Q:=λu=>¬bdM (md.1.getD u fm0) p d) ab O⟩
   omega
  have Z:¬skM (md.1.getD f fm0) p d:=λe=>e.elim zo4 (λe=>ah oM);refine go4 ?_;refine lX (xB yC pH ae) λdi bs=>(lX (xB yC pH ac) λdh br=>(cL (ev2 I I) call123 (λw hs=>zWE hs bs br oM) λdf h6 ed bq=>?_));obtain⟨ai,rfl,M⟩:=bq
  change (rpQ ((3*j+3*m+n+14)+(3*l+3*m+12))).Is h6 ai (if(zF (((md.1.getD f fm0).1).1) d)=0 then 0 else((((md.1.getD f fm0).1).2)-(zF (((md.1.getD f fm0).1).1) p))/(zF (((md.1.getD f fm0).1).1) d)) at M
  replace M:=Rp.Is.le M (Le.q (l:=3*j+3*l+6*m+n+26) oM);refine go3 ?_;refine nA (ρ:=(rpQ (n+6*m+3*j+3*l+30))) (X:=(0:Rat)) xU (yE oM) λem cv ax=>(zP (A:=[]) (uB sizeOf29 pH ax (M.le (Le.q (l:=n+6*m+3*j+3*l+30) oM))) λck aj=>(go4 ?_));refine zJ 7 _ [] (zai 0 4 [(4,.c),(5,.c),(6,.c)]) zX nX zou nX (λr hr=>hr) (wX I (xB zF2 pH U) λde bp=>(wX I (xB zK pH aw) λdd bo=>(wX I (xB yC pH aj) λdc bn=>(wX I (xB zK pH av) λdb bm=>?_))));refine w_c I (sC (ev2 I I) call125 (λw hs=>zWD hs bn bm oM) λda h7 ec am=>?_);replace am:=Rp.Is.le am (Le.t (Le.q (l:=3*j+4*l+6*m+n+32) oM));refine w_c I (sC (ev2 I I) call124 (λw hs=>yFI hs bo.up am oM) λcz h8 eb ak=>?_);replace ak:=Rp.Is.le ak (Le.t (Le.q (l:=4*j+4*l+6*m+n+34) oM));refine w_c I (sC (ev2 I I) call109 (λw hs=>zJ7 hs bp.up ak oM oM (by first|omega|exact H5.2.2 f oM)) λbe H ea bl=>?_);obtain rfl:be=vI (whM (md.1.getD f fm0) (T3.mk (p.x+((if(zF (((md.1.getD f fm0).1).1) d)=0 then 0 else((((md.1.getD f fm0).1).2)-(zF (((md.1.getD f fm0).1).1) p))/(zF (((md.1.getD f fm0).1).1) d))*d.x)) (p.y+((if(zF (((md.1.getD f fm0).1).1) d)=0 then 0 else((((md.1.getD f fm0).1).2)-(zF (((md.1.getD f fm0).1).1) p))/(zF (((md.1.getD f fm0).1).1) d))*d.y)) (p.z+((if(zF (((md.1.getD f fm0).1).1) d)=0 then 0 else((((md.1.getD f fm0).1).2)-(zF (((md.1.getD f fm0).1).1) p))/(zF (((md.1.getD f fm0).1).1) d))*d.z)))):=bl;refine gc9 (λD=>?_) λD=>?_
  ·
   rw[zSZ Z] at D;obtain⟨e1,e2,e3⟩:=yGP (md:=md) (p:=p) (d:=d) (f:=f) oM ⟨Z,D⟩;refine sH ?_;refine qU I I I I ?_;rw[e1,e2,yM e3]
  rw[zSZ Z] at D;refine gc6 (λJ=>?_) λJ=>?_
  ·
   rw[zSZ Z] at J;refine go2 ?_;refine lX (xB yC pH ac) λcy bk=>(cL (ev1 I) call122 (λw hs=>pL hs bk oM) λbd bc cp bj=>?_);obtain rfl:bd=vI (yQ (zF (((md.1.getD f fm0).1).1) d)):=bj;have ch:=xC (zF (((md.1.getD f fm0).1).1) d);refine gc3 (λad=>?_) λad=>?_
   ·
    refine qC ?_;refine xK (A:=[]) (xK (A:=[]) (xK (A:=[]) (xK (A:=[]) ?_)));have C:=yGO Z J (zTB.1 ad);have O:¬bdM (md.1.getD f fm0) p d:=λe=>D e.2;refine gqL ((f+1),bc) ?_ ?_ (he:=⟨I,I,zbi (λz:Int=>some (vI z)) (by have H:=zbi Prod.fst C.symm;exact H),zbi (λz:Int=>some (vI z)) (by have H:=zbi Prod.snd C.symm;exact H),I,I,I,y5i⟩)
    · exact⟨mle,zot,vZ (Q:=λu=>¬bdM (md.1.getD u fm0) p d) ab O⟩
    omega
   refine qC ?_;refine xK (A:=[]) (xK (A:=[]) (xK (A:=[]) (xK (A:=[]) ?_)));have C:=yLU Z J (λe=>ad (zTB.2 e));have O:¬bdM (md.1.getD f fm0) p d:=λe=>D e.2;refine gqL ((f+1),bc) ?_ ?_ (he:=⟨I,I,zbi (λz:Int=>some (vI z)) (by have H:=zbi Prod.fst C.symm;exact H),zbi (λz:Int=>some (vI z)) (by have H:=zbi Prod.snd C.symm;exact H),I,I,I,y5i⟩)
   · exact⟨mle,zot,vZ (Q:=λu=>¬bdM (md.1.getD u fm0) p d) ab O⟩
   omega
  rw[zSZ Z] at J;refine go8 ?_;refine xK (A:=[]) (xK (A:=[]) (xK (A:=[]) (xK (A:=[]) ?_)));have C:=yLT Z J;have O:¬bdM (md.1.getD f fm0) p d:=λe=>D e.2;refine gqL ((f+1),H) ?_ ?_ (he:=⟨I,I,zbi (λz:Int=>some (vI z)) (by have H:=zbi Prod.fst C.symm;exact H),zbi (λz:Int=>some (vI z)) (by have H:=zbi Prod.snd C.symm;exact H),I,I,I,y5i⟩)
  · exact⟨mle,zot,vZ (Q:=λu=>¬bdM (md.1.getD u fm0) p d) ab O⟩
  omega
 have ef:f=md.1.length:=by omega
 obtain⟨e1,e2,e3⟩:=yLV (md:=md) (p:=p) (d:=d) (λu hu=>ab u oM);refine cD ?_;refine qU I I I I ?_;rw[e1,e2,ef,xW e3]
theorem zRT{m n k j:Nat}{vmd:Value}{md:((List (Pq×((List (List Tq))×(Int×Int))))×(List (List Tq)))}(rmd:(rpP (rpS (rpP (tPl m n) (rpP (tLL k) (rpP rpI rpI)))) (rpS (rpA 2 (tPt k)))).Is h0 vmd md){vp:Value}{p:Tq}(rp:(tPt j).Is h0 vp p)(H0:k<=10000)(H1:j<=1000)(H2:m<=4100)(H3:n<=4100)(H4:zWU md)(H5:cV md p<=3*md.2.length+1)(H6:clM md p (vK ↑(cV md p))):
 y8i 113 #[vmd,vp] w0 h0 (λ_ r=>r=vI (crA md p (vK ↑(cV md p))-crB md p (vK ↑(cV md p)))):=by
 have aj:=zKL md p (vK ↑(cV md p));have ae:=H4.1;refine cb2 21 vmd vp func113 hs ?_;refine go2 ?_;refine nB rmd λb2 am D=>(nB rp λb3 ak C=>(go4 ?_));refine zJ 13 _ [] (zai 0 4 ((4,.c)::(5,.c)::zai 6 7 [])) zX nX (wL zou) nX (λr hr=>hr) (wX I (xB zU8 pH D) λv9 r9=>(wX I (xB zK pH C) λad U=>(wX I (xB zU8 pH D) λac O=>(wX I (xB zK pH C) λab M=>?_))));refine w_c I (sC (ev2 I I) call74 (λw hs=>zIW hs O M oM oM (by first|omega|exact H4|exact H5|exact H6) (by first|omega|exact H4|exact H5|exact H6) (by first|omega|exact H4|exact H5|exact H6)) λaa h1 ai J=>?_);refine w_c I (sC (ev3 I I I) call79 (λw hs=>zIX hs r9.up U.up J oM oM dC oM oM (by first|omega|exact H4)) λZ h2 ah H=>?_);obtain rfl:=H;refine yF9 ?_;refine zC I I ?_
 rfl
theorem zOR{m n k j:Nat}{vmd:Value}{md:((List (Pq×((List (List Tq))×(Int×Int))))×(List (List Tq)))}(rmd:(rpP (rpS (rpP (tPl m n) (rpP (tLL k) (rpP rpI rpI)))) (rpS (rpA 2 (tPt k)))).Is h0 vmd md){vp:Value}{p:Tq}(rp:(tPt j).Is h0 vp p)(H0:k<=10000)(H1:j<=1000)(H2:m<=4100)(H3:n<=4100)(H4:zWU md)(H5:cV md p<=3*md.2.length+1)(H6:clM md p (vK ↑(cV md p))):
 y8i 72 #[vmd,vp] w0 h0 (λh r=>r=.tuple #[vI (wdM md p),vB (¬onA md p)]):=by
 refine cb2 18 vmd vp func72 hs ?_;refine go2 ?_;refine nB rmd λb2 an J=>(nB rp λb3 am H=>(go7 ?_));refine lX (xB zU8 pH J) λv9 r9=>(lX (xB zK pH H) λai ab=>(cL (ev2 I I) call70 (λw hs=>yJ9 hs r9 ab oM oM oM oM (by first|omega|exact H4)) λah h1 ak aa=>?_));obtain rfl:=aa;refine zI8 (λD=>?_) λD=>?_
 ·
  have C:onA md p:=D;refine go8 ?_;refine wY I I I ?_;rw[yM (λe=>e C),show wdM md p=0 from zau C]
 have C:¬onA md p:=D;refine go4 ?_;refine lX (xB zU8 pH J) λae Z=>(lX (xB zK pH H) λad U=>(cL (ev2 I I) call113 (λw hs=>zRT hs Z U oM oM oM oM (by first|omega|exact H4|exact H5|exact H6) (by first|omega|exact H4|exact H5|exact H6) (by first|omega|exact H4|exact H5|exact H6)) λM h2 aj O=>?_));obtain rfl:M=vI (crA md p (vK ↑(cV md p))-crB md p (vK ↑(cV md p))):=O;have ac:=zKL md p (vK ↑(cV md p));refine go5 ?_;refine wY I I I ?_;rw[xW C,show wdM md p=_ from zae C]
end
theorem yNQ:MapTy prog 138 118 4 3:=⟨underlying138,underlying118,underlying3,sizeOf3,isAgg3,zXQ yBY rfl⟩
theorem yFL{w0 w:World}{h0 h:Mem}{k m n j:Nat}{vs:Value}{s:Sd}(rs:(tSd k m n j).Is h vs s){vl:Value}{l:List Int}(rl:(rpS rpI).Is h vl l){b bm ck:Nat}{cs ces:List Value}{vf ve:Value}{EE:List (List Pt)}{es:Array MapEntry}{T:List PIr}(rb:(rpP rpV rpV).R h cs (vf,ve))(ho0:ve.oneCell'=true)(re:RL (rpA 2 (tPt (k+1))) h ces EE)(hm0:lV es T)(hEE:EE=T.map (edP s.1))(H0:∀u,u<l.length->0<=l.getD u 0/\l.getD u 0<s.1.length)(H1:l.length<=10000/\T.length<=10000000/\s.1.length<=100000)(H2:k<=1000000){L:List Res}(hs:St w0 h0 (.var b 99 cs::.gs 151 18 ve EE.length ces::.blk bm (.map es ck)::L) h w):
 Calls prog 107 #[vP b 0,vs,vl,.map (some bm)] w (tP w0 h0 (λg v K=>∃Qs',(Qs'++L).Sublist K/\MLe h g/\∃cs' ve' ces' es' ck',Qs'=[.var b 99 cs',.gs 151 18 ve' ((sxE s.1 l T l.length).map (edP s.1)).length ces',.blk bm (.map es' ck')]/\(rpP rpV rpV).R g cs' (vf,ve')/\ve'.oneCell'=true/\RL (rpA 2 (tPt (k+1))) g ces' ((sxE s.1 l T l.length).map (edP s.1))/\lV es' (sxE s.1 l T l.length))):=by
 refine qK (n:=77) (e:=[(0,vP b 0),(1,vs),(2,vl),(3,.map (some bm))]) (vs:=[vP b 0,vs,vl,.map (some bm)]) func107 rfl rfl (bL rfl) hs e4z (go2 ?_);refine nB rs λb5 cc ah=>(uR ?_);refine gcL (ι:=Nat×List (List Pt)×List PIr×List Value×Value×List Value×Array MapEntry×Nat×Mem) (λ(u,E2,T2,U,C,O,M,Z,ma)=>(MLe h ma/\((rpP rpV rpV).R ma U (vf,C)/\RL (rpA 2 (tPt (k+1))) ma O E2/\C.oneCell'=true/\lV M T2/\u<=l.length/\T2=sxE s.1 l T u/\E2=T2.map (edP s.1)),[(0,vP b 0),(2,vl),(3,.map (some bm)),(5,vP b5 0),(12,vl),(13,vI (↑(l).length:Int)),(14,vI ↑u)],(.var b5 39 cc::.var b 99 U::.gs 151 18 C E2.length O::.blk bm (.map M Z)::L),ma,l.length-u)) (0,EE,T,cs,ve,ces,es,ck,h) ?_ ?_
 · exact⟨mle,rb,re,ho0,hm0,zot,I,hEE⟩
 rintro⟨u,E2,T2,U,C,O,M,Z,ma⟩ ⟨au,H,ab,ac,J,dv,ad,ae⟩
 refine yY ?_;have ca:=zK1 s.1 l T u;rw[<-ad] at ca;have dy:E2.length=T2.length:=by rw[ae];exact zde _
 refine gc6 (λaw=>?_) λaw=>?_
 ·
  have dx:=H0 u oM;have dw:=H0 ((u+1)%l.length) (zcu _ oM);refine go7 ?_;refine lX (xI (0:Int) u underlying22 ty3 rl) λdr bz=>(lX (xA ty3 bz) λdq bx=>?_);obtain⟨rfl,cl,cg⟩:=kX bx;refine qE ?_;refine gv (wI I I oM oM) I (lX (xI (0:Int) ((u+1)%l.length) underlying22 ty3 rl (hi:=by exact zcu _ oM)) λdp bw=>(lX (xA ty3 bw) λdn bv=>?_));obtain⟨rfl,cj,cf⟩:=kX bv;refine go7 ?_;refine gv (zZ2 I I) I (go2 ?_);refine gv (zN4 I I) I (lX (xV (ρ:=(rpA 2 rpI)) (xS (ps':=[(0,_),(1,_)]) underlying118 zCD I I sizeOf3 e4z I (zM7 2 wQ) (zD I (y5e (y5u _) (0:Int) 0 dC) (wM oM oM) (zD I (y5e (y5u _) (0:Int) 1 dC) (wM oM oM) zN)))) λdm bu=>(nA (ρ:=(rpA 2 rpI)) (X:=(List.replicate 2 (0:Int))) zCD (zM7 2 wQ) λeb cn ar=>(zP (A:=[]) (uB sizeOf118 pH ar bu) λcb D=>(go3 ?_))));refine zJ 18 _ [] (zai 0 15 [(15,.c),(16,.q),(17,.q)]) zX nX (wL zou) nX (λr hr=>hr) (go1 ?_);refine wX I (xB yG5 pH D) λdl bt=>(w_q I (λh' L' hh hR=>zGU (u:=((min (l.getD u (0:Int)) (l.getD ((u+1)%l.length) (0:Int))),(max (l.getD u (0:Int)) (l.getD ((u+1)%l.length) (0:Int))))) yNQ (hR _ mh4) I (evk I (yBN (bt.mono hh))) J) I (go2 ?_));refine jZ (¬(((min (l.getD u (0:Int)) (l.getD ((u+1)%l.length) (0:Int))),(max (l.getD u (0:Int)) (l.getD ((u+1)%l.length) (0:Int))))∈T2)) (λaa=>?_) (λaa=>?_)
  ·
   rw[xW aa];refine go1 ?_;refine oX I (xB uQ (y6i pH) ah) λdk bs=>(yV I I I (λh' L' hh hR=>xG I) I (oX I (xI zT ((l.getD u (0:Int)).toNat) underlying35 zK bs) λdj br=>(oX I (xA zK br) λdi bq=>(go1 ?_))));refine oX I (xB uQ (y6i pH) ah) λdh bp=>(yV I I I (λh' L' hh hR=>xG I) I (oX I (xI zT ((l.getD ((u+1)%l.length) (0:Int)).toNat) underlying35 zK bp) λdf bo=>(oX I (xA zK bo) λde bn=>?_)));refine w_c I (iT I I (sC (ev2 I I) call119 (λw hs=>zOB hs bq bn oM) λaz h1 ea bl=>?_));obtain rfl:az=vB ((s.1.getD ((l.getD u (0:Int)).toNat) zT)=(s.1.getD ((l.getD ((u+1)%l.length) (0:Int)).toNat) zT)):=bl;refine gc4 (λav=>?_) λav=>?_
   ·
    refine go3 ?_;refine lX (xB yG5 pH D) λdd bk=>(zW6 (A:=[_,_,_,_]) (u:=((min (l.getD u (0:Int)) (l.getD ((u+1)%l.length) (0:Int))),(max (l.getD u (0:Int)) (l.getD ((u+1)%l.length) (0:Int))))) yNQ I (evk I (yBN bk)) I J zo4 ?_);intro an am;refine go2 ?_;refine qJ (A:=[_,_,_]) 22 [] (zai 0 18 [(18,.c),(19,.c),(20,.q),(21,.q),(22,.t)]) zX nX (wL zou) nX (go2 ?_);refine wZ I (λ_ _=>gY I) I (wZ I (λ_ _=>(fH underlying99 I sizeOf97 I).cv (show _=vP b 1 from zbi (vP b) zo5)) I (wX I (sN (xB yMR (y6u pH) H)) λdc bj=>?_));subst bj;refine go1 ?_;refine wX I (xB uQ (y6i pH) ah) λdb bi=>(go1 ?_);refine wX I (xB ty3 (y5e pH (0:Int) 0 dC) D) λda bh=>?_;obtain⟨rfl,ci,ce⟩:=kX bh;refine cY (F:=λv_=>AtP (tPt k) h1 v_ (s.1.getD ((min (l.getD u (0:Int)) (l.getD ((u+1)%l.length) (0:Int))).toNat) zT)) I (tT zT ((min (l.getD u (0:Int)) (l.getD ((u+1)%l.length) (0:Int))).toNat) underlying35 zK I I bi (by(show(min (l.getD u (0:Int)) (l.getD ((u+1)%l.length) (0:Int)))=_;omega)) oM nP) j5 I ?_;intro cz bg;refine wX I (xA zK bg) λcy bf=>(go1 ?_);refine wX I (xB uQ (y6i pH) ah) λcw be=>(go1 ?_);refine wX I (xB ty3 (y5e pH (0:Int) 1 dC) D) λcu bd=>?_;obtain⟨rfl,ch,cd⟩:=kX bd;refine cY (F:=λv_=>AtP (tPt k) h1 v_ (s.1.getD ((max (l.getD u (0:Int)) (l.getD ((u+1)%l.length) (0:Int))).toNat) zT)) I (tT zT ((max (l.getD u (0:Int)) (l.getD ((u+1)%l.length) (0:Int))).toNat) underlying35 zK I I be (by(show(max (l.getD u (0:Int)) (l.getD ((u+1)%l.length) (0:Int)))=_;omega)) oM nP) j5 I ?_;intro ct bc;refine wX I (xA zK bc) λcq bb=>(wX I (xV (ρ:=(rpA 2 (tPt (k+1)))) (xS (ps':=[(0,_),(1,_)]) underlying151 zFP I I sizeOf31 e4z I (zM7 2 (yR (yE oM))) (zD I (y5e (y5u _) zT 0 dC) (bf.le (Le.t (Le.q (l:=k+1) oM))) (zD I (y5e (y5u _) zT 1 dC) (bb.le (Le.t (Le.q (l:=k+1) oM))) zN)))) λcp ba=>?_);refine w_c I (jR (λX=>zL (ρ:=(rpA 2 (tPt (k+1)))) (m:=1) (xs:=[[(s.1.getD ((min (l.getD u (0:Int)) (l.getD ((u+1)%l.length) (0:Int))).toNat) zT),(s.1.getD ((max (l.getD u (0:Int)) (l.getD ((u+1)%l.length) (0:Int))).toNat) zT)]]) (ps':=[(0,_)]) underlying97 zFP I I I (zM7 2 (yR (yE oM))) e2z (zD I (y5e (y5u _) ed0 0 dC) ba zN) (show 1*18<=16777216 from by decide) nP) I ?_)
    rintro co du ⟨cm,rfl,aq⟩
    refine w_c I (xY (A:=[]) (ρ:=(rpA 2 (tPt (k+1)))) aq dK ?_);intro h2 dz aj;refine fK (A:=[_,_,_]) (λX=>uK (zR (ρ:=(rpA 2 (tPt (k+1)))) (bytes:=336) underlying97 zFP I I I I nP I I ab.up aj bO bO)) I (xO zoy) ?_
    rintro ay dt ⟨ai,ax,rfl,ap⟩
    refine wZ I (λ_ _=>gY I) I (wZ I (λ_ _=>(fH underlying99 I sizeOf97 I).cv (show _=vP b 1 from zbi (vP b) zo5)) I (yG (A:=[_,_]) I (uB sizeOf97 (y6u pH) H (eH ai)) λao ak=>(go7 ?_)));refine xK (A:=[]) ?_;refine gqL ((u+1),(E2++[[(s.1.getD ((min (l.getD u (0:Int)) (l.getD ((u+1)%l.length) (0:Int))).toNat) zT),(s.1.getD ((max (l.getD u (0:Int)) (l.getD ((u+1)%l.length) (0:Int))).toNat) zT)]]),(T2++[((min (l.getD u (0:Int)) (l.getD ((u+1)%l.length) (0:Int))),(max (l.getD u (0:Int)) (l.getD ((u+1)%l.length) (0:Int))))]),ao,ay,ax,an,(Z+1),h2) ?_ ?_
    · exact⟨mle,ak,ap,ai,am,zot,yJE ad zo4 zo4,yLN ae⟩
    omega
   refine go7 ?_;refine xK (A:=[]) ?_;refine gqL ((u+1),E2,T2,U,C,O,M,Z,h1) ?_ ?_
   · exact⟨mle,H.up,ab.up,ac,J,zot,yEQ ad zo4,ae⟩
   omega
  rw[yM aa];refine uR ?_;refine w_c I (mJ I I I I (qC ?_));refine xK (A:=[]) ?_;refine gqL ((u+1),E2,T2,U,C,O,M,Z,ma) ?_ ?_
  · exact⟨mle,H.up,ab.up,ac,J,zot,yER ad zo4,ae⟩
  omega
 have eu:u=l.length:=by omega
 subst eu ae ad;refine go4 ?_;refine zMQ I ?_;exact⟨_,(.cons _ (.cons_cons _ (.cons_cons _ (.cons_cons _ (zmi _))))),au,_,_,_,_,_,I,H.up,ac,ab.up,J⟩
end Go.Proofs.YtpkaegemlpaenaaGreat
