/- Texts that the proof needs, part 5. -/
import Derived.Test.YtpkaegemlpaenaaGreatKC4
set_option linter.unusedVariables false
set_option linter.unusedSimpArgs false
namespace Go.Proofs.YtpkaegemlpaenaaGreat
open Bk Go Tryz
set_option maxRecDepth 10000
set_option maxHeartbeats 1000000
attribute [local irreducible] GL GC GQ W OpV
section
variable{w0:World}{h0:Mem}(hs:MLe h0 (mem w0))
include hs
theorem cX{k:Nat}{vp:Value}{p:Tq}(rp:(tPt k).Is h0 vp p):
 Calls Tryz.prog 185 #[vp] w0 (Ret w0 h0 (λh r=>(tPt (k+1)).Is h r (zZ p))):=by
 refine cb1 8 vp func185 hs ?_;refine go2 ?_;refine nB rp λb1 ab H=>(nA (ρ:=(tPt (k+1))) (X:=zT) yM (xO (yI oM)) λb2 aa J=>(go5 ?_));refine lX (xB yE (Pc.tx pH) H) λv4 r4=>(go1 ?_);refine lX (xB yE (Pc.ty pH) H) λv6 Z=>(lX (xV (ρ:=(tPt (k+1))) (wB (ps':=[(0,_),(1,_)]) underlying31 yM I I sizeOf29 e4z I (xO (yI oM)) (zD I (Pc.tx (Pc.here _)) (r4.le (Le.q (l:=k+1) oM)) (zD I (Pc.ty (Pc.here _)) (Z.le (Le.q (l:=k+1) oM)) zO)))) λv7 U=>(zW (A:=[]) (uB sizeOf31 pH J U) λM G=>(go3 ?_)));refine wT (kJ (t:=2) zM mh0 I G) ?_;intro O C D;refine yV (λE S=>zV I C E S) ?_;exact D
theorem jJ{k:Nat}{va:Value}{a:Tq}(ra:(tPt k).Is h0 va a){vb:Value}{b:Tq}(rb:(tPt k).Is h0 vb b)(hcd0:k<=2000000000):
 Calls Tryz.prog 174 #[va,vb] w0 (Ret w0 h0 (λ_ r=>r=vB ((pr a 0 1)=(pr b 0 1)))):=by
 refine cb2 17 va vb func174 hs ?_;refine go2 ?_;refine nB ra λb2 ac D=>(nB rb λb3 ab C=>(go6 ?_));refine lX (xB yE (Pc.tx pH) D) λv6 r6=>(go1 ?_);refine lX (xB yE (Pc.tx pH) C) λv8 r8=>(cL (ev2 I I) call73 (λw hs=>sH hs r6 r8 oM) λv9 h1 ah r9=>?_);obtain rfl:v9=vB (a.x=b.x):=r9;refine qB (ι:=Mem) 7 (λm_=>MLe h1 m_) (λ_=>[(16,vB ((a.x=b.x)/\(a.y=b.y)))]) (λ_=>[.var b3 31 ab,.var b2 31 ac]) (λm_=>m_) ?_ ?_
 ·
  refine zY (a.x=b.x) (λH=>?_) (λH=>?_)
  ·
   refine gT H I (go3 ?_);refine lX (xB yE (Pc.ty pH) D) λae U=>(go3 ?_);refine lX (xB yE (Pc.ty pH) C) λad O=>(go1 ?_);refine cL (ev2 I I) call73 (λw hs=>sH hs U O oM) λJ h2 aa M=>?_;obtain rfl:J=vB (a.y=b.y):=M;refine go2 ?_;refine zS h2 aa ⟨?_,trivial⟩ I I;exact congrArg some (xD H)
  refine gF H I (go7 ?_);refine zS h1 (MLe.refl _) ⟨?_,trivial⟩ I I;exact congrArg some (xE H)
 intro Z G;refine tY ?_;refine go4 ?_;refine zC I I ?_
 first|exact kF (by rw[zWG];exact Iff.rfl)|exact(xM (by rw[zWG];exact Iff.rfl)).symm|exact(yH (by rw[zWG];exact Iff.rfl)).symm
theorem pQ{k:Nat}{va:Value}{a:Tq}(ra:(tPt k).Is h0 va a){vb:Value}{b:Tq}(rb:(tPt k).Is h0 vb b)(hcd0:k<=2000000000):
 Calls Tryz.prog 200 #[va,vb] w0 (Ret w0 h0 (λ_ r=>r=vB (lx (pr a 0 1) (pr b 0 1)))):=by
 refine cb2 21 va vb func200 hs ?_;refine go2 ?_;refine nB ra λb2 aj G=>(nB rb λb3 ai D=>(go7 ?_));refine lX (xB yE (Pc.tx pH) G) λv7 r7=>(go1 ?_);refine lX (xB yE (Pc.tx pH) D) λv9 r9=>(cL (ev2 I I) call17 (λw hs=>tG hs r7 r9 oM) λJ h1 ah Z=>?_);obtain rfl:J=vI (xT a.x b.x):=Z;have ab:=jA a.x b.x;refine gc9 (λC=>?_) λC=>?_
 ·
  refine go9 ?_;refine zC I I ?_;exact kF (yHH C)
 refine go5 ?_;refine lX (xB yE (Pc.ty pH) G) λad U=>(go1 ?_);refine lX (xB yE (Pc.ty pH) D) λac O=>(cL (ev2 I I) call17 (λw hs=>tG hs U O oM) λH h2 ae M=>?_);obtain rfl:H=vI (xT a.y b.y):=M;have aa:=jA a.y b.y;refine go5 ?_;refine zC I I ?_;exact kF (yHG C)
theorem pR{k:Nat}{vl:Value}{l:(List Tq)}(rl:(tLs k).Is h0 vl l)(hcd0:k<=100000)(hcd1:l.length<=1000):
 Calls Tryz.prog 131 #[vl] w0 (Ret w0 h0 (λh r=>(rpQ 1000000000).Is h r (uW l 0 1 l.length))):=by
 refine cb1 40 vl func131 hs ?_;refine go2 ?_;refine nA (ρ:=(rpQ 1)) (X:=(0:Rat)) xR (yI dC) λb2 bi ar=>(go4 ?_);refine lX (xV (ρ:=(rpQ 1)) (xZ (ps':=[]) underlying29 xR I I (qL underlying29) trivial I (yI dC) zO)) λv7 r7=>(nA (ρ:=(rpQ 1)) (X:=(0:Rat)) xR (yI dC) λb3 cg aq=>(zW (A:=[]) (uB sizeOf29 pH aq r7) λan ak=>(go9 ?_)));refine gcL (ι:=Nat×Nat×List Value×Mem) (λ(m,q,H,ma)=>(MLe h0 ma/\((rpQ q).R ma H (uW l 0 1 m)/\m<=l.length/\q<=(4*k+9)*m+1),[(0,vl),(2,vP b2 0),(3,vP b3 0),(4,vI ↑m)],[.var b3 29 H,.var b2 29 bi],ma,l.length-m)) (0,1,an,h0) ?_ ?_
 · exact⟨mle,ak,by omega,by omega⟩
 rintro⟨m,q,H,ma⟩ ⟨bk,C,cb,ca⟩
 refine yW ?_;have be:=Nat.mul_le_mul_left (4*k+9) (show m<=1000 by omega);refine gc9 (λam=>?_) λam=>?_
 ·
  refine go5 ?_;refine zK 16 _ [(12,(5,31,[.bool false,.slice none 0 0,.slice none 0 0,.bool false,.slice none 0 0,.slice none 0 0,.bool false,.slice none 0 0,.slice none 0 0])),(13,(6,31,[.bool false,.slice none 0 0,.slice none 0 0,.bool false,.slice none 0 0,.slice none 0 0,.bool false,.slice none 0 0,.slice none 0 0]))] [(0,.q),(1,.q),(2,.q),(3,.q),(4,.q),(5,.q),(6,.q),(7,.q),(8,.q),(9,.q),(10,.q),(11,.q),(12,.a),(13,.a),(14,.c),(15,.c)] yA (jM.cons I I (uR yM I I) (jM.cons I I (uR yM I I) jM.nil)) (wJ zou) (uU I I (uU I I kU)) (λr hr=>hr) (go2 ?_);refine wX I (xI zT m underlying35 zM rl) λbz bd=>(wX I (xA zM bd) λbx bc=>(go4 ?_));refine w_q I (λh' L' hh hR=>uY underlying35 I (rl.up.mono hh)) I (wI I (λ_ _=>wC I I oM oM) I (wX I (xI zT ((m+1)%l.length) underlying35 zM rl (hi:=by exact Nat.mod_lt _ oM)) λbw bb=>(wX I (xA zM bb) λbv ba=>?_)));refine w_a I I (λb5=>?_);have ap:(tPt 1).R ma [.bool false,.slice none 0 0,.slice none 0 0,.bool false,.slice none 0 0,.slice none 0 0,.bool false,.slice none 0 0,.slice none 0 0] zT:=(xO (yI dC));refine w_a I I (λb6=>?_);have ao:(tPt 1).R ma [.bool false,.slice none 0 0,.slice none 0 0,.bool false,.slice none 0 0,.slice none 0 0,.bool false,.slice none 0 0,.slice none 0 0] zT:=(xO (yI dC));refine w_c I ?_;have aj:=(Le.t (Le.q (l:=k+1) oM)).R ap;refine pY (A:=[_]) (uB sizeOf31 pH aj (bc.le (Le.t (Le.q (l:=k+1) oM)))) (xJ zoy) λbh G=>?_;refine w_c I ?_;have U:=(Le.t (Le.q (l:=k+1) oM)).R ao;refine pY (A:=[]) (uB sizeOf31 pH U (ba.le (Le.t (Le.q (l:=k+1) oM)))) (xJ zoy) λbg D=>(go2 ?_);refine zK 13 _ [] [(0,.q),(1,.q),(2,.q),(3,.q),(4,.q),(6,.q),(7,.q),(8,.q),(9,.q),(5,.c),(10,.c),(11,.c),(12,.c),(13,.t)] yA nX (wJ zou) nX (λr hr=>hr) (wX I (xB yE pH C) λbu az=>(go1 ?_));refine wX I (xB yE (Pc.tx pH) G) λbt ay=>(go1 ?_);refine wX I (xB yE (Pc.ty pH) D) λbs ax=>(go1 ?_);refine wX I (xB yE (Pc.tx pH) D) λbq aw=>(go1 ?_);refine wX I (xB yE (Pc.ty pH) G) λbp av=>?_;refine w_c I (sC (ev2 I I) call53 (λw hs=>qW hs ay ax oM) λbr h1 cf ah=>?_);replace ah:=Rp.Is.le ah (Le.q (l:=2*k+2) oM);refine w_c I (sC (ev2 I I) call53 (λw hs=>qW hs aw.up av.up oM) λbo h2 ce ae=>?_);replace ae:=Rp.Is.le ae (Le.q (l:=2*k+2) oM);refine w_c I (sC (ev2 I I) call55 (λw hs=>gZ hs ah.up ae oM) λbn h3 cd ad=>?_);replace ad:=Rp.Is.le ad (Le.q (l:=4*k+5) oM);refine w_c I (sC (ev2 I I) call45 (λw hs=>rZ hs az.up ad oM) λbm h4 cc ac=>?_);replace ac:=Rp.Is.le ac (Le.q (l:=4*k+q+6) oM);have O:=(Le.q (l:=4*k+q+6) oM).R C;refine yK (A:=[_,_]) I (uB sizeOf29 pH O ac) λai ab=>(go8 ?_);refine yO (A:=[]) (yO (A:=[]) ?_);refine gqL ((m+1),(q+(4*k+9)),ai,h4) ?_ ?_
  · exact⟨mle,(Rp.castR (Le.R (Le.q (l:=q+(4*k+9)) oM) ab) I),by omega,by rw[Nat.mul_succ];omega⟩
  omega
 have em:m=l.length:=by omega
 have be:=Nat.mul_le_mul_left (4*k+9) (show m<=1000 by omega);refine go7 ?_;refine lX (xB yE pH C) λbl au=>?_;have M:=(Le.q (l:=q+1) oM).R ar;refine zW (A:=[_]) (uB sizeOf29 pH M (au.le (Le.q (l:=q+1) oM))) λbf aa=>(go3 ?_);refine wT (kJ (t:=2) yE mh1 I aa) ?_;intro bj J Z;refine yV (λE S=>zV I J E S) ?_;exact(Rp.Is.cast (Rp.Is.le Z (Le.q (l:=1000000000) oM)) (by rw[em]))
theorem tR{k:Nat}{va:Value}{a:Tq}(ra:(tPt k).Is h0 va a){vb:Value}{b:Tq}(rb:(tPt k).Is h0 vb b){vc:Value}{c:Tq}(rc:(tPt k).Is h0 vc c)(hcd0:k<=10000):
 Calls Tryz.prog 186 #[va,vb,vc] w0 (Ret w0 h0 (λ_ r=>r=vI (orZ (pr a 0 1) (pr b 0 1) (pr c 0 1)))):=by
 refine cb3 13 va vb vc func186 hs ?_;refine go2 ?_;refine nB ra λb3 am M=>(nB rb λb4 ak J=>(nB rc λb5 aj H=>(go5 ?_)));refine lX (xB zM pH M) λv7 r7=>(lX (xB zM pH J) λv8 r8=>(lX (xB zM pH H) λv9 r9=>(zG (zL (ρ:=(tPt (k+1))) (m:=3) (xs:=[a,b,c]) (ps':=[(0,_),(1,_),(2,_)]) underlying35 yM I I I (xO (yI oM)) e6z (zD I (Pc.arr (Pc.here _) zT 0 dC) (r7.le (Le.t (Le.q (l:=k+1) oM))) (zD I (Pc.arr (Pc.here _) zT 1 dC) (r8.le (Le.t (Le.q (l:=k+1) oM))) (zD I (Pc.arr (Pc.here _) zT 2 dC) (r9.le (Le.t (Le.q (l:=k+1) oM))) zO))) zol nP) I I I ?_)))
 rintro ac ad ⟨aa,rfl,D⟩
 refine zP (A:=[]) (ρ:=(tPt (k+1))) D ?_;intro h1 ai C;refine cL (ev1 I) call131 (λw hs=>pR hs C oM (by first|omega|exact(by decide:3<=1000))) λab h2 ah U=>(cL (ev1 I) call48 (λw hs=>uD hs U dC) λG h3 ae O=>?_);obtain rfl:G=vI (yR (uW [a,b,c] 0 1 [a,b,c].length)):=O;have Z:=yX (uW [a,b,c] 0 1 [a,b,c].length);refine go4 ?_;refine zC I I ?_;exact congrArg vI (yAR a b c)
theorem oH{k:Nat}{va:Value}{a:Tq}(ra:(tPt k).Is h0 va a){vb:Value}{b:Tq}(rb:(tPt k).Is h0 vb b){vp:Value}{p:Tq}(rp:(tPt k).Is h0 vp p)(hcd0:k<=10000):
 Calls Tryz.prog 184 #[va,vb,vp] w0 (Ret w0 h0 (λ_ r=>r=vB (onS (pr a 0 1) (pr b 0 1) (pr p 0 1)))):=by
 refine cb3 29 va vb vp func184 hs ?_;refine go2 ?_;refine nB ra λb3 bi Z=>(nB rb λb4 bh U=>(nB rp λb5 ak ad=>(go3 ?_)));refine qZ (ι:=List Value×List Value×Mem) (λ(D,C,m1)=>MLe h0 m1/\((tPt k).R m1 D (loT a b 0 1)/\(tPt k).R m1 C (hiT a b 0 1)/\True)) (λ(D,C,m1)=>[(3,vP b3 0),(4,vP b4 0),(5,vP b5 0)]) (λ(D,C,m1)=>[.var b5 31 ak,.var b4 31 C,.var b3 31 D]) (λ(D,C,m1)=>m1) ?_ ?_
 ·
  refine go2 ?_;refine lX (xB zM pH U) λv7 r7=>(lX (xB zM pH Z) λv8 r8=>(cL (ev2 I I) call200 (λw hs=>pQ hs r7 r8 oM) λv9 h1 ah r9=>?_));obtain rfl:v9=vB (lx (pr b 0 1) (pr a 0 1)):=r9;refine gc2 (λO=>?_) λO=>?_
  ·
   refine go1 ?_;refine lX (xB zM pH U) λbs bf=>(lX (xB zM pH Z) λbr be=>(zW (A:=[_,_]) (uB sizeOf31 pH Z bf) λaj ac=>(zW (A:=[_]) (uB sizeOf31 pH U be) λai ab=>(go1 ?_))));refine zS (aj,ai,h1) ?_ e3z I I;refine⟨ah,?_⟩;refine⟨(Rp.castR ac (if_pos O).symm),(Rp.castR ab (if_pos O).symm),?_⟩
   trivial
  refine go1 ?_;refine zS (bi,bh,h1) ?_ e3z I I;refine⟨ah,?_⟩;refine⟨(Rp.castR Z.up (if_neg O).symm),(Rp.castR U.up (if_neg O).symm),?_⟩
  trivial
 rintro⟨D,C,m1⟩ ⟨bj,aa⟩
 refine yW ?_;obtain⟨H,G,aa⟩:=aa;refine go2 ?_;refine lX (xB zM pH H) λbq bd=>(lX (xB zM pH G) λbp bc=>(lX (xB zM pH ad) λbo bb=>(cL (ev3 I I I) call186 (λw hs=>tR hs bd bc bb oM) λar h1 ah ba=>?_)));obtain rfl:ar=vI (orZ (pr (loT a b 0 1) 0 1) (pr (hiT a b 0 1) 0 1) (pr p 0 1)):=ba;have bg:=tP (pr (loT a b 0 1) 0 1) (pr (hiT a b 0 1) 0 1) (pr p 0 1);refine go1 ?_;refine qB (ι:=Mem) 6 (λm_=>MLe h1 m_) (λ_=>[(22,vB (((orZ (pr (loT a b 0 1) 0 1) (pr (hiT a b 0 1) 0 1) (pr p 0 1))=(0:Int))/\(¬(lx (pr p 0 1) (pr (loT a b 0 1) 0 1))))),(4,vP b4 0),(5,vP b5 0)]) (λ_=>[.var b5 31 ak,.var b4 31 C,.var b3 31 D]) (λm_=>m_) ?_ ?_
 ·
  refine zY ((orZ (pr (loT a b 0 1) 0 1) (pr (hiT a b 0 1) 0 1) (pr p 0 1))=(0:Int)) (λM=>?_) (λM=>?_)
  ·
   refine gT M I (go1 ?_);refine lX (xB zM pH ad) λbn az=>(go1 ?_);refine lX (xB zM pH H) λbm ay=>(go1 ?_);refine cL (ev2 I I) call200 (λw hs=>pQ hs az ay oM) λaq h2 ae ax=>?_;obtain rfl:aq=vB (lx (pr p 0 1) (pr (loT a b 0 1) 0 1)):=ax;refine go4 ?_;refine zS h2 ae ⟨?_,I,I,trivial⟩ I I;exact congrArg some (xD M)
  refine gF M I (go6 ?_);refine zS h1 (MLe.refl _) ⟨?_,I,I,trivial⟩ I I;exact congrArg some (xE M)
 intro J an;refine tY ?_;refine qB (ι:=Mem) 6 (λm_=>MLe J m_) (λ_=>[(28,vB ((((orZ (pr (loT a b 0 1) 0 1) (pr (hiT a b 0 1) 0 1) (pr p 0 1))=(0:Int))/\(¬(lx (pr p 0 1) (pr (loT a b 0 1) 0 1))))/\(¬(lx (pr (hiT a b 0 1) 0 1) (pr p 0 1)))))]) (λ_=>[.var b5 31 ak,.var b4 31 C,.var b3 31 D]) (λm_=>m_) ?_ ?_
 ·
  refine zY (((orZ (pr (loT a b 0 1) 0 1) (pr (hiT a b 0 1) 0 1) (pr p 0 1))=(0:Int))/\(¬(lx (pr p 0 1) (pr (loT a b 0 1) 0 1)))) (λM=>?_) (λM=>?_)
  ·
   refine gT M I (go1 ?_);refine lX (xB zM pH G) λbl aw=>(go1 ?_);refine lX (xB zM pH ad) λbk av=>(go1 ?_);refine cL (ev2 I I) call200 (λw hs=>pQ hs aw av oM) λap h2 ae au=>?_;obtain rfl:ap=vB (lx (pr (hiT a b 0 1) 0 1) (pr p 0 1)):=au;refine go4 ?_;refine zS h2 ae ⟨?_,trivial⟩ I I;exact congrArg some (xD M)
  refine gF M I (go6 ?_);refine zS J (MLe.refl _) ⟨?_,trivial⟩ I I;exact congrArg some (xE M)
 intro ao am;refine tY ?_;refine go4 ?_;refine zC I I ?_
 first|exact kF (by rw[<-yGZ];grind)|exact(xM (by rw[<-yGZ];grind)).symm|exact(yH (by rw[<-yGZ];grind)).symm
theorem zTH{k:Nat}{va:Value}{a:Tq}(ra:(tPt k).Is h0 va a){vb:Value}{b:Tq}(rb:(tPt k).Is h0 vb b){vc:Value}{c:Tq}(rc:(tPt k).Is h0 vc c){vd:Value}{d:Tq}(rd:(tPt k).Is h0 vd d)(hcd0:k<=9000):
 Calls Tryz.prog 201 #[va,vb,vc,vd] w0 (Ret w0 h0 (λ_ r=>r=vI (zDX (pr a 0 1) (pr b 0 1) (pr c 0 1) (pr d 0 1)))):=by
 refine jO (n:=72) (e:=[(0,va),(1,vb),(2,vc),(3,vd)]) (vs:=[va,vb,vc,vd]) func201 rfl rfl (bL rfl) hs e4z (go2 ?_);refine nB ra λb4 ad ax=>(nB rb λb5 ac aw=>(nB rc λb6 ab ap=>(nB rd λb7 aa ao=>(go4 ?_))));refine zK 6 _ [(2,(9,31,[.bool false,.slice none 0 0,.slice none 0 0,.bool false,.slice none 0 0,.slice none 0 0,.bool false,.slice none 0 0,.slice none 0 0])),(3,(10,31,[.bool false,.slice none 0 0,.slice none 0 0,.bool false,.slice none 0 0,.slice none 0 0,.bool false,.slice none 0 0,.slice none 0 0]))] [(0,.q),(1,.q),(2,.a),(3,.a),(4,.c),(5,.c)] yA (jM.cons I I (uR yM I I) (jM.cons I I (uR yM I I) jM.nil)) zou (uU I I (uU I I kU)) (λr hr=>hr) (wX I (xB zM pH ax) λfl eb=>(wX I (xB zM pH aw) λfk ea=>?_));refine w_a I I (λb9=>?_);have cd:(tPt (k+1)).R h0 [.bool false,.slice none 0 0,.slice none 0 0,.bool false,.slice none 0 0,.slice none 0 0,.bool false,.slice none 0 0,.slice none 0 0] zT:=(xO (yI oM));refine w_a I I (λM=>?_);have bj:(tPt (k+1)).R h0 [.bool false,.slice none 0 0,.slice none 0 0,.bool false,.slice none 0 0,.slice none 0 0,.bool false,.slice none 0 0,.slice none 0 0] zT:=(xO (yI oM));refine w_c I (pY (A:=[_]) (uB sizeOf31 pH cd (eb.le (Le.t (Le.q (l:=k+1) oM)))) (xJ zoy) λbf ah=>?_);refine w_c I (pY (A:=[]) (uB sizeOf31 pH bj (ea.le (Le.t (Le.q (l:=k+1) oM)))) (xJ zoy) λav ae=>(go2 ?_));refine qZ (ι:=List Value×Mem) (λ(C,m1)=>MLe h0 m1/\((tPt (k+1)).R m1 C (mxT a c 0 1)/\True)) (λ(C,m1)=>[(4,vP b4 0),(5,vP b5 0),(6,vP b6 0),(7,vP b7 0),(9,vP b9 0),(10,vP M 0)]) (λ(C,m1)=>[.var M 31 av,.var b9 31 C,.var b7 31 aa,.var b6 31 ab,.var b5 31 ac,.var b4 31 ad]) (λ(C,m1)=>m1) ?_ ?_
 ·
  refine go2 ?_;refine lX (xB zM pH ah) λfj dz=>(lX (xB zM pH ap) λfi dy=>(cL (ev2 I I) call200 (λw hs=>pQ hs dz (dy.le (Le.t (Le.q (l:=k+1) oM))) oM) λcc h1 am dx=>?_));obtain rfl:cc=vB (lx (pr a 0 1) (pr c 0 1)):=dx;refine gc2 (λau=>?_) λau=>?_
  ·
   refine go1 ?_;refine lX (xB zM pH ap) λfh dw=>(zW (A:=[_]) (uB sizeOf31 pH ah (dw.le (Le.t (Le.q (l:=k+1) oM)))) λbe az=>(go1 ?_));refine zS (be,h1) ?_ e6z I I;refine⟨am,?_⟩;refine⟨(Rp.castR az (if_pos au).symm),?_⟩
   trivial
  refine go1 ?_;refine zS (bf,h1) ?_ e6z I I;refine⟨am,?_⟩;refine⟨(Rp.castR ah.up (if_neg au).symm),?_⟩
  trivial
 rintro⟨C,m1⟩ ⟨ed,Z⟩
 refine yW ?_;obtain⟨G,Z⟩:=Z;refine qZ (ι:=List Value×Mem) (λ(D,m2)=>MLe m1 m2/\((tPt (k+1)).R m2 D (mnT b d 0 1)/\True)) (λ(D,m2)=>[(4,vP b4 0),(5,vP b5 0),(6,vP b6 0),(7,vP b7 0),(9,vP b9 0),(10,vP M 0)]) (λ(D,m2)=>[.var M 31 D,.var b9 31 C,.var b7 31 aa,.var b6 31 ab,.var b5 31 ac,.var b4 31 ad]) (λ(D,m2)=>m2) ?_ ?_
 ·
  refine go2 ?_;refine lX (xB zM pH ao) λfg dv=>(lX (xB zM pH ae) λff du=>(cL (ev2 I I) call200 (λw hs=>pQ hs (dv.le (Le.t (Le.q (l:=k+1) oM))) du oM) λcb h1 am dt=>?_));obtain rfl:cb=vB (lx (pr d 0 1) (pr b 0 1)):=dt;refine gc2 (λar=>?_) λar=>?_
  ·
   refine go1 ?_;refine lX (xB zM pH ao) λfe dr=>(zW (A:=[]) (uB sizeOf31 pH ae (dr.le (Le.t (Le.q (l:=k+1) oM)))) λbd ay=>(go1 ?_));refine zS (bd,h1) ?_ e6z I I;refine⟨am,?_⟩;refine⟨(Rp.castR ay (if_pos ar).symm),?_⟩
   trivial
  refine go1 ?_;refine zS (av,h1) ?_ e6z I I;refine⟨am,?_⟩;refine⟨(Rp.castR ae.up (if_neg ar).symm),?_⟩
  trivial
 rintro⟨D,m2⟩ ⟨ec,Z⟩
 refine yW ?_;obtain⟨an,Z⟩:=Z;refine go4 ?_;refine lX (xB zM pH an) λfd dq=>(lX (xB zM pH G) λfc dp=>(cL (ev2 I I) call200 (λw hs=>pQ hs dq dp oM) λca h1 am dn=>?_));obtain rfl:ca=vB (lx (pr (mnT b d 0 1) 0 1) (pr (mxT a c 0 1) 0 1)):=dn;refine gc3 (λbo=>?_) λbo=>?_
 ·
  refine go8 ?_;refine zC I I ?_;refine congrArg vI ?_;rw[<-zGM I I];unfold zGN;grind
 refine go2 ?_;refine lX (xB zM pH G) λfb dm=>(lX (xB zM pH an) λfa dl=>(cL (ev2 I I) call174 (λw hs=>jJ hs dm dl oM) λbz h2 fo dk=>?_));obtain rfl:bz=vB ((pr (mxT a c 0 1) 0 1)=(pr (mnT b d 0 1) 0 1)):=dk;refine gc4 (λbn=>?_) λbn=>?_
 ·
  refine go8 ?_;refine zC I I ?_;refine congrArg vI ?_;rw[<-zGM I I];unfold zGN;grind
 refine go2 ?_;refine lX (xB zM pH G) λez dj=>(lX (xB zM pH ax) λey di=>(cL (ev2 I I) call174 (λw hs=>jJ hs dj (di.le (Le.t (Le.q (l:=k+1) oM))) oM) λbx h3 fm dh=>?_));obtain rfl:bx=vB ((pr (mxT a c 0 1) 0 1)=(pr a 0 1)):=dh;refine qB (ι:=Mem) 5 (λJ=>MLe h3 J) (λ_=>[(38,vB (((pr (mxT a c 0 1) 0 1)=(pr a 0 1))\/((pr (mxT a c 0 1) 0 1)=(pr b 0 1)))),(4,vP b4 0),(5,vP b5 0),(6,vP b6 0),(7,vP b7 0),(9,vP b9 0)]) (λ_=>[.var M 31 D,.var b9 31 C,.var b7 31 aa,.var b6 31 ab,.var b5 31 ac,.var b4 31 ad]) (λJ=>J) ?_ ?_
 ·
  refine zY ((pr (mxT a c 0 1) 0 1)=(pr a 0 1)) (λH=>?_) (λH=>?_)
  ·
   refine gT H I (go5 ?_);refine zS h3 (MLe.refl _) ⟨?_,I,I,I,I,I,trivial⟩ I I;exact congrArg some (vD H)
  refine gF H I (go1 ?_);refine lX (xB zM pH G) λew df=>(go1 ?_);refine lX (xB zM pH aw) λev de=>(go1 ?_);refine cL (ev2 I I) call174 (λw hs=>jJ hs df (de.le (Le.t (Le.q (l:=k+1) oM))) oM) λbw h4 U dd=>?_;obtain rfl:bw=vB ((pr (mxT a c 0 1) 0 1)=(pr b 0 1)):=dd;refine go2 ?_;refine zS h4 U ⟨?_,I,I,I,I,I,trivial⟩ I I;exact congrArg some (vG H)
 intro ak bi;refine tY ?_;refine qB (ι:=Mem) 10 (λJ=>MLe ak J) (λ_=>[(48,vB ((((pr (mxT a c 0 1) 0 1)=(pr a 0 1))\/((pr (mxT a c 0 1) 0 1)=(pr b 0 1)))/\(((pr (mxT a c 0 1) 0 1)=(pr c 0 1))\/((pr (mxT a c 0 1) 0 1)=(pr d 0 1))))),(4,vP b4 0),(5,vP b5 0),(6,vP b6 0),(7,vP b7 0),(9,vP b9 0)]) (λ_=>[.var M 31 D,.var b9 31 C,.var b7 31 aa,.var b6 31 ab,.var b5 31 ac,.var b4 31 ad]) (λJ=>J) ?_ ?_
 ·
  refine zY (((pr (mxT a c 0 1) 0 1)=(pr a 0 1))\/((pr (mxT a c 0 1) 0 1)=(pr b 0 1))) (λH=>?_) (λH=>?_)
  ·
   refine gT H I (go1 ?_);refine lX (xB zM pH G) λeu dc=>(go1 ?_);refine lX (xB zM pH ap) λes db=>(go1 ?_);refine cL (ev2 I I) call174 (λw hs=>jJ hs dc (db.le (Le.t (Le.q (l:=k+1) oM))) oM) λbv h4 U da=>?_;obtain rfl:bv=vB ((pr (mxT a c 0 1) 0 1)=(pr c 0 1)):=da;refine qB (ι:=Mem) 5 (λJ=>MLe h4 J) (λ_=>[(47,vB (((pr (mxT a c 0 1) 0 1)=(pr c 0 1))\/((pr (mxT a c 0 1) 0 1)=(pr d 0 1)))),(4,vP b4 0),(5,vP b5 0),(6,vP b6 0),(7,vP b7 0),(9,vP b9 0),(39,.bool true)]) (λ_=>[.var M 31 D,.var b9 31 C,.var b7 31 aa,.var b6 31 ab,.var b5 31 ac,.var b4 31 ad]) (λJ=>J) ?_ ?_
   ·
    refine zY ((pr (mxT a c 0 1) 0 1)=(pr c 0 1)) (λH=>?_) (λH=>?_)
    ·
     refine go1 ?_;refine gT H I (go6 ?_);refine zS h4 (MLe.refl _) ⟨?_,I,I,I,I,I,I,trivial⟩ I I;exact congrArg some (vD H)
    refine go1 ?_;refine gF H I (go1 ?_);refine lX (xB zM pH G) λer cz=>(go1 ?_);refine lX (xB zM pH ao) λeq cy=>(go1 ?_);refine cL (ev2 I I) call174 (λw hs=>jJ hs cz (cy.le (Le.t (Le.q (l:=k+1) oM))) oM) λbu h5 bc cw=>?_;obtain rfl:bu=vB ((pr (mxT a c 0 1) 0 1)=(pr d 0 1)):=cw;refine go3 ?_;refine zS h5 bc ⟨?_,I,I,I,I,I,I,trivial⟩ I I;exact congrArg some (vG H)
   intro aq ai;refine tY ?_;refine go2 ?_;refine zS aq (U.trans ai) ⟨?_,I,I,I,I,I,trivial⟩ I I;exact congrArg some (xD H)
  refine gF H I (uG ?_);refine zS ak (MLe.refl _) ⟨?_,I,I,I,I,I,trivial⟩ I I;exact congrArg some (xE H)
 intro aj bh;refine tY ?_;refine qB (ι:=Mem) 6 (λJ=>MLe aj J) (λ_=>[(54,vB (((((pr (mxT a c 0 1) 0 1)=(pr a 0 1))\/((pr (mxT a c 0 1) 0 1)=(pr b 0 1)))/\(((pr (mxT a c 0 1) 0 1)=(pr c 0 1))\/((pr (mxT a c 0 1) 0 1)=(pr d 0 1))))/\(onS (pr a 0 1) (pr b 0 1) (pr (mxT a c 0 1) 0 1)))),(4,vP b4 0),(5,vP b5 0),(6,vP b6 0),(7,vP b7 0),(9,vP b9 0)]) (λ_=>[.var M 31 D,.var b9 31 C,.var b7 31 aa,.var b6 31 ab,.var b5 31 ac,.var b4 31 ad]) (λJ=>J) ?_ ?_
 ·
  refine zY ((((pr (mxT a c 0 1) 0 1)=(pr a 0 1))\/((pr (mxT a c 0 1) 0 1)=(pr b 0 1)))/\(((pr (mxT a c 0 1) 0 1)=(pr c 0 1))\/((pr (mxT a c 0 1) 0 1)=(pr d 0 1)))) (λH=>?_) (λH=>?_)
  ·
   refine gT H I (go1 ?_);refine lX (xB zM pH ax) λep cv=>(go1 ?_);refine lX (xB zM pH aw) λeo cu=>(go1 ?_);refine lX (xB zM pH G) λen ct=>(go1 ?_);refine cL (ev3 I I I) call184 (λw hs=>oH hs (cv.le (Le.t (Le.q (l:=k+1) oM))) (cu.le (Le.t (Le.q (l:=k+1) oM))) ct oM) λbt h4 U cq=>?_;obtain rfl:bt=vB (onS (pr a 0 1) (pr b 0 1) (pr (mxT a c 0 1) 0 1)):=cq;refine go2 ?_;refine zS h4 U ⟨?_,I,I,I,I,I,trivial⟩ I I;exact congrArg some (xD H)
  refine gF H I (go6 ?_);refine zS aj (MLe.refl _) ⟨?_,I,I,I,I,I,trivial⟩ I I;exact congrArg some (xE H)
 intro O bb;refine tY ?_;refine qB (ι:=Mem) 6 (λJ=>MLe O J) (λ_=>[(60,vB ((((((pr (mxT a c 0 1) 0 1)=(pr a 0 1))\/((pr (mxT a c 0 1) 0 1)=(pr b 0 1)))/\(((pr (mxT a c 0 1) 0 1)=(pr c 0 1))\/((pr (mxT a c 0 1) 0 1)=(pr d 0 1))))/\(onS (pr a 0 1) (pr b 0 1) (pr (mxT a c 0 1) 0 1)))/\(onS (pr c 0 1) (pr d 0 1) (pr (mxT a c 0 1) 0 1)))),(4,vP b4 0),(5,vP b5 0),(6,vP b6 0),(7,vP b7 0),(9,vP b9 0)]) (λ_=>[.var M 31 D,.var b9 31 C,.var b7 31 aa,.var b6 31 ab,.var b5 31 ac,.var b4 31 ad]) (λJ=>J) ?_ ?_
 ·
  refine zY (((((pr (mxT a c 0 1) 0 1)=(pr a 0 1))\/((pr (mxT a c 0 1) 0 1)=(pr b 0 1)))/\(((pr (mxT a c 0 1) 0 1)=(pr c 0 1))\/((pr (mxT a c 0 1) 0 1)=(pr d 0 1))))/\(onS (pr a 0 1) (pr b 0 1) (pr (mxT a c 0 1) 0 1))) (λH=>?_) (λH=>?_)
  ·
   refine gT H I (go1 ?_);refine lX (xB zM pH ap) λem cp=>(go1 ?_);refine lX (xB zM pH ao) λel co=>(go1 ?_);refine lX (xB zM pH G) λek cn=>(go1 ?_);refine cL (ev3 I I I) call184 (λw hs=>oH hs (cp.le (Le.t (Le.q (l:=k+1) oM))) (co.le (Le.t (Le.q (l:=k+1) oM))) cn oM) λbs h4 U cm=>?_;obtain rfl:bs=vB (onS (pr c 0 1) (pr d 0 1) (pr (mxT a c 0 1) 0 1)):=cm;refine go2 ?_;refine zS h4 U ⟨?_,I,I,I,I,I,trivial⟩ I I;exact congrArg some (xD H)
  refine gF H I (go6 ?_);refine zS O (MLe.refl _) ⟨?_,I,I,I,I,I,trivial⟩ I I;exact congrArg some (xE H)
 intro bk ba;refine tY ?_;refine gc3 (λbm=>?_) λbm=>?_
 ·
  refine go8 ?_;refine zC I I ?_;refine congrArg vI ?_;rw[<-zGM I I];unfold zGN;grind
 refine go2 ?_;refine lX (xB zM pH ax) λej cl=>(lX (xB zM pH aw) λei ck=>(lX (xB zM pH G) λeh cj=>(cL (ev3 I I I) call184 (λw hs=>oH hs (cl.le (Le.t (Le.q (l:=k+1) oM))) (ck.le (Le.t (Le.q (l:=k+1) oM))) cj oM) λbr h4 U ci=>?_)));obtain rfl:br=vB (onS (pr a 0 1) (pr b 0 1) (pr (mxT a c 0 1) 0 1)):=ci;refine qB (ι:=Mem) 6 (λJ=>MLe h4 J) (λ_=>[(71,vB ((onS (pr a 0 1) (pr b 0 1) (pr (mxT a c 0 1) 0 1))/\(onS (pr c 0 1) (pr d 0 1) (pr (mxT a c 0 1) 0 1))))]) (λ_=>[.var M 31 D,.var b9 31 C,.var b7 31 aa,.var b6 31 ab,.var b5 31 ac,.var b4 31 ad]) (λJ=>J) ?_ ?_
 ·
  refine zY (onS (pr a 0 1) (pr b 0 1) (pr (mxT a c 0 1) 0 1)) (λH=>?_) (λH=>?_)
  ·
   refine gT H I (go1 ?_);refine lX (xB zM pH ap) λeg ch=>(go1 ?_);refine lX (xB zM pH ao) λef cg=>(go1 ?_);refine lX (xB zM pH G) λee cf=>(go1 ?_);refine cL (ev3 I I I) call184 (λw hs=>oH hs (ch.le (Le.t (Le.q (l:=k+1) oM))) (cg.le (Le.t (Le.q (l:=k+1) oM))) cf oM) λbq h5 bc ce=>?_;obtain rfl:bq=vB (onS (pr c 0 1) (pr d 0 1) (pr (mxT a c 0 1) 0 1)):=ce;refine go2 ?_;refine zS h5 bc ⟨?_,trivial⟩ I I;exact congrArg some (xD H)
  refine gF H I (go6 ?_);refine zS h4 (MLe.refl _) ⟨?_,trivial⟩ I I;exact congrArg some (xE H)
 intro bp bg;refine tY ?_;refine gc3 (λbl=>?_) λbl=>?_
 ·
  refine go8 ?_;refine zC I I ?_;refine congrArg vI ?_;rw[<-zGM I I];unfold zGN;grind
 refine go9 ?_;refine zC I I ?_;refine congrArg vI ?_;rw[<-zGM I I];unfold zGN;grind
theorem zMJ{k:Nat}{va:Value}{a:Tq}(ra:(tPt k).Is h0 va a){vb:Value}{b:Tq}(rb:(tPt k).Is h0 vb b){vc:Value}{c:Tq}(rc:(tPt k).Is h0 vc c){vd:Value}{d:Tq}(rd:(tPt k).Is h0 vd d)(hcd0:k<=10000):
 Calls Tryz.prog 202 #[va,vb,vc,vd] w0 (Ret w0 h0 (λ_ r=>r=vI (dA (pr a 0 1) (pr b 0 1) (pr c 0 1) (pr d 0 1)))):=by
 refine jO (n:=29) (e:=[(0,va),(1,vb),(2,vc),(3,vd)]) (vs:=[va,vb,vc,vd]) func202 rfl rfl (bL rfl) hs e4z (go2 ?_);refine nB ra λb4 ad U=>(nB rb λb5 ac ah=>(nB rc λb6 ab O=>(nB rd λb7 aa ae=>(go6 ?_))));refine lX (xB zM pH U) λv9 r9=>(lX (xB zM pH ah) λbo bd=>(cL (ev2 I I) call174 (λw hs=>jJ hs r9 bd oM) λao h1 bp bc=>?_));obtain rfl:ao=vB ((pr a 0 1)=(pr b 0 1)):=bc;refine qB (ι:=Mem) 6 (λH=>MLe h1 H) (λ_=>[(17,vB (((pr a 0 1)=(pr b 0 1))/\(onS (pr c 0 1) (pr d 0 1) (pr a 0 1)))),(4,vP b4 0),(5,vP b5 0),(6,vP b6 0),(7,vP b7 0)]) (λ_=>[.var b7 31 aa,.var b6 31 ab,.var b5 31 ac,.var b4 31 ad]) (λH=>H) ?_ ?_
 ·
  refine zY ((pr a 0 1)=(pr b 0 1)) (λC=>?_) (λC=>?_)
  ·
   refine gT C I (go1 ?_);refine lX (xB zM pH O) λbn bb=>(go1 ?_);refine lX (xB zM pH ae) λbm ba=>(go1 ?_);refine lX (xB zM pH U) λbl az=>(go1 ?_);refine cL (ev3 I I I) call184 (λw hs=>oH hs bb ba az oM) λan h2 Z ay=>?_;obtain rfl:an=vB (onS (pr c 0 1) (pr d 0 1) (pr a 0 1)):=ay;refine go2 ?_;refine zS h2 Z ⟨?_,I,I,I,I,trivial⟩ I I;exact congrArg some (xD C)
  refine gF C I (go6 ?_);refine zS h1 (MLe.refl _) ⟨?_,I,I,I,I,trivial⟩ I I;exact congrArg some (xE C)
 intro G aj;refine tY ?_;refine qB (ι:=Mem) 11 (λH=>MLe G H) (λ_=>[(28,vB ((((pr a 0 1)=(pr b 0 1))/\(onS (pr c 0 1) (pr d 0 1) (pr a 0 1)))\/(((pr c 0 1)=(pr d 0 1))/\(onS (pr a 0 1) (pr b 0 1) (pr c 0 1)))))]) (λ_=>[.var b7 31 aa,.var b6 31 ab,.var b5 31 ac,.var b4 31 ad]) (λH=>H) ?_ ?_
 ·
  refine zY (((pr a 0 1)=(pr b 0 1))/\(onS (pr c 0 1) (pr d 0 1) (pr a 0 1))) (λC=>?_) (λC=>?_)
  ·
   refine gT C I (qM ?_);refine zS G (MLe.refl _) ⟨?_,trivial⟩ I I;exact congrArg some (vD C)
  refine gF C I (go1 ?_);refine lX (xB zM pH O) λbk ax=>(go1 ?_);refine lX (xB zM pH ae) λbj aw=>(go1 ?_);refine cL (ev2 I I) call174 (λw hs=>jJ hs ax aw oM) λam h2 Z av=>?_;obtain rfl:am=vB ((pr c 0 1)=(pr d 0 1)):=av;refine qB (ι:=Mem) 6 (λH=>MLe h2 H) (λ_=>[(27,vB (((pr c 0 1)=(pr d 0 1))/\(onS (pr a 0 1) (pr b 0 1) (pr c 0 1)))),(18,.bool false)]) (λ_=>[.var b7 31 aa,.var b6 31 ab,.var b5 31 ac,.var b4 31 ad]) (λH=>H) ?_ ?_
  ·
   refine zY ((pr c 0 1)=(pr d 0 1)) (λC=>?_) (λC=>?_)
   ·
    refine go1 ?_;refine gT C I (go1 ?_);refine lX (xB zM pH U) λbi au=>(go1 ?_);refine lX (xB zM pH ah) λbh ar=>(go1 ?_);refine lX (xB zM pH O) λbg aq=>(go1 ?_);refine cL (ev3 I I I) call184 (λw hs=>oH hs au ar aq oM) λak h3 bf ap=>?_;obtain rfl:ak=vB (onS (pr a 0 1) (pr b 0 1) (pr c 0 1)):=ap;refine go3 ?_;refine zS h3 bf ⟨?_,I,trivial⟩ I I;exact congrArg some (xD C)
   refine go1 ?_;refine gF C I (go7 ?_);refine zS h2 (MLe.refl _) ⟨?_,I,trivial⟩ I I;exact congrArg some (xE C)
  intro M D;refine tY ?_;refine go2 ?_;refine zS M (Z.trans D) ⟨?_,trivial⟩ I I;exact congrArg some (vG C)
 intro be ai;refine tY ?_;refine gc2 (λJ=>?_) λJ=>?_
 ·
  refine go7 ?_;refine zC I I ?_;exact congrArg vI (if_pos J).symm
 refine go8 ?_;refine zC I I ?_;exact congrArg vI (if_neg J).symm
theorem zF1{k:Nat}{va:Value}{a:Tq}(ra:(tPt k).Is h0 va a){vb:Value}{b:Tq}(rb:(tPt k).Is h0 vb b){vc:Value}{c:Tq}(rc:(tPt k).Is h0 vc c){vd:Value}{d:Tq}(rd:(tPt k).Is h0 vd d)(hcd0:k<=5000):
 Calls Tryz.prog 175 #[va,vb,vc,vd] w0 (Ret w0 h0 (λ_ r=>r=vI (mX (pr a 0 1) (pr b 0 1) (pr c 0 1) (pr d 0 1)))):=by
 refine jO (n:=117) (e:=[(0,va),(1,vb),(2,vc),(3,vd)]) (vs:=[va,vb,vc,vd]) func175 rfl rfl (bL rfl) hs e4z (go2 ?_);refine nB ra λb4 kb cc=>(nB rb λb5 ka cb=>(nB rc λb6 jz ca=>(nB rd λb7 jy bz=>(go4 ?_))));refine zK 8 _ [] [(0,.q),(2,.q),(4,.q),(6,.q),(1,.c),(3,.c),(5,.c),(7,.c),(8,.t),(9,.t),(10,.t),(11,.t)] yA nX (wJ zou) nX (λr hr=>hr) (wX I (xB zM pH cc) λjq gk=>(wX I (xB zM pH cb) λjo gh=>(wX I (xB zM pH ca) λjm gf=>(wX I (xB zM pH bz) λjk gc=>?_))));refine w_c I (sC (ev1 I) call185 (λw hs=>cX hs gk) λjp h1 jw gj=>?_);refine w_c I (sC (ev1 I) call185 (λw hs=>cX hs gh.up) λjn h2 jv gg=>?_);refine w_c I (sC (ev1 I) call185 (λw hs=>cX hs gf.up) λjl h3 ju ge=>?_);refine w_c I (sC (ev1 I) call185 (λw hs=>cX hs gc.up) λjj h4 jt gb=>?_);have bd:=(Le.t (Le.q (l:=k+1) oM)).R cc;refine yK (A:=[_,_,_]) I (uB sizeOf31 pH bd gj) λbp ad=>?_;have bc:=(Le.t (Le.q (l:=k+1) oM)).R cb;refine yK (A:=[_,_]) I (uB sizeOf31 pH bc gg) λbo ac=>?_;have bb:=(Le.t (Le.q (l:=k+1) oM)).R ca;refine yK (A:=[_]) I (uB sizeOf31 pH bb ge) λaz ab=>?_;have ba:=(Le.t (Le.q (l:=k+1) oM)).R bz;refine yK (A:=[]) I (uB sizeOf31 pH ba gb) λay aa=>(go2 ?_);refine qZ (ι:=List Value×List Value×Mem) (λ(D,C,m1)=>MLe h4 m1/\((tPt (k+1)).R m1 D (loT (zZ a) (zZ b) 0 1)/\(tPt (k+1)).R m1 C (hiT (zZ a) (zZ b) 0 1)/\True)) (λ(D,C,m1)=>[(4,vP b4 0),(5,vP b5 0),(6,vP b6 0),(7,vP b7 0)]) (λ(D,C,m1)=>[.var b7 31 ay,.var b6 31 az,.var b5 31 C,.var b4 31 D]) (λ(D,C,m1)=>m1) ?_ ?_
 ·
  refine go2 ?_;refine lX (xB zM pH ac) λji ga=>(lX (xB zM pH ad) λjh fz=>(cL (ev2 I I) call200 (λw hs=>pQ hs ga fz oM) λdp h5 ap fy=>?_));obtain rfl:dp=vB (lx (pr (zZ b) 0 1) (pr (zZ a) 0 1)):=fy;refine gc2 (λaj=>?_) λaj=>?_
  ·
   refine go1 ?_;refine lX (xB zM pH ac) λjg fx=>(lX (xB zM pH ad) λjf fw=>(zW (A:=[_,_,_]) (uB sizeOf31 pH ad fx) λbn bh=>(zW (A:=[_,_]) (uB sizeOf31 pH ac fw) λbm bg=>(go1 ?_))));refine zS (bn,bm,h5) ?_ e4z I I;refine⟨ap,?_⟩;refine⟨(Rp.castR bh (if_pos aj).symm),(Rp.castR bg (if_pos aj).symm),?_⟩
   trivial
  refine go1 ?_;refine zS (bp,bo,h5) ?_ e4z I I;refine⟨ap,?_⟩;refine⟨(Rp.castR ad.up (if_neg aj).symm),(Rp.castR ac.up (if_neg aj).symm),?_⟩
  trivial
 rintro⟨D,C,m1⟩ ⟨hb,ah⟩
 refine yW ?_;obtain⟨U,O,ah⟩:=ah;refine qZ (ι:=List Value×List Value×Mem) (λ(H,G,m2)=>MLe m1 m2/\((tPt (k+1)).R m2 H (loT (zZ c) (zZ d) 0 1)/\(tPt (k+1)).R m2 G (hiT (zZ c) (zZ d) 0 1)/\True)) (λ(H,G,m2)=>[(4,vP b4 0),(5,vP b5 0),(6,vP b6 0),(7,vP b7 0)]) (λ(H,G,m2)=>[.var b7 31 G,.var b6 31 H,.var b5 31 C,.var b4 31 D]) (λ(H,G,m2)=>m2) ?_ ?_
 ·
  refine go2 ?_;refine lX (xB zM pH aa) λje fv=>(lX (xB zM pH ab) λjd fu=>(cL (ev2 I I) call200 (λw hs=>pQ hs fv fu oM) λdn h5 ap ft=>?_));obtain rfl:dn=vB (lx (pr (zZ d) 0 1) (pr (zZ c) 0 1)):=ft;refine gc2 (λai=>?_) λai=>?_
  ·
   refine go1 ?_;refine lX (xB zM pH aa) λjc fs=>(lX (xB zM pH ab) λjb fr=>(zW (A:=[_]) (uB sizeOf31 pH ab fs) λbl bf=>(zW (A:=[]) (uB sizeOf31 pH aa fr) λbk be=>(go1 ?_))));refine zS (bl,bk,h5) ?_ e4z I I;refine⟨ap,?_⟩;refine⟨(Rp.castR bf (if_pos ai).symm),(Rp.castR be (if_pos ai).symm),?_⟩
   trivial
  refine go1 ?_;refine zS (az,ay,h5) ?_ e4z I I;refine⟨ap,?_⟩;refine⟨(Rp.castR ab.up (if_neg ai).symm),(Rp.castR aa.up (if_neg ai).symm),?_⟩
  trivial
 rintro⟨H,G,m2⟩ ⟨ha,ah⟩
 refine yW ?_;obtain⟨M,J,ah⟩:=ah;refine go3 ?_;refine lX (xB zM pH U) λja fq=>(lX (xB zM pH O) λiz fp=>(lX (xB zM pH M) λiy fo=>(cL (ev3 I I I) call186 (λw hs=>tR hs fq fp fo oM) λdm h5 ap fm=>?_)));obtain rfl:dm=vI (orZ (pr (loT (zZ a) (zZ b) 0 1) 0 1) (pr (hiT (zZ a) (zZ b) 0 1) 0 1) (pr (loT (zZ c) (zZ d) 0 1) 0 1)):=fm;have gr:=tP (pr (loT (zZ a) (zZ b) 0 1) 0 1) (pr (hiT (zZ a) (zZ b) 0 1) 0 1) (pr (loT (zZ c) (zZ d) 0 1) 0 1);refine go1 ?_;refine qB (ι:=Mem) 7 (λm_=>MLe h5 m_) (λ_=>[(40,vB (((orZ (pr (loT (zZ a) (zZ b) 0 1) 0 1) (pr (hiT (zZ a) (zZ b) 0 1) 0 1) (pr (loT (zZ c) (zZ d) 0 1) 0 1))=(0:Int))/\((orZ (pr (loT (zZ a) (zZ b) 0 1) 0 1) (pr (hiT (zZ a) (zZ b) 0 1) 0 1) (pr (hiT (zZ c) (zZ d) 0 1) 0 1))=(0:Int)))),(4,vP b4 0),(5,vP b5 0),(6,vP b6 0),(7,vP b7 0)]) (λ_=>[.var b7 31 G,.var b6 31 H,.var b5 31 C,.var b4 31 D]) (λm_=>m_) ?_ ?_
 ·
  refine zY ((orZ (pr (loT (zZ a) (zZ b) 0 1) 0 1) (pr (hiT (zZ a) (zZ b) 0 1) 0 1) (pr (loT (zZ c) (zZ d) 0 1) 0 1))=(0:Int)) (λZ=>?_) (λZ=>?_)
  ·
   refine gT Z I (go1 ?_);refine lX (xB zM pH U) λix fl=>(go1 ?_);refine lX (xB zM pH O) λiw fk=>(go1 ?_);refine lX (xB zM pH J) λiv fj=>(go1 ?_);refine cL (ev3 I I I) call186 (λw hs=>tR hs fl fk fj oM) λdl h6 ak fi=>?_;obtain rfl:dl=vI (orZ (pr (loT (zZ a) (zZ b) 0 1) 0 1) (pr (hiT (zZ a) (zZ b) 0 1) 0 1) (pr (hiT (zZ c) (zZ d) 0 1) 0 1)):=fi;have gq:=tP (pr (loT (zZ a) (zZ b) 0 1) 0 1) (pr (hiT (zZ a) (zZ b) 0 1) 0 1) (pr (hiT (zZ c) (zZ d) 0 1) 0 1);refine go4 ?_;refine zS h6 ak ⟨?_,I,I,I,I,trivial⟩ I I;exact congrArg some (xD Z)
  refine gF Z I (go7 ?_);refine zS h5 (MLe.refl _) ⟨?_,I,I,I,I,trivial⟩ I I;exact congrArg some (xE Z)
 intro aq cq;refine tY ?_;refine qB (ι:=Mem) 7 (λm_=>MLe aq m_) (λ_=>[(47,vB ((((orZ (pr (loT (zZ a) (zZ b) 0 1) 0 1) (pr (hiT (zZ a) (zZ b) 0 1) 0 1) (pr (loT (zZ c) (zZ d) 0 1) 0 1))=(0:Int))/\((orZ (pr (loT (zZ a) (zZ b) 0 1) 0 1) (pr (hiT (zZ a) (zZ b) 0 1) 0 1) (pr (hiT (zZ c) (zZ d) 0 1) 0 1))=(0:Int)))/\((orZ (pr (loT (zZ c) (zZ d) 0 1) 0 1) (pr (hiT (zZ c) (zZ d) 0 1) 0 1) (pr (loT (zZ a) (zZ b) 0 1) 0 1))=(0:Int)))),(4,vP b4 0),(5,vP b5 0),(6,vP b6 0),(7,vP b7 0)]) (λ_=>[.var b7 31 G,.var b6 31 H,.var b5 31 C,.var b4 31 D]) (λm_=>m_) ?_ ?_
 ·
  refine zY (((orZ (pr (loT (zZ a) (zZ b) 0 1) 0 1) (pr (hiT (zZ a) (zZ b) 0 1) 0 1) (pr (loT (zZ c) (zZ d) 0 1) 0 1))=(0:Int))/\((orZ (pr (loT (zZ a) (zZ b) 0 1) 0 1) (pr (hiT (zZ a) (zZ b) 0 1) 0 1) (pr (hiT (zZ c) (zZ d) 0 1) 0 1))=(0:Int))) (λZ=>?_) (λZ=>?_)
  ·
   refine gT Z I (go1 ?_);refine lX (xB zM pH M) λiu fh=>(go1 ?_);refine lX (xB zM pH J) λir fg=>(go1 ?_);refine lX (xB zM pH U) λiq ff=>(go1 ?_);refine cL (ev3 I I I) call186 (λw hs=>tR hs fh fg ff oM) λdk h6 ak fe=>?_;obtain rfl:dk=vI (orZ (pr (loT (zZ c) (zZ d) 0 1) 0 1) (pr (hiT (zZ c) (zZ d) 0 1) 0 1) (pr (loT (zZ a) (zZ b) 0 1) 0 1)):=fe;have go:=tP (pr (loT (zZ c) (zZ d) 0 1) 0 1) (pr (hiT (zZ c) (zZ d) 0 1) 0 1) (pr (loT (zZ a) (zZ b) 0 1) 0 1);refine go4 ?_;refine zS h6 ak ⟨?_,I,I,I,I,trivial⟩ I I;exact congrArg some (xD Z)
  refine gF Z I (go7 ?_);refine zS aq (MLe.refl _) ⟨?_,I,I,I,I,trivial⟩ I I;exact congrArg some (xE Z)
 intro am br;refine tY ?_;refine qB (ι:=Mem) 7 (λm_=>MLe am m_) (λ_=>[(54,vB (((((orZ (pr (loT (zZ a) (zZ b) 0 1) 0 1) (pr (hiT (zZ a) (zZ b) 0 1) 0 1) (pr (loT (zZ c) (zZ d) 0 1) 0 1))=(0:Int))/\((orZ (pr (loT (zZ a) (zZ b) 0 1) 0 1) (pr (hiT (zZ a) (zZ b) 0 1) 0 1) (pr (hiT (zZ c) (zZ d) 0 1) 0 1))=(0:Int)))/\((orZ (pr (loT (zZ c) (zZ d) 0 1) 0 1) (pr (hiT (zZ c) (zZ d) 0 1) 0 1) (pr (loT (zZ a) (zZ b) 0 1) 0 1))=(0:Int)))/\((orZ (pr (loT (zZ c) (zZ d) 0 1) 0 1) (pr (hiT (zZ c) (zZ d) 0 1) 0 1) (pr (hiT (zZ a) (zZ b) 0 1) 0 1))=(0:Int)))),(4,vP b4 0),(5,vP b5 0),(6,vP b6 0),(7,vP b7 0)]) (λ_=>[.var b7 31 G,.var b6 31 H,.var b5 31 C,.var b4 31 D]) (λm_=>m_) ?_ ?_
 ·
  refine zY ((((orZ (pr (loT (zZ a) (zZ b) 0 1) 0 1) (pr (hiT (zZ a) (zZ b) 0 1) 0 1) (pr (loT (zZ c) (zZ d) 0 1) 0 1))=(0:Int))/\((orZ (pr (loT (zZ a) (zZ b) 0 1) 0 1) (pr (hiT (zZ a) (zZ b) 0 1) 0 1) (pr (hiT (zZ c) (zZ d) 0 1) 0 1))=(0:Int)))/\((orZ (pr (loT (zZ c) (zZ d) 0 1) 0 1) (pr (hiT (zZ c) (zZ d) 0 1) 0 1) (pr (loT (zZ a) (zZ b) 0 1) 0 1))=(0:Int))) (λZ=>?_) (λZ=>?_)
  ·
   refine gT Z I (go1 ?_);refine lX (xB zM pH M) λip fd=>(go1 ?_);refine lX (xB zM pH J) λio fc=>(go1 ?_);refine lX (xB zM pH O) λim fb=>(go1 ?_);refine cL (ev3 I I I) call186 (λw hs=>tR hs fd fc fb oM) λdj h6 ak fa=>?_;obtain rfl:dj=vI (orZ (pr (loT (zZ c) (zZ d) 0 1) 0 1) (pr (hiT (zZ c) (zZ d) 0 1) 0 1) (pr (hiT (zZ a) (zZ b) 0 1) 0 1)):=fa;have gn:=tP (pr (loT (zZ c) (zZ d) 0 1) 0 1) (pr (hiT (zZ c) (zZ d) 0 1) 0 1) (pr (hiT (zZ a) (zZ b) 0 1) 0 1);refine go4 ?_;refine zS h6 ak ⟨?_,I,I,I,I,trivial⟩ I I;exact congrArg some (xD Z)
  refine gF Z I (go7 ?_);refine zS am (MLe.refl _) ⟨?_,I,I,I,I,trivial⟩ I I;exact congrArg some (xE Z)
 intro cz bq;refine tY ?_;refine gc2 (λcw=>?_) λcw=>?_
 ·
  refine go2 ?_;refine lX (xB zM pH U) λil ez=>(lX (xB zM pH O) λik ey=>(lX (xB zM pH M) λij ew=>(lX (xB zM pH J) λii ev=>(cL (ev4 I I I I) call201 (λw hs=>zTH hs ez ey ew ev oM) λdi h6 ak eu=>?_))));obtain rfl:di=vI (zDX (pr (loT (zZ a) (zZ b) 0 1) 0 1) (pr (hiT (zZ a) (zZ b) 0 1) 0 1) (pr (loT (zZ c) (zZ d) 0 1) 0 1) (pr (hiT (zZ c) (zZ d) 0 1) 0 1)):=eu;refine go5 ?_;refine zC I I ?_;refine congrArg vI ?_;rw[<-zAR I I I I];unfold j6;grind
 refine go5 ?_;refine lX (xB zM pH U) λih es=>(lX (xB zM pH O) λig er=>(cL (ev2 I I) call174 (λw hs=>jJ hs es er oM) λdh h6 ak eq=>?_));obtain rfl:dh=vB ((pr (loT (zZ a) (zZ b) 0 1) 0 1)=(pr (hiT (zZ a) (zZ b) 0 1) 0 1)):=eq;refine qB (ι:=Mem) 5 (λm_=>MLe h6 m_) (λ_=>[(67,vB (((pr (loT (zZ a) (zZ b) 0 1) 0 1)=(pr (hiT (zZ a) (zZ b) 0 1) 0 1))\/((pr (loT (zZ c) (zZ d) 0 1) 0 1)=(pr (hiT (zZ c) (zZ d) 0 1) 0 1)))),(4,vP b4 0),(5,vP b5 0),(6,vP b6 0),(7,vP b7 0)]) (λ_=>[.var b7 31 G,.var b6 31 H,.var b5 31 C,.var b4 31 D]) (λm_=>m_) ?_ ?_
 ·
  refine zY ((pr (loT (zZ a) (zZ b) 0 1) 0 1)=(pr (hiT (zZ a) (zZ b) 0 1) 0 1)) (λZ=>?_) (λZ=>?_)
  ·
   refine gT Z I (go5 ?_);refine zS h6 (MLe.refl _) ⟨?_,I,I,I,I,trivial⟩ I I;exact congrArg some (vD Z)
  refine gF Z I (go1 ?_);refine lX (xB zM pH M) λie ep=>(go1 ?_);refine lX (xB zM pH J) λid eo=>(go1 ?_);refine cL (ev2 I I) call174 (λw hs=>jJ hs ep eo oM) λdf h7 bj en=>?_;obtain rfl:df=vB ((pr (loT (zZ c) (zZ d) 0 1) 0 1)=(pr (hiT (zZ c) (zZ d) 0 1) 0 1)):=en;refine go2 ?_;refine zS h7 bj ⟨?_,I,I,I,I,trivial⟩ I I;exact congrArg some (vG Z)
 intro gm cp;refine tY ?_;refine gc2 (λcv=>?_) λcv=>?_
 ·
  refine go2 ?_;refine lX (xB zM pH U) λic em=>(lX (xB zM pH O) λib el=>(lX (xB zM pH M) λia ek=>(lX (xB zM pH J) λhw ej=>(cL (ev4 I I I I) call202 (λw hs=>zMJ hs em el ek ej oM) λde h7 bj ei=>?_))));obtain rfl:de=vI (dA (pr (loT (zZ a) (zZ b) 0 1) 0 1) (pr (hiT (zZ a) (zZ b) 0 1) 0 1) (pr (loT (zZ c) (zZ d) 0 1) 0 1) (pr (hiT (zZ c) (zZ d) 0 1) 0 1)):=ei;refine go5 ?_;refine zC I I ?_;refine congrArg vI ?_;rw[<-zAR I I I I];unfold j6;grind
 refine go3 ?_;refine zK 20 _ [] [(0,.q),(1,.q),(2,.q),(4,.q),(5,.q),(6,.q),(9,.q),(10,.q),(11,.q),(13,.q),(14,.q),(15,.q),(3,.c),(7,.c),(8,.q),(12,.c),(16,.c),(17,.q),(18,.q),(19,.q)] yA nX (wJ zou) nX (λr hr=>hr) (wX I (xB zM pH U) λhv eh=>(wX I (xB zM pH O) λhu eg=>(wX I (xB zM pH M) λht ef=>(wX I (xB zM pH U) λhq ed=>(wX I (xB zM pH O) λhp ec=>(wX I (xB zM pH J) λho eb=>(wX I (xB zM pH M) λhn dz=>(wX I (xB zM pH J) λhm dy=>(wX I (xB zM pH U) λhl dx=>(wX I (xB zM pH M) λhk dv=>(wX I (xB zM pH J) λhj du=>(wX I (xB zM pH O) λhf dt=>?_))))))))))));refine w_c I (sC (ev3 I I I) call186 (λw hs=>tR hs eh eg ef oM) λdd h7 bj ee=>?_);obtain rfl:dd=vI (orZ (pr (loT (zZ a) (zZ b) 0 1) 0 1) (pr (hiT (zZ a) (zZ b) 0 1) 0 1) (pr (loT (zZ c) (zZ d) 0 1) 0 1)):=ee;have aw:=tP (pr (loT (zZ a) (zZ b) 0 1) 0 1) (pr (hiT (zZ a) (zZ b) 0 1) 0 1) (pr (loT (zZ c) (zZ d) 0 1) 0 1);refine w_c I (sC (ev3 I I I) call186 (λw hs=>tR hs ed.up ec.up eb.up oM) λdc h8 js ea=>?_);obtain rfl:dc=vI (orZ (pr (loT (zZ a) (zZ b) 0 1) 0 1) (pr (hiT (zZ a) (zZ b) 0 1) 0 1) (pr (hiT (zZ c) (zZ d) 0 1) 0 1)):=ea;have av:=tP (pr (loT (zZ a) (zZ b) 0 1) 0 1) (pr (hiT (zZ a) (zZ b) 0 1) 0 1) (pr (hiT (zZ c) (zZ d) 0 1) 0 1);refine wI I (λ_ _=>gP I I (by have:=dR aw av;omega) (by have:=dR aw av;omega)) I ?_;refine w_c I (sC (ev3 I I I) call186 (λw hs=>tR hs dz.up dy.up dx.up oM) λdb h9 jr dw=>?_);obtain rfl:db=vI (orZ (pr (loT (zZ c) (zZ d) 0 1) 0 1) (pr (hiT (zZ c) (zZ d) 0 1) 0 1) (pr (loT (zZ a) (zZ b) 0 1) 0 1)):=dw;have au:=tP (pr (loT (zZ c) (zZ d) 0 1) 0 1) (pr (hiT (zZ c) (zZ d) 0 1) 0 1) (pr (loT (zZ a) (zZ b) 0 1) 0 1);refine w_c I (sC (ev3 I I I) call186 (λw hs=>tR hs dv.up du.up dt.up oM) λda jx hd dr=>?_);obtain rfl:da=vI (orZ (pr (loT (zZ c) (zZ d) 0 1) 0 1) (pr (hiT (zZ c) (zZ d) 0 1) 0 1) (pr (hiT (zZ a) (zZ b) 0 1) 0 1)):=dr;have ar:=tP (pr (loT (zZ c) (zZ d) 0 1) 0 1) (pr (hiT (zZ c) (zZ d) 0 1) 0 1) (pr (hiT (zZ a) (zZ b) 0 1) 0 1);refine wI I (λ_ _=>gP I I (by have:=dR au ar;omega) (by have:=dR au ar;omega)) I (uG ?_);refine gU 4 97 (vB (((0:Int)<((orZ (pr (loT (zZ a) (zZ b) 0 1) 0 1) (pr (hiT (zZ a) (zZ b) 0 1) 0 1) (pr (loT (zZ c) (zZ d) 0 1) 0 1))*(orZ (pr (loT (zZ a) (zZ b) 0 1) 0 1) (pr (hiT (zZ a) (zZ b) 0 1) 0 1) (pr (hiT (zZ c) (zZ d) 0 1) 0 1))))\/((0:Int)<((orZ (pr (loT (zZ c) (zZ d) 0 1) 0 1) (pr (hiT (zZ c) (zZ d) 0 1) 0 1) (pr (loT (zZ a) (zZ b) 0 1) 0 1))*(orZ (pr (loT (zZ c) (zZ d) 0 1) 0 1) (pr (hiT (zZ c) (zZ d) 0 1) 0 1) (pr (hiT (zZ a) (zZ b) 0 1) 0 1)))))) ?_ ?_
 ·
  refine zY ((0:Int)<((orZ (pr (loT (zZ a) (zZ b) 0 1) 0 1) (pr (hiT (zZ a) (zZ b) 0 1) 0 1) (pr (loT (zZ c) (zZ d) 0 1) 0 1))*(orZ (pr (loT (zZ a) (zZ b) 0 1) 0 1) (pr (hiT (zZ a) (zZ b) 0 1) 0 1) (pr (hiT (zZ c) (zZ d) 0 1) 0 1)))) (λZ=>?_) (λZ=>?_)
  ·
   refine gT Z I (go4 ?_);refine gqU ?_;exact congrArg some (vD Z)
  refine gF Z I (go6 ?_);refine gqU ?_;exact congrArg some (vG Z)
 refine gc3 (λcu=>?_) λcu=>?_
 ·
  refine go8 ?_;refine zC I I ?_;refine congrArg vI ?_;rw[<-zAR I I I I];unfold j6;grind
 refine go2 ?_;refine lX (xB zM pH U) λhe dq=>(lX (xB zM pH M) λgz cn=>(cL (ev2 I I) call174 (λw hs=>jJ hs dq cn oM) λbx cy hc cm=>?_));obtain rfl:bx=vB ((pr (loT (zZ a) (zZ b) 0 1) 0 1)=(pr (loT (zZ c) (zZ d) 0 1) 0 1)):=cm;refine qB (ι:=Mem) 5 (λm_=>MLe cy m_) (λ_=>[(106,vB (((pr (loT (zZ a) (zZ b) 0 1) 0 1)=(pr (loT (zZ c) (zZ d) 0 1) 0 1))\/((pr (loT (zZ a) (zZ b) 0 1) 0 1)=(pr (hiT (zZ c) (zZ d) 0 1) 0 1)))),(5,vP b5 0),(6,vP b6 0),(7,vP b7 0)]) (λ_=>[.var b7 31 G,.var b6 31 H,.var b5 31 C,.var b4 31 D]) (λm_=>m_) ?_ ?_
 ·
  refine zY ((pr (loT (zZ a) (zZ b) 0 1) 0 1)=(pr (loT (zZ c) (zZ d) 0 1) 0 1)) (λZ=>?_) (λZ=>?_)
  ·
   refine gT Z I (go5 ?_);refine zS cy (MLe.refl _) ⟨?_,I,I,I,trivial⟩ I I;exact congrArg some (vD Z)
  refine gF Z I (go1 ?_);refine lX (xB zM pH U) λgy cl=>(go1 ?_);refine lX (xB zM pH J) λgx ck=>(go1 ?_);refine cL (ev2 I I) call174 (λw hs=>jJ hs cl ck oM) λbw ax ae cj=>?_;obtain rfl:bw=vB ((pr (loT (zZ a) (zZ b) 0 1) 0 1)=(pr (hiT (zZ c) (zZ d) 0 1) 0 1)):=cj;refine go2 ?_;refine zS ax ae ⟨?_,I,I,I,trivial⟩ I I;exact congrArg some (vG Z)
 intro ao bt;refine tY ?_;refine qB (ι:=Mem) 5 (λm_=>MLe ao m_) (λ_=>[(111,vB ((((pr (loT (zZ a) (zZ b) 0 1) 0 1)=(pr (loT (zZ c) (zZ d) 0 1) 0 1))\/((pr (loT (zZ a) (zZ b) 0 1) 0 1)=(pr (hiT (zZ c) (zZ d) 0 1) 0 1)))\/((pr (hiT (zZ a) (zZ b) 0 1) 0 1)=(pr (loT (zZ c) (zZ d) 0 1) 0 1)))),(5,vP b5 0),(7,vP b7 0)]) (λ_=>[.var b7 31 G,.var b6 31 H,.var b5 31 C,.var b4 31 D]) (λm_=>m_) ?_ ?_
 ·
  refine zY (((pr (loT (zZ a) (zZ b) 0 1) 0 1)=(pr (loT (zZ c) (zZ d) 0 1) 0 1))\/((pr (loT (zZ a) (zZ b) 0 1) 0 1)=(pr (hiT (zZ c) (zZ d) 0 1) 0 1))) (λZ=>?_) (λZ=>?_)
  ·
   refine gT Z I (go5 ?_);refine zS ao (MLe.refl _) ⟨?_,I,I,trivial⟩ I I;exact congrArg some (vD Z)
  refine gF Z I (go1 ?_);refine lX (xB zM pH O) λgw ci=>(go1 ?_);refine lX (xB zM pH M) λgu ch=>(go1 ?_);refine cL (ev2 I I) call174 (λw hs=>jJ hs ci ch oM) λbv ax ae cg=>?_;obtain rfl:bv=vB ((pr (hiT (zZ a) (zZ b) 0 1) 0 1)=(pr (loT (zZ c) (zZ d) 0 1) 0 1)):=cg;refine go2 ?_;refine zS ax ae ⟨?_,I,I,trivial⟩ I I;exact congrArg some (vG Z)
 intro an bs;refine tY ?_;refine qB (ι:=Mem) 5 (λm_=>MLe an m_) (λ_=>[(116,vB (((((pr (loT (zZ a) (zZ b) 0 1) 0 1)=(pr (loT (zZ c) (zZ d) 0 1) 0 1))\/((pr (loT (zZ a) (zZ b) 0 1) 0 1)=(pr (hiT (zZ c) (zZ d) 0 1) 0 1)))\/((pr (hiT (zZ a) (zZ b) 0 1) 0 1)=(pr (loT (zZ c) (zZ d) 0 1) 0 1)))\/((pr (hiT (zZ a) (zZ b) 0 1) 0 1)=(pr (hiT (zZ c) (zZ d) 0 1) 0 1))))]) (λ_=>[.var b7 31 G,.var b6 31 H,.var b5 31 C,.var b4 31 D]) (λm_=>m_) ?_ ?_
 ·
  refine zY ((((pr (loT (zZ a) (zZ b) 0 1) 0 1)=(pr (loT (zZ c) (zZ d) 0 1) 0 1))\/((pr (loT (zZ a) (zZ b) 0 1) 0 1)=(pr (hiT (zZ c) (zZ d) 0 1) 0 1)))\/((pr (hiT (zZ a) (zZ b) 0 1) 0 1)=(pr (loT (zZ c) (zZ d) 0 1) 0 1))) (λZ=>?_) (λZ=>?_)
  ·
   refine gT Z I (go5 ?_);refine zS an (MLe.refl _) ⟨?_,trivial⟩ I I;exact congrArg some (vD Z)
  refine gF Z I (go1 ?_);refine lX (xB zM pH O) λgt cf=>(go1 ?_);refine lX (xB zM pH J) λgs ce=>(go1 ?_);refine cL (ev2 I I) call174 (λw hs=>jJ hs cf ce oM) λbu ax ae cd=>?_;obtain rfl:bu=vB ((pr (hiT (zZ a) (zZ b) 0 1) 0 1)=(pr (hiT (zZ c) (zZ d) 0 1) 0 1)):=cd;refine go2 ?_;refine zS ax ae ⟨?_,trivial⟩ I I;exact congrArg some (vG Z)
 intro co bi;refine tY ?_;refine gc3 (λct=>?_) λct=>?_
 ·
  refine go8 ?_;refine zC I I ?_;refine congrArg vI ?_;rw[<-zAR I I I I];unfold j6;grind
 refine go9 ?_;refine zC I I ?_;refine congrArg vI ?_;rw[<-zAR I I I I];unfold j6;grind
theorem zDQ{k:Nat}{vl:Value}{l:(List Tq)}(rl:(tLs k).Is h0 vl l){vp:Value}{p:Tq}(rp:(tPt k).Is h0 vp p)(hcd0:k<=9900)(hcd1:l.length<=1000):
 Calls Tryz.prog 150 #[vl,vp] w0 (Ret w0 h0 (λ_ r=>r=vI (fG l (pr p 0 1) 0 1))):=by
 refine cb2 66 vl vp func150 hs ?_;refine go2 ?_;refine nB rp λb3 ae ac=>(rA ?_);refine gcL (ι:=Nat×Mem) (λ(m,ma)=>(MLe h0 ma/\(m<=l.length/\∀q,q<m->¬onS (vV l 0 1 q) (vS l 0 1 q) (pr p 0 1)),[(0,vl),(3,vP b3 0),(5,vB (kC l (pr p 0 1) 0 1 m)),(6,vI ↑m)],[.var b3 31 ae],ma,l.length-m)) (0,h0) ?_ ?_ (he:=⟨I,I,congrArg some (yH id).symm,I,trivial⟩)
 · exact⟨mle,by omega,λq hq=>by omega⟩
 rintro⟨m,ma⟩ ⟨cm,aw,ad⟩
 refine yW ?_;refine gc9 (λax=>?_) λax=>?_
 ·
  refine go5 ?_;refine zK 16 _ [(12,(7,31,[.bool false,.slice none 0 0,.slice none 0 0,.bool false,.slice none 0 0,.slice none 0 0,.bool false,.slice none 0 0,.slice none 0 0])),(13,(8,31,[.bool false,.slice none 0 0,.slice none 0 0,.bool false,.slice none 0 0,.slice none 0 0,.bool false,.slice none 0 0,.slice none 0 0]))] [(0,.q),(1,.q),(2,.q),(3,.q),(4,.q),(5,.q),(6,.q),(7,.q),(8,.q),(9,.q),(10,.q),(11,.q),(12,.a),(13,.a),(14,.c),(15,.c)] yA (jM.cons I I (uR yM I I) (jM.cons I I (uR yM I I) jM.nil)) (wJ zou) (uU I I (uU I I kU)) (λr hr=>hr) (go2 ?_);refine wX I (xI zT m underlying35 zM rl) λdl cg=>(wX I (xA zM cg) λdk cf=>(go4 ?_));refine w_q I (λh' L' hh hR=>uY underlying35 I (rl.up.mono hh)) I (wI I (λ_ _=>wC I I oM oM) I (wX I (xI zT ((m+1)%l.length) underlying35 zM rl (hi:=by exact Nat.mod_lt _ oM)) λdj ce=>(wX I (xA zM ce) λdi cd=>?_)));refine w_a I I (λb7=>?_);have bh:(tPt (k+1)).R ma [.bool false,.slice none 0 0,.slice none 0 0,.bool false,.slice none 0 0,.slice none 0 0,.bool false,.slice none 0 0,.slice none 0 0] zT:=(xO (yI oM));refine w_a I I (λb8=>?_);have bg:(tPt (k+1)).R ma [.bool false,.slice none 0 0,.slice none 0 0,.bool false,.slice none 0 0,.slice none 0 0,.bool false,.slice none 0 0,.slice none 0 0] zT:=(xO (yI oM));refine w_c I (pY (A:=[_]) (uB sizeOf31 pH bh (cf.le (Le.t (Le.q (l:=k+1) oM)))) (xJ zoy) λba H=>?_);refine w_c I (pY (A:=[]) (uB sizeOf31 pH bg (cd.le (Le.t (Le.q (l:=k+1) oM)))) (xJ zoy) λaz G=>(go4 ?_));refine zK 7 _ [] [(0,.q),(2,.q),(4,.q),(1,.c),(3,.c),(5,.c),(6,.c)] yA nX zou nX (λr hr=>hr) (wX I (xB zM pH H) λdh cc=>(wX I (xB zM pH G) λde cb=>(wX I (xB zM pH ac) λdc ca=>?_)));refine w_c I (sC (ev1 I) call185 (λw hs=>cX hs cc) λdf h1 dq ao=>?_);replace ao:=Rp.Is.le ao (Le.t (Le.q (l:=k+2) oM));refine w_c I (sC (ev1 I) call185 (λw hs=>cX hs cb.up) λdd h2 dp an=>?_);replace an:=Rp.Is.le an (Le.t (Le.q (l:=k+2) oM));refine w_c I (sC (ev1 I) call185 (λw hs=>cX hs ca.up) λdb h3 dn bz=>?_);refine w_c I (sC (ev3 I I I) call184 (λw hs=>oH hs ao.up an.up (bz.le (Le.t (Le.q (l:=k+2) oM))) oM) λbf h4 dm bx=>?_);obtain rfl:bf=vB (onS (pr (T3.mk ((l.getD m zT).x) ((l.getD m zT).y) (0:Rat)) 0 1) (pr (T3.mk ((l.getD ((m+1)%l.length) zT).x) ((l.getD ((m+1)%l.length) zT).y) (0:Rat)) 0 1) (pr (zZ p) 0 1)):=bx;refine gc2 (λU=>?_) λU=>?_
  ·
   refine uV ?_;refine zC I I ?_;exact congrArg vI (zYC oM U)
  refine go2 ?_;refine qZ (ι:=List Value×List Value×Mem) (λ(D,C,mc)=>MLe h4 mc/\((tPt (k+1)).R mc D (zCB (l.getD m zT) (l.getD ((m+1)%l.length) zT))/\(tPt (k+1)).R mc C (zD3 (l.getD m zT) (l.getD ((m+1)%l.length) zT))/\True)) (λ(D,C,mc)=>[(0,vl),(3,vP b3 0),(5,vB (kC l (pr p 0 1) 0 1 m)),(6,vI ↑m),(7,vP b7 0),(8,vP b8 0)]) (λ(D,C,mc)=>[.var b8 31 C,.var b7 31 D,.var b3 31 ae]) (λ(D,C,mc)=>mc) ?_ ?_
  ·
   refine go3 ?_;refine lX (xB yE (Pc.ty pH) H) λda bw=>(go1 ?_);refine lX (xB yE (Pc.ty pH) G) λcz bv=>(cL (ev2 I I) call17 (λw hs=>tG hs bw bv oM) λbe h5 ar bu=>?_);obtain rfl:be=vI (xT ((l.getD m zT).y) ((l.getD ((m+1)%l.length) zT).y)):=bu;have ck:=jA ((l.getD m zT).y) ((l.getD ((m+1)%l.length) zT).y);refine gc3 (λM=>?_) λM=>?_
   ·
    refine go1 ?_;refine lX (xB zM pH G) λcy bt=>(lX (xB zM pH H) λcw bs=>(zW (A:=[_]) (uB sizeOf31 pH H bt) λay am=>(zW (A:=[]) (uB sizeOf31 pH G bs) λau ak=>(go1 ?_))));refine zS (ay,au,h5) ?_ e6z I I;refine⟨ar,?_⟩;refine⟨(Rp.castR am (if_pos M).symm),(Rp.castR ak (if_pos M).symm),?_⟩
    trivial
   refine go1 ?_;refine zS (ba,az,h5) ?_ e6z I I;refine⟨ar,?_⟩;refine⟨(Rp.castR H.up (if_neg M).symm),(Rp.castR G.up (if_neg M).symm),?_⟩
   trivial
  rintro⟨D,C,mc⟩ ⟨cl,aj⟩
  refine yW ?_;obtain⟨ai,ah,aj⟩:=aj;refine go3 ?_;refine lX (xB yE (Pc.ty pH) ai) λcv br=>(go1 ?_);refine lX (xB yE (Pc.ty pH) ac) λcu bq=>(cL (ev2 I I) call17 (λw hs=>tG hs br bq oM) λbd h5 ar bp=>?_);obtain rfl:bd=vI (xT ((zCB (l.getD m zT) (l.getD ((m+1)%l.length) zT)).y) p.y):=bp;have cj:=jA ((zCB (l.getD m zT) (l.getD ((m+1)%l.length) zT)).y) p.y;refine go1 ?_;refine qB (ι:=Mem) 8 (λm_=>MLe h5 m_) (λ_=>[(55,vB (((xT ((zCB (l.getD m zT) (l.getD ((m+1)%l.length) zT)).y) p.y)<=(0:Int))/\((xT p.y ((zD3 (l.getD m zT) (l.getD ((m+1)%l.length) zT)).y))<(0:Int)))),(0,vl),(3,vP b3 0),(5,vB (kC l (pr p 0 1) 0 1 m)),(6,vI ↑m),(7,vP b7 0),(8,vP b8 0)]) (λ_=>[.var b8 31 C,.var b7 31 D,.var b3 31 ae]) (λm_=>m_) ?_ ?_
  ·
   refine zY ((xT ((zCB (l.getD m zT) (l.getD ((m+1)%l.length) zT)).y) p.y)<=(0:Int)) (λZ=>?_) (λZ=>?_)
   ·
    refine gT Z I (go3 ?_);refine lX (xB yE (Pc.ty pH) ac) λct bo=>(go3 ?_);refine lX (xB yE (Pc.ty pH) ah) λcq bn=>(go1 ?_);refine cL (ev2 I I) call17 (λw hs=>tG hs bo bn oM) λbc h6 aq bm=>?_;obtain rfl:bc=vI (xT p.y ((zD3 (l.getD m zT) (l.getD ((m+1)%l.length) zT)).y)):=bm;have ci:=jA p.y ((zD3 (l.getD m zT) (l.getD ((m+1)%l.length) zT)).y);refine go4 ?_;refine zS h6 aq ⟨?_,I,I,I,I,I,I,trivial⟩ I I;exact congrArg some (xD Z)
   refine gF Z I (go8 ?_);refine zS h5 (MLe.refl _) ⟨?_,I,I,I,I,I,I,trivial⟩ I I;exact congrArg some (xE Z)
  intro O av;refine tY ?_;refine qB (ι:=Mem) 7 (λm_=>MLe O m_) (λ_=>[(62,vB ((((xT ((zCB (l.getD m zT) (l.getD ((m+1)%l.length) zT)).y) p.y)<=(0:Int))/\((xT p.y ((zD3 (l.getD m zT) (l.getD ((m+1)%l.length) zT)).y))<(0:Int)))/\((0:Int)<(orZ (pr (zCB (l.getD m zT) (l.getD ((m+1)%l.length) zT)) 0 1) (pr (zD3 (l.getD m zT) (l.getD ((m+1)%l.length) zT)) 0 1) (pr p 0 1))))),(0,vl),(3,vP b3 0),(5,vB (kC l (pr p 0 1) 0 1 m)),(6,vI ↑m)]) (λ_=>[.var b8 31 C,.var b7 31 D,.var b3 31 ae]) (λm_=>m_) ?_ ?_
  ·
   refine zY (((xT ((zCB (l.getD m zT) (l.getD ((m+1)%l.length) zT)).y) p.y)<=(0:Int))/\((xT p.y ((zD3 (l.getD m zT) (l.getD ((m+1)%l.length) zT)).y))<(0:Int))) (λZ=>?_) (λZ=>?_)
   ·
    refine gT Z I (go1 ?_);refine lX (xB zM pH ai) λcp bl=>(go1 ?_);refine lX (xB zM pH ah) λco bk=>(go1 ?_);refine lX (xB zM pH ac) λcn bj=>(go1 ?_);refine cL (ev3 I I I) call186 (λw hs=>tR hs bl bk (bj.le (Le.t (Le.q (l:=k+1) oM))) oM) λbb h6 aq bi=>?_;obtain rfl:bb=vI (orZ (pr (zCB (l.getD m zT) (l.getD ((m+1)%l.length) zT)) 0 1) (pr (zD3 (l.getD m zT) (l.getD ((m+1)%l.length) zT)) 0 1) (pr p 0 1)):=bi;have ch:=tP (pr (zCB (l.getD m zT) (l.getD ((m+1)%l.length) zT)) 0 1) (pr (zD3 (l.getD m zT) (l.getD ((m+1)%l.length) zT)) 0 1) (pr p 0 1);refine go4 ?_;refine zS h6 aq ⟨?_,I,I,I,I,trivial⟩ I I;exact congrArg some (xD Z)
   refine gF Z I (go7 ?_);refine zS O (MLe.refl _) ⟨?_,I,I,I,I,trivial⟩ I I;exact congrArg some (xE Z)
  intro J ap;refine tY ?_;refine gc2 (λab=>?_) λab=>?_
  ·
   refine uV ?_;refine yO (A:=[]) (yO (A:=[]) ?_);refine gqL ((m+1),J) ?_ ?_ (he:=⟨I,I,congrArg (λz=>some (vB z)) (yG1 ((zG5 _ _ _).1 ab)),I,trivial⟩)
   · exact⟨mle,by omega,zBD ad U⟩
   omega
  refine go8 ?_;refine yO (A:=[]) (yO (A:=[]) ?_);refine gqL ((m+1),J) ?_ ?_ (he:=⟨I,I,congrArg (λz=>some (vB z)) (yBW λe=>ab ((zG5 _ _ _).2 e)),I,trivial⟩)
  · exact⟨mle,by omega,zBD ad U⟩
  omega
 refine zC4 (λaa=>?_) λaa=>?_
 ·
  refine go7 ?_;refine zC I I ?_;exact congrArg vI (zYD oM aw ad aa)
 refine go8 ?_;refine zC I I ?_;exact congrArg vI (zRJ oM aw ad aa)
theorem zPJ{k:Nat}{vL:Value}{L:(List (List Tq))}(rL:(tLL k).Is h0 vL L){vp:Value}{p:Tq}(rp:(tPt k).Is h0 vp p){i:Nat}{j:Nat}(hcd0:i<3)(hcd1:j<3)(hcd2:k<=100000)(hcd3:∀x,x∈L->x.length<=1000)(hcd4:L.length<=1000):
 Calls Tryz.prog 149 #[vL,vp,vI ↑i,vI ↑j] w0 (Ret w0 h0 (λ_ r=>r=vI (whZ L (pr p i j) i j))):=by
 refine jO (n:=31) (e:=[(0,vL),(1,vp),(2,vI ↑i),(3,vI ↑j)]) (vs:=[vL,vp,vI ↑i,vI ↑j]) func149 rfl rfl (bL rfl) hs e4z (go2 ?_);refine nB rp λb5 ac M=>(nR ?_);refine gcL (ι:=Nat×Mem) (λ(m,ma)=>(MLe h0 ma/\(m<=L.length/\∀q,q<m->¬fG (L.getD q []) (pr p i j) i j=0),[(2,vI ↑i),(3,vI ↑j),(5,vP b5 0),(9,vI (j5 L (pr p i j) i j m)),(12,vL),(13,vI (↑(L).length:Int)),(14,vI ↑m)],[.var b5 31 ac],ma,L.length-m)) (0,h0) ?_ ?_
 · exact⟨mle,by omega,λq hq=>by omega⟩
 rintro⟨m,ma⟩ ⟨ad,ab,G⟩
 refine yW ?_;have aj:=zAN L (pr p i j) i j m;refine gc6 (λH=>?_) λH=>?_
 ·
  refine go6 ?_;refine lX (xI [] m underlying76 uO rL) λai aa=>(lX (xA uO aa) λah Z=>(go6 ?_));refine lX (xB zM pH M) λae U=>(go2 ?_);refine cL (ev4 I I I I) call183 (λw hs=>zMQ (i:=i) (j:=j) hs Z U oM oM oM (by first|omega|exact zNG zo4 _)) λJ h1 ak O=>?_;obtain rfl:J=vI (fG (L.getD m []) (pr p i j) i j):=O;refine gc9 (λC=>?_) λC=>?_
  ·
   refine uV ?_;refine zC I I ?_;exact congrArg vI (if_pos ⟨m,by omega,C⟩).symm
  refine gc6 (λD=>?_) λD=>?_
  ·
   refine go2 ?_;refine gv (aY I oM oM) I (go9 ?_);refine gqL ((m+1),h1) ?_ ?_ (he:=⟨I,I,I,congrArg (λz=>some (vI z)) (if_pos D).symm,I,I,I,trivial⟩)
   · exact⟨mle,by omega,zEC G C⟩
   omega
  refine go8 ?_;refine gqL ((m+1),h1) ?_ ?_ (he:=⟨I,I,I,congrArg (λz=>some (vI z)) (if_neg D).symm,I,I,I,trivial⟩)
  · exact⟨mle,by omega,zEC G C⟩
  omega
 refine uV ?_;refine zC I I ?_;exact congrArg vI (zUT oM ab G)
theorem zPG{k:Nat}{vL:Value}{L:(List (List Tq))}(rL:(tLL k).Is h0 vL L){vp:Value}{p:Tq}(rp:(tPt k).Is h0 vp p)(hcd0:k<=9900)(hcd1:∀x,x∈L->x.length<=1000)(hcd2:L.length<=1000):
 Calls Tryz.prog 110 #[vL,vp] w0 (Ret w0 h0 (λ_ r=>r=vI (whZ L (pr p 0 1) 0 1))):=by
 refine cb2 26 vL vp func110 hs ?_;refine go2 ?_;refine nB rp λb3 ac M=>(rA ?_);refine gcL (ι:=Nat×Mem) (λ(m,ma)=>(MLe h0 ma/\(m<=L.length/\∀q,q<m->¬fG (L.getD q []) (pr p 0 1) 0 1=0),[(0,vL),(3,vP b3 0),(5,vI (j5 L (pr p 0 1) 0 1 m)),(6,vI ↑m)],[.var b3 31 ac],ma,L.length-m)) (0,h0) ?_ ?_
 · exact⟨mle,by omega,λq hq=>by omega⟩
 rintro⟨m,ma⟩ ⟨ad,ab,G⟩
 refine yW ?_;have aj:=zAN L (pr p 0 1) 0 1 m;refine gc9 (λH=>?_) λH=>?_
 ·
  refine go5 ?_;refine zK 6 _ [] [(0,.q),(1,.q),(2,.q),(3,.q),(4,.q),(5,.c)] yA nX zou nX (λr hr=>hr) (go2 ?_);refine wX I (xI [] m underlying76 uO rL) λai aa=>(wX I (xA uO aa) λah Z=>(wX I (xB zM pH M) λae U=>?_));refine w_c I (sC (ev2 I I) call150 (λw hs=>zDQ hs Z U oM (by first|omega|exact zNG zo4 _)) λJ h1 ak O=>?_);obtain rfl:J=vI (fG (L.getD m []) (pr p 0 1) 0 1):=O;refine gc9 (λC=>?_) λC=>?_
  ·
   refine uV ?_;refine zC I I ?_;exact congrArg vI (if_pos ⟨m,by omega,C⟩).symm
  refine gc6 (λD=>?_) λD=>?_
  ·
   refine go2 ?_;refine gv (aY I oM oM) I (uG ?_);refine gqL ((m+1),h1) ?_ ?_ (he:=⟨I,I,congrArg (λz=>some (vI z)) (if_pos D).symm,I,trivial⟩)
   · exact⟨mle,by omega,zEC G C⟩
   omega
  refine go9 ?_;refine gqL ((m+1),h1) ?_ ?_ (he:=⟨I,I,congrArg (λz=>some (vI z)) (if_neg D).symm,I,trivial⟩)
  · exact⟨mle,by omega,zEC G C⟩
  omega
 refine uV ?_;refine zC I I ?_;exact congrArg vI (zUT oM ab G)
end
end Go.Proofs.YtpkaegemlpaenaaGreat
namespace Bk
open Classical
def zSJ(R:Nat->Nat->Prop)(q b:Nat):Prop:=∀p,p<b->R p q
def zLM(R:Nat->Nat->Prop)(a:Nat):Prop:=∀q,q<a->zSJ R q q
theorem zU1{R:Nat->Nat->Prop}:zLM R 0:=λq h=>by omega
theorem yAL{R:Nat->Nat->Prop}{q:Nat}:zSJ R q 0:=λp h=>by omega
theorem yAM{R:Nat->Nat->Prop}{q b:Nat}(h:zSJ R q b)(h1:R b q):zSJ R q (b+1):=λp h3=>by
 rcases Nat.lt_succ_iff_lt_or_eq.1 h3 with h4|h4
 · exact h p h4
 · subst h4;exact h1
theorem zU2{R:Nat->Nat->Prop}{a b:Nat}(h:zLM R a)(h1:zSJ R a b)(hb:a<=b):zLM R (a+1):=λq h2=>by
 rcases Nat.lt_succ_iff_lt_or_eq.1 h2 with h5|h5
 · exact h q h5
 · subst h5;exactλp hp=>h1 p zot
def zZM(l:List Pt)(k i:Nat):Prop:=yLD l 0 1 k i/\okT l 0 1 k i
theorem yA6{l:List Pt}(h3:3<=l.length)(h:zLM (zZM l) l.length):aG l 0 1:=
 ⟨h3,λp q h1 h2 h4=>(h q h4 p h2).1,λp q h1 h2 h4=>(h q h4 p h2).2⟩
theorem zW0{l:List Pt}{k i:Nat}:mX (vV l 0 1 i) (vS l 0 1 i) (vV l 0 1 k) (vS l 0 1 k)=zH4 l.length k i↔okT l 0 1 k i:=by
 unfold okT;rw[<-zLL,zE2]
end Bk
namespace Go.Proofs.YtpkaegemlpaenaaGreat
open Bk Go Tryz
set_option maxRecDepth 10000
set_option maxHeartbeats 1000000
attribute [local irreducible] GL GC GQ W OpV
section
variable{w0:World}{h0:Mem}(hs:MLe h0 (mem w0))
include hs
theorem zMK{k:Nat}{vl:Value}{l:(List Tq)}(rl:(tLs k).Is h0 vl l)(hcd0:k<=5000)(hcd1:l.length<=1000):
 Calls Tryz.prog 129 #[vl] w0 (Ret w0 h0 (λ_ r=>r=vB (aG l 0 1))):=by
 refine cb1 69 vl func129 hs ?_;refine zYO ?_;refine cnd (λaa=>?_) λaa=>?_
 ·
  refine go7 ?_;refine zC I I ?_;exact(yH (λe=>by have:=e.1;omega)).symm
 refine go9 ?_;refine gcL (ι:=Nat×Mem) (λ(i,J)=>(MLe h0 J/\(i<=l.length/\zLM (zZM l) i),[(0,vl),(3,vI (↑(l).length:Int)),(4,vI ↑i)],[],J,l.length-i)) (0,h0) ?_ ?_
 · exact⟨mle,by omega,zU1⟩
 rintro⟨i,J⟩ ⟨ay,bn,hi2⟩
 refine yW ?_;refine gc8 (λZ=>?_) λZ=>?_
 ·
  refine uG ?_;refine gcL (ι:=Nat×Mem) (λ(q,mq)=>(MLe J mq/\(q<=i/\zSJ (zZM l) i q),[(0,vl),(3,vI (↑(l).length:Int)),(4,vI ↑i),(5,vI ↑q)],[],mq,i-q)) (0,J) ?_ ?_
  · exact⟨mle,by omega,yAL⟩
  rintro⟨q,mq⟩ ⟨ax,bm,M⟩
  refine yW ?_;refine gc8 (λU=>?_) λU=>?_
  ·
   refine go6 ?_;refine zK 9 _ [] [(0,.q),(1,.q),(2,.q),(3,.q),(4,.q),(5,.q),(6,.q),(7,.q),(8,.c)] yA nX zou nX (λr hr=>hr) (go2 ?_);refine wX I (xI zT i underlying35 zM rl) λbl av=>(wX I (xA zM av) λbk au=>(go2 ?_));refine wX I (xI zT q underlying35 zM rl) λbj ar=>(wX I (xA zM ar) λbi aq=>?_);refine w_c I (sC (ev2 I I) call174 (λw hs=>jJ hs au aq oM) λac h1 bp ap=>?_);obtain rfl:ac=vB ((pr (l.getD i zT) 0 1)=(pr (l.getD q zT) 0 1)):=ap;refine gc2 (λG=>?_) λG=>?_
   ·
    refine zAG ?_;refine zC I I ?_;exact(yH (λe=>e.2.1 q i oM oM oM G.symm)).symm
   refine go7 ?_;refine qZ (ι:=Mem) (λ(H:(Mem))=>MLe h1 H/\(True)) (λ(H:(Mem))=>[(0,vl),(3,vI (↑(l).length:Int)),(4,vI ↑i),(5,vI ↑q),(6,vI (zH4 l.length q i))]) (λ(H:(Mem))=>[]) (λ(H:(Mem))=>H) ?_ ?_
   ·
    refine go6 ?_;refine gU 10 43 (vB (((↑i:Int)=((↑q:Int)+(1:Int)))\/(((↑q:Int)=(0:Int))/\((↑i:Int)=((↑(l).length:Int)-(1:Int)))))) ?_ ?_
    ·
     refine zY ((↑i:Int)=((↑q:Int)+(1:Int))) (λC=>?_) (λC=>?_)
     ·
      refine gT C I (uG ?_);refine gqU ?_;exact congrArg some (vD C)
     refine gF C I (go4 ?_);refine gU 6 42 (vB (((↑q:Int)=(0:Int))/\((↑i:Int)=((↑(l).length:Int)-(1:Int))))) ?_ ?_
     ·
      refine zY ((↑q:Int)=(0:Int)) (λC=>?_) (λC=>?_)
      ·
       refine go1 ?_;refine gT C I (qM ?_);refine gqU ?_;exact congrArg some (xD C)
      refine go1 ?_;refine gF C I (go7 ?_);refine gqU ?_;exact congrArg some (xE C)
     refine go2 ?_;refine gqU ?_;exact congrArg some (vG C)
    refine gc2 (λO=>?_) λO=>?_
    ·
     refine go3 ?_;refine zS (h1) ?_ ⟨I,I,I,I,?_,trivial⟩ I I
     ·
      refine⟨MLe.refl _,?_⟩
      trivial
     · exact congrArg (λz=>some (vI z)) (yER oM)
    refine go1 ?_;refine zS (h1) ?_ ⟨I,I,I,I,?_,trivial⟩ I I
    ·
     refine⟨MLe.refl _,?_⟩
     trivial
    · exact congrArg (λz=>some (vI z)) (yES oM)
   rintro H ⟨aw,az⟩
   refine yW ?_;refine go1 ?_;refine zK 25 _ [] [(0,.q),(1,.q),(2,.q),(3,.q),(4,.q),(5,.q),(6,.q),(7,.q),(8,.q),(9,.q),(10,.q),(11,.q),(12,.q),(13,.q),(14,.q),(15,.q),(16,.q),(17,.q),(18,.q),(19,.q),(20,.q),(21,.q),(23,.q),(22,.c),(24,.q)] yA nX (wJ zou) nX (λr hr=>hr) (go2 ?_);refine wX I (xI zT i underlying35 zM rl) λbh ao=>(wX I (xA zM ao) λbg an=>(go4 ?_));refine wI I (λ_ _=>wC I I oM oM) I (wX I (xI zT ((i+1)%l.length) underlying35 zM rl (hi:=by exact Nat.mod_lt _ oM)) λbf am=>(wX I (xA zM am) λbe ak=>(go2 ?_)));refine wX I (xI zT q underlying35 zM rl) λbd aj=>(wX I (xA zM aj) λbc ai=>(go4 ?_));refine wI I (λ_ _=>wC I I oM oM) I (wX I (xI zT ((q+1)%l.length) underlying35 zM rl (hi:=by exact Nat.mod_lt _ oM)) λbb ah=>(wX I (xA zM ah) λba ae=>(go1 ?_)));refine w_c I (sC (ev4 I I I I) call175 (λw hs=>zF1 hs an ak ai ae oM) λab h2 bo ad=>?_);obtain rfl:ab=vI (mX (pr (l.getD i zT) 0 1) (pr (l.getD ((i+1)%l.length) zT) 0 1) (pr (l.getD q zT) 0 1) (pr (l.getD ((q+1)%l.length) zT) 0 1)):=ad;refine gc3 (λD=>?_) λD=>?_
   ·
    refine rA ?_;refine zC I I ?_;exact(yH (λe=>D (zW0.2 (e.2.2 q i oM oM oM)))).symm
   refine go8 ?_;refine gqL ((q+1),h2) ?_ ?_
   · exact⟨mle,by omega,yAM M ⟨λe=>G e.symm,zW0.1 (Classical.not_not.1 D)⟩⟩
   omega
  refine qM ?_;refine gqL ((i+1),mq) ?_ ?_
  · exact⟨mle,by omega,zU2 hi2 M oM⟩
  omega
 have ei:i=l.length:=by omega
 have hT:=hi2;rw[ei] at hT;refine qM ?_;refine zC I I ?_;exact(xM (yA6 oM hT)).symm
theorem zKC{k:Nat}{va:Value}{a:(List Tq)}(ra:(tLs k).Is h0 va a){vb:Value}{b:(List Tq)}(rb:(tLs k).Is h0 vb b)(hcd0:k<=5000)(hcd1:a.length<=1000)(hcd2:b.length<=1000):
 Calls Tryz.prog 130 #[va,vb] w0 (Ret w0 h0 (λ_ r=>r=vB (gS a b 0 1))):=by
 refine cb2 45 va vb func130 hs ?_;refine uV ?_;refine gcL (ι:=Nat×Mem) (λ(p,D)=>(MLe h0 D/\(p<=a.length/\∀u v,u<p->v<b.length->¬j0 a b 0 1 u v),[(0,va),(1,vb),(5,vI ↑p)],[],D,a.length-p)) (0,h0) ?_ ?_
 · exact⟨mle,by omega,λu v h=>by omega⟩
 rintro⟨p,D⟩ ⟨am,ay,H⟩
 refine yW ?_;refine gc9 (λM=>?_) λM=>?_
 ·
  refine uG ?_;refine gcL (ι:=Nat×Mem) (λ(q,O)=>(MLe D O/\(q<=b.length/\∀v,v<q->¬j0 a b 0 1 p v),[(0,va),(1,vb),(5,vI ↑p),(6,vI ↑q)],[],O,b.length-q)) (0,D) ?_ ?_
  · exact⟨mle,by omega,λv h=>by omega⟩
  rintro⟨q,O⟩ ⟨ak,ax,G⟩
  refine yW ?_;refine gc9 (λJ=>?_) λJ=>?_
  ·
   refine go5 ?_;refine zK 26 _ [] [(0,.q),(1,.q),(2,.q),(3,.q),(4,.q),(5,.q),(6,.q),(7,.q),(8,.q),(9,.q),(10,.q),(11,.q),(12,.q),(13,.q),(14,.q),(15,.q),(16,.q),(17,.q),(18,.q),(19,.q),(20,.q),(21,.q),(22,.q),(23,.q),(24,.c),(25,.q)] yA nX (wJ zou) nX (λr hr=>hr) (go2 ?_);refine wX I (xI zT p underlying35 zM ra) λaw aj=>(wX I (xA zM aj) λav ai=>(go4 ?_));refine w_q I (λh' L' hh hR=>uY underlying35 I (ra.up.mono hh)) I (wI I (λ_ _=>wC I I oM oM) I (wX I (xI zT ((p+1)%a.length) underlying35 zM ra (hi:=by exact Nat.mod_lt _ oM)) λau ah=>(wX I (xA zM ah) λar ae=>(go2 ?_))));refine wX I (xI zT q underlying35 zM rb) λaq ad=>(wX I (xA zM ad) λap ac=>(go4 ?_));refine w_q I (λh' L' hh hR=>uY underlying35 I (rb.up.mono hh)) I (wI I (λ_ _=>wC I I oM oM) I (wX I (xI zT ((q+1)%b.length) underlying35 zM rb (hi:=by exact Nat.mod_lt _ oM)) λao ab=>(wX I (xA zM ab) λan aa=>?_)));refine w_c I (sC (ev4 I I I I) call175 (λw hs=>zF1 hs ai ae ac aa oM) λU h1 az Z=>?_);obtain rfl:U=vI (mX (pr (a.getD p zT) 0 1) (pr (a.getD ((p+1)%a.length) zT) 0 1) (pr (b.getD q zT) 0 1) (pr (b.getD ((q+1)%b.length) zT) 0 1)):=Z;refine gc3 (λC=>?_) λC=>?_
   ·
    refine rA ?_;refine zC I I ?_;exact(xM ⟨p,q,by omega,by omega,(zZB.1 C)⟩).symm
   refine go8 ?_;refine gqL ((q+1),h1) ?_ ?_
   · exact⟨mle,by omega,zV3 (n:=0) (Q:=j0 a b 0 1) G (λe=>C (zZB.2 e))⟩
   omega
  refine qM ?_;refine gqL ((p+1),O) ?_ ?_
  · exact⟨mle,by omega,zS2 H G oM⟩
  omega
 refine qM ?_;refine zC I I ?_;exact(yH (λ⟨u,v,h1,h2,h3⟩=>H u v oM h2 h3)).symm
theorem zMM{k:Nat}{vp:Value}{p:Tq}(rp:(tPt k).Is h0 vp p){vq:Value}{q:Tq}(rq:(tPt k).Is h0 vq q)(hcd0:k<=100000):
 Calls Tryz.prog 176 #[vp,vq] w0 (Ret w0 h0 (λh r=>(tPt (2*k+2)).Is h r (T3.mk (zCW p.x q.x) (zCW p.y q.y) (0:Rat)))):=by
 refine cb2 16 vp vq func176 hs ?_;refine go2 ?_;refine nB rp λb2 ap M=>(nB rq λb3 ao J=>(nA (ρ:=(tPt (2*k+2))) (X:=zT) yM (xO (yI oM)) λb4 an O=>(go3 ?_)));refine zK 11 _ [] [(0,.q),(1,.q),(2,.q),(3,.q),(5,.q),(6,.q),(7,.q),(8,.q),(4,.c),(9,.c),(10,.q),(11,.t)] yA nX (wJ zou) nX (λr hr=>hr) (go1 ?_);refine wX I (xB yE (Pc.tx pH) M) λv6 r6=>(go1 ?_);refine wX I (xB yE (Pc.tx pH) J) λv8 r8=>(go1 ?_);refine wX I (xB yE (Pc.ty pH) M) λaj ab=>(go1 ?_);refine wX I (xB yE (Pc.ty pH) J) λai aa=>?_;refine w_c I (sC (ev2 I I) call203 (λw hs=>zFY hs r6 r8 oM) λv9 h1 am U=>?_);replace U:=Rp.Is.le U (Le.q (l:=2*k+2) oM);refine w_c I (sC (ev2 I I) call203 (λw hs=>zFY hs ab.up aa.up oM) λah h2 ak C=>?_);replace C:=Rp.Is.le C (Le.q (l:=2*k+2) oM);refine wX I (xV (ρ:=(tPt (2*k+2))) (wB (ps':=[(0,_),(1,_)]) underlying31 yM I I sizeOf29 e4z I (xO (yI oM)) (zD I (Pc.tx (Pc.here _)) U.up (zD I (Pc.ty (Pc.here _)) C zO)))) λae Z=>(yK (A:=[]) I (uB sizeOf31 pH O Z) λac H=>(go3 ?_));refine wT (kJ (t:=4) zM mh0 I H) ?_;intro ad D G;refine yV (λE S=>zV I D E S) ?_;exact G
theorem zDP{k:Nat}{va:Value}{a:(List Tq)}(ra:(tLs k).Is h0 va a){vb:Value}{b:(List Tq)}(rb:(tLs k).Is h0 vb b)(hcd0:k<=2000)(hcd1:a.length<=1000)(hcd2:b.length<=1000):
 Calls Tryz.prog 133 #[va,vb] w0 (Ret w0 h0 (λ_ r=>r=vI (wiZ a b 0 1))):=by
 refine cb2 32 va vb func133 hs ?_;refine nR ?_;refine gcL (ι:=Nat×Mem) (λ(m,ma)=>(MLe h0 ma/\(m<=b.length),[(0,va),(1,vb),(5,vI (pS a b 0 1 m)),(6,vI ↑m)],[],ma,b.length-m)) (0,h0) ?_ ?_
 · exact⟨mle,oM⟩
 rintro⟨m,ma⟩ ⟨ab,D⟩
 refine yW ?_;have ak:=D;have aj:=mV a b 0 1 m;refine gc9 (λG=>?_) λG=>?_
 ·
  refine go5 ?_;refine zK 16 _ [] [(0,.q),(1,.q),(2,.q),(3,.q),(4,.q),(5,.q),(6,.q),(7,.q),(8,.q),(9,.q),(10,.q),(11,.q),(12,.q),(13,.c),(14,.c),(15,.q)] yA nX (wJ zou) nX (λr hr=>hr) (go3 ?_);refine wX I (xI zT m underlying35 zM rb) λai aa=>(wX I (xA zM aa) λah Z=>(go4 ?_));refine w_q I (λh' L' hh hR=>uY underlying35 I (rb.up.mono hh)) I (wI I (λ_ _=>wC I I oM oM) I (wX I (xI zT ((m+1)%b.length) underlying35 zM rb (hi:=by exact Nat.mod_lt _ oM)) λae U=>(wX I (xA zM U) λad O=>?_)));refine w_c I (sC (ev2 I I) call176 (λw hs=>zMM hs Z O oM) λac h1 an M=>?_);refine w_c I (sC (ev2 I I) call150 (λw hs=>zDQ hs (ra.up.le (Le.s (Le.t (Le.q (l:=2*k+2) oM)))) M oM oM) λH h2 am J=>?_);obtain rfl:H=vI (fG a (pr (T3.mk (zCW (b.getD m zT).x (b.getD ((m+1)%b.length) zT).x) (zCW (b.getD m zT).y (b.getD ((m+1)%b.length) zT).y) (0:Rat)) 0 1) 0 1):=J;refine gc3 (λC=>?_) λC=>?_
  ·
   refine uV ?_;refine gqL ((m+1),h2) ?_ ?_ (he:=⟨I,I,congrArg (λz=>some (vI z)) (yEN (yDW _ _) C),I,trivial⟩)
   · exact⟨mle,oM⟩
   omega
  refine go8 ?_;refine gqL ((m+1),h2) ?_ ?_ (he:=⟨I,I,congrArg (λz=>some (vI z)) (yEO (yDW _ _) C),I,trivial⟩)
  · exact⟨mle,oM⟩
  omega
 refine uV ?_;refine zC I I ?_;have em:m=b.length:=by omega
 subst em
 rfl
theorem zML{k:Nat}{vL:Value}{L:(List (List Tq))}(rL:(tLL k).Is h0 vL L){f:Nat}(hcd0:f<L.length)(hcd1:L.length<=16)(hcd2:k<=2000)(hcd3:∀u,u<L.length->¬64<(gl L u).length):
 Calls Tryz.prog 132 #[vL,vI ↑f] w0 (Ret w0 h0 (λ_ r=>r=vI (tW L 0 1 f L.length))):=by
 have M:=hcd3;refine cb2 55 vL (vI ↑f) func132 hs ?_;refine nR ?_;refine gcL (ι:=Nat×Mem) (λ(g,ma)=>(MLe h0 ma/\(g<=L.length),[(0,vL),(1,vI ↑f),(5,vI (tW L 0 1 f g)),(6,vI ↑g)],[],ma,L.length-g)) (0,h0) ?_ ?_
 · exact⟨mle,oM⟩
 rintro⟨g,ma⟩ ⟨ba,bx⟩
 refine yW ?_;have bq:=zCN L 0 1 f g;refine gc9 (λJ=>?_) λJ=>?_
 ·
  refine go6 ?_;refine zK 24 _ [] [(0,.q),(1,.q),(2,.q),(3,.q),(4,.c),(5,.c),(6,.q),(7,.q),(8,.q),(9,.q),(10,.q),(11,.q),(12,.q),(13,.q),(14,.q),(15,.q),(17,.q),(18,.q),(19,.q),(20,.q),(21,.q),(16,.c),(22,.q),(23,.q)] yA nX (wJ zou) nX (λr hr=>hr) (go2 ?_);refine wX I (xI [] g underlying76 uO rL) λbp aw=>(wX I (xA uO aw) λbo av=>?_);refine w_c I (sC (ev1 I) call131 (λw hs=>pR hs av oM (by first|omega|exact Nat.le_trans (Nat.not_lt.1 (M _ oM)) dC|exact Nat.le_trans (hF _ oM) dC)) λbn h1 bw au=>?_);refine w_c I (sC (ev1 I) call48 (λw hs=>uD hs au dC) λZ h2 bv ar=>?_);obtain rfl:Z=vI (yR (uW (L.getD g []) 0 1 (L.getD g []).length)):=ar;have ay:=yX (uW (L.getD g []) 0 1 (L.getD g []).length);refine go2 ?_;refine jH ((yR (uW (L.getD g []) 0 1 (L.getD g []).length))<=(0:Int)) (λG=>?_) (λG=>?_)
  ·
   rw[xM G];refine sO ?_;refine w_c I (lW I I I I (tZ ?_));refine gqL ((g+1),h2) ?_ ?_ (he:=⟨I,I,congrArg (λz=>some (vI z)) ((if_neg (λe=>absurd e.1.1 (Int.not_lt.2 zo4))).symm),I,trivial⟩)
   · exact⟨mle,oM⟩
   omega
  rw[yH G];refine yS I I I (λh' L' hh hR=>yZ I) I (yS I I I (λh' L' hh hR=>yZ I) I (oX I (xI [] g underlying76 uO rL) λbm aq=>(oX I (xA uO aq) λbl ap=>(yS I I I (λh' L' hh hR=>yZ I) I (yS I I I (λh' L' hh hR=>yZ I) I (oX I (xI [] f underlying76 uO rL) λbk ao=>(oX I (xA uO ao) λbj an=>(yS I I I (λh' L' hh hR=>yZ I) I (yS I I I (λh' L' hh hR=>yZ I) I (oX I (xI [] f underlying76 uO rL) λbi ak=>(oX I (xA uO ak) λbh aj=>(yS I I I (λh' L' hh hR=>uY underlying35 I (aj.mono hh)) I ?_))))))))))));refine w_c I (zA6 I I (sC (ev2 I I) call133 (λw hs=>zDP hs ap an oM (by first|omega|exact Nat.le_trans (Nat.not_lt.1 (M _ oM)) dC|exact Nat.le_trans (hF _ oM) dC) (by first|omega|exact Nat.le_trans (Nat.not_lt.1 (M _ oM)) dC|exact Nat.le_trans (hF _ oM) dC)) λU h3 bu am=>?_));obtain rfl:U=vI (wiZ (L.getD g []) (L.getD f []) 0 1):=am;have ax:=mV (L.getD g []) (L.getD f []) 0 1 (L.getD f []).length;refine gc4 (λC=>?_) λC=>?_
  ·
   refine go9 ?_;refine gqL ((g+1),h3) ?_ ?_ (he:=⟨I,I,congrArg (λz=>some (vI z)) ((if_neg (λe=>C e.1.2)).symm),I,trivial⟩)
   · exact⟨mle,oM⟩
   omega
  refine go3 ?_;refine zK 16 _ [] [(0,.q),(1,.q),(2,.q),(3,.q),(4,.q),(5,.q),(6,.q),(8,.q),(9,.q),(10,.q),(11,.q),(7,.c),(12,.c),(13,.c),(14,.q),(15,.q)] yA nX (wJ zou) nX (λr hr=>hr) (go3 ?_);refine jH ((tW L 0 1 f g)<(0:Int)) (λD=>?_) (λD=>?_)
  ·
   rw[xM D];refine go8 ?_;refine w_c I (lW I I I I ?_);refine w_c I (lW I I I I ?_);refine w_c I (lW I I I I (zAG ?_));refine gqL ((g+1),h3) ?_ ?_ (he:=⟨I,I,congrArg (λz=>some (vI z)) ((if_pos ⟨⟨Int.not_le.1 zo4,Classical.not_not.1 C⟩,.inl zo4⟩).symm),I,trivial⟩)
   · exact⟨mle,oM⟩
   omega
  rw[yH D];refine yS I I I (λh' L' hh hR=>yZ I) I (yS I I I (λh' L' hh hR=>yZ I) I (oX I (xI [] g underlying76 uO rL) λbg ai=>(oX I (xA uO ai) λbf ah=>(yS I I I (λh' L' hh hR=>yZ I) I (yS I I I (λh' L' hh hR=>yZ I) I (oX I (xI [] ((tW L 0 1 f g).toNat) underlying76 uO rL) λbd ad=>(oX I (xA uO ad) λbc ac=>?_)))))));refine w_c I (zA6 I I (sC (ev1 I) call131 (λw hs=>pR hs ah oM (by first|omega|exact Nat.le_trans (Nat.not_lt.1 (M _ oM)) dC|exact Nat.le_trans (hF _ oM) dC)) λbe h4 bt ae=>?_));refine w_c I (zA6 I I (sC (ev1 I) call131 (λw hs=>pR hs ac.up oM (by first|omega|exact Nat.le_trans (Nat.not_lt.1 (M _ oM)) dC|exact Nat.le_trans (hF _ oM) dC)) λbb h5 bs ab=>?_));refine w_c I (zA6 I I (sC (ev2 I I) call17 (λw hs=>tG hs ae.up ab dC) λO h6 br aa=>?_));obtain rfl:O=vI (xT (uW (L.getD g []) 0 1 (L.getD g []).length) (uW (L.getD ((tW L 0 1 f g).toNat) []) 0 1 (L.getD ((tW L 0 1 f g).toNat) []).length)):=aa;have az:=jA (uW (L.getD g []) 0 1 (L.getD g []).length) (uW (L.getD ((tW L 0 1 f g).toNat) []) 0 1 (L.getD ((tW L 0 1 f g).toNat) []).length);refine gc4 (λH=>?_) λH=>?_
  ·
   refine qM ?_;refine gqL ((g+1),h6) ?_ ?_ (he:=⟨I,I,congrArg (λz=>some (vI z)) ((if_pos ⟨⟨Int.not_le.1 zo4,Classical.not_not.1 C⟩,.inr H⟩).symm),I,trivial⟩)
   · exact⟨mle,oM⟩
   omega
  refine go8 ?_;refine gqL ((g+1),h6) ?_ ?_ (he:=⟨I,I,congrArg (λz=>some (vI z)) ((if_neg (λe=>e.2.elim (λh=>absurd h zo4) H)).symm),I,trivial⟩)
  · exact⟨mle,oM⟩
  omega
 refine uV ?_;refine zC I I ?_;have eg:g=L.length:=by omega
 rw[eg]
end
set_option maxHeartbeats 2000000 in
section
variable{w0:World}{h0:Mem}(hs:MLe h0 (mem w0))
include hs
theorem zIN{k:Nat}{vL:Value}{L:(List (List Tq))}(rL:(tLL k).Is h0 vL L)(hcd0:k<=2000)(hcd1:∀x,x∈L->cQ x):
 Calls Tryz.prog 85 #[vL] w0 (Ret w0 h0 (λh r=>∃u0,r=.tuple #[u0,vI (uA L 0 1)]/\(rpS rpI).Is h u0 (sJ L 0 1))):=by
 have hF:=hcd1;refine cb1 133 vL func85 hs ?_;refine tZ ?_;refine cnd (λbv=>?_) λbv=>?_
 ·
  refine go8 ?_;refine wK I I I ?_;refine⟨_,?_,(Rp.Is.cast (oT _) (by exact(show uA L 0 1=2/\sJ L 0 1=[] from zKK (.inl oM)).2.symm))⟩;rw[(show uA L 0 1=2/\sJ L 0 1=[] from zKK (.inl oM)).1]
 refine go9 ?_;refine gcL (ι:=Nat×Mem) (λ(q,ma)=>(MLe h0 ma/\(q<=L.length/\∀u,u<q->¬64<(gl L u).length),[(0,vL),(4,vI ↑q)],[],ma,L.length-q)) (0,h0) ?_ ?_
 · exact⟨mle,by omega,λu h=>by omega⟩
 rintro⟨q,ma⟩ ⟨ec,fc,bg⟩
 refine yW ?_;refine gc9 (λbu=>?_) λbu=>?_
 ·
  refine go8 ?_;refine lX (xI [] q underlying76 uO rL) λeu da=>(lX (xA uO da) λes ev=>(gc4 (λbt=>?_) λbt=>?_))
  ·
   refine uV ?_;refine wK I I I ?_;refine⟨_,?_,(Rp.Is.cast (oT _) (by exact(show uA L 0 1=2/\sJ L 0 1=[] from zKK (.inr ⟨q,by omega,(by show 64<(L.getD q []).length;omega)⟩)).2.symm))⟩;rw[(show uA L 0 1=2/\sJ L 0 1=[] from zKK (.inr ⟨q,by omega,(by show 64<(L.getD q []).length;omega)⟩)).1]
  refine go8 ?_;refine gqL ((q+1),ma) ?_ ?_
  · exact⟨mle,by omega,wQ (Q:=λu=>¬64<(gl L u).length) bg (by show ¬64<(L.getD q []).length;omega)⟩
  omega
 have D:∀u,u<L.length->¬64<(gl L u).length:=λu hu=>bg u oM;refine uV ?_;refine gcL (ι:=Nat×Mem) (λ(s,ms)=>(MLe ma ms/\(s<=L.length/\∀u,u<s->aG (gl L u) 0 1),[(0,vL),(5,vI ↑s)],[],ms,L.length-s)) (0,ma) ?_ ?_
 · exact⟨mle,by omega,λu h=>by omega⟩
 rintro⟨s,ms⟩ ⟨dx,fb,bf⟩
 refine yW ?_;refine gc9 (λbs=>?_) λbs=>?_
 ·
  refine go8 ?_;refine lX (xI [] s underlying76 uO rL) λer cz=>(lX (xA uO cz) λeq cy=>(cL (ev1 I) call129 (λw hs=>zMK hs cy oM (by first|omega|assumption|exact Nat.le_trans (Nat.not_lt.1 (D _ oM)) dC)) λce h1 M cw=>?_));obtain rfl:ce=vB (aG (L.getD s []) 0 1):=cw;refine gc3 (λaa=>?_) λaa=>?_
  ·
   refine uV ?_;refine wK I I I ?_;refine⟨_,?_,(Rp.Is.cast (oT _) (by exact(show uA L 0 1=8/\sJ L 0 1=[] from zXL oM D ⟨s,by omega,aa⟩).2.symm))⟩;rw[(show uA L 0 1=8/\sJ L 0 1=[] from zXL oM D ⟨s,by omega,aa⟩).1]
  refine go8 ?_;refine gqL ((s+1),h1) ?_ ?_
  · exact⟨mle,by omega,wQ (Q:=λu=>aG (gl L u) 0 1) bf (Classical.not_not.1 aa)⟩
  omega
 have hS:∀u,u<L.length->aG (gl L u) 0 1:=λu hu=>bf u oM;refine uV ?_;refine gcL (ι:=Nat×Mem) (λ(c,mc)=>(MLe ms mc/\(c<=L.length/\∀u v,v<c->u<v->¬gS (gl L u) (gl L v) 0 1),[(0,vL),(6,vI ↑c)],[],mc,L.length-c)) (0,ms) ?_ ?_
 · exact⟨mle,by omega,λu v h=>by omega⟩
 rintro⟨c,mc⟩ ⟨eb,ed,ak⟩
 refine yW ?_;refine gc9 (λbr=>?_) λbr=>?_
 ·
  refine uG ?_;refine gcL (ι:=Nat×Mem) (λ(d,md)=>(MLe mc md/\(d<=c/\∀u,u<d->¬gS (gl L u) (gl L c) 0 1),[(0,vL),(6,vI ↑c),(7,vI ↑d)],[],md,c-d)) (0,mc) ?_ ?_
  · exact⟨mle,by omega,λu h=>by omega⟩
  rintro⟨d,md⟩ ⟨ea,ff,bl⟩
  refine yW ?_;refine gc8 (λbq=>?_) λbq=>?_
  ·
   refine go5 ?_;refine zK 9 _ [] [(0,.q),(1,.q),(2,.q),(3,.q),(4,.q),(5,.q),(6,.q),(7,.q),(8,.c)] yA nX zou nX (λr hr=>hr) (go2 ?_);refine wX I (xI [] c underlying76 uO rL) λep cu=>(wX I (xA uO cu) λeo ct=>(go2 ?_));refine wX I (xI [] d underlying76 uO rL) λen cq=>(wX I (xA uO cq) λem cp=>?_);refine w_c I (sC (ev2 I I) call130 (λw hs=>zKC hs ct cp oM (by first|omega|assumption|exact Nat.le_trans (Nat.not_lt.1 (D _ oM)) dC) (by first|omega|assumption|exact Nat.le_trans (Nat.not_lt.1 (D _ oM)) dC)) λcd h1 M co=>?_);obtain rfl:cd=vB (gS (L.getD c []) (L.getD d []) 0 1):=co;refine gc2 (λZ=>?_) λZ=>?_
   ·
    refine zAG ?_;refine wK I I I ?_;refine⟨_,?_,(Rp.Is.cast (oT _) (by exact(show uA L 0 1=32/\sJ L 0 1=[] from zQ6 oM D hS ⟨d,c,by omega,by omega,eD Z⟩).2.symm))⟩;rw[(show uA L 0 1=32/\sJ L 0 1=[] from zQ6 oM D hS ⟨d,c,by omega,by omega,eD Z⟩).1]
   refine go8 ?_;refine gqL ((d+1),h1) ?_ ?_
   · exact⟨mle,by omega,wQ (Q:=λu=>¬gS (gl L u) (gl L c) 0 1) bl (λe=>Z (eD e))⟩
   omega
  refine qM ?_;refine gqL ((c+1),md) ?_ ?_
  · exact⟨mle,by omega,zU0 ak bl oM⟩
  omega
 have hX:∀a b,b<L.length->a<b->¬gS (gl L a) (gl L b) 0 1:=λa b hb ha=>ak a b oM ha;refine nR ?_;refine xG 3 1 ?_;have au:=RL.nil (ρ:=rpI) (h:=mc);refine gcL (ι:=Nat×List Int×Value×List Value×Mem) (λ(f,H,C,G,mf)=>(MLe mc mf/\(RL rpI mf G H/\(f<=L.length/\H.length=f)/\∀u,u<f->H.getD u (0:Int)=pZ L 0 1 u),[(0,vL),(8,C),(9,vI ↑f)],[.gs 3 1 C H.length G],mf,L.length-f)) (0,([]:List Int),(.slice none 0 0),[],mc) ?_ ?_
 · exact⟨mle,au,⟨by omega,I⟩,λu h=>by omega⟩
 rintro⟨f,H,C,G,mf⟩ ⟨dz,J,⟨fe,bk⟩,ao⟩
 refine yW ?_;refine gc9 (λbp=>?_) λbp=>?_
 ·
  refine go9 ?_;refine qZ (ι:=Int×Mem) (λ(p,mp)=>MLe mf mp/\((-1<=p/\p<9223372036854775808)/\p=pZ L 0 1 f)) (λ(p,mp)=>[(0,vL),(8,C),(9,vI ↑f),(10,vI p)]) (λ(p,mp)=>[.gs 3 1 C H.length G]) (λ(p,mp)=>mp) ?_ ?_
  ·
   refine go4 ?_;refine lX (xI [] f underlying76 uO rL) λel cn=>(lX (xA uO cn) λek cm=>(cL (ev1 I) call131 (λw hs=>pR hs cm oM (by first|omega|assumption|exact Nat.le_trans (Nat.not_lt.1 (D _ oM)) dC)) λej h1 M cl=>(cL (ev1 I) call48 (λw hs=>uD hs cl dC) λcc h2 an ck=>?_)));obtain rfl:cc=vI (yR (uW (L.getD f []) 0 1 (L.getD f []).length)):=ck;have dh:=yX (uW (L.getD f []) 0 1 (L.getD f []).length);refine gc3 (λae=>?_) λae=>?_
   ·
    refine go3 ?_;refine cL (ev2 I I) call132 (λw hs=>zML (f:=f) hs rL.up (by first|omega|assumption|exact Nat.le_trans (Nat.not_lt.1 (D _ oM)) dC) (by first|omega|assumption|exact Nat.le_trans (Nat.not_lt.1 (D _ oM)) dC) oM (by first|omega|assumption|exact Nat.le_trans (Nat.not_lt.1 (D _ oM)) dC)) λcb h3 bj cj=>?_;obtain rfl:cb=vI (tW L 0 1 f L.length):=cj;have di:=zCN L 0 1 f L.length;refine go2 ?_;refine zS ((tW L 0 1 f L.length),h3) ?_ e4z I I;refine⟨((M.trans an).trans bj),?_⟩;exact⟨⟨by omega,by omega⟩,yGU ae⟩
   refine go1 ?_;refine zS ((-1:Int),h2) ?_ e4z I I;refine⟨(M.trans an),?_⟩;exact⟨⟨by omega,by omega⟩,yGT hF (hS f oM) ae⟩
  rintro⟨p,mp⟩ ⟨dy,bm⟩
  refine yW ?_;obtain⟨fd,bh⟩:=bm;refine go3 ?_;refine zG (zL (ρ:=rpI) (m:=1) (xs:=[p]) (ps':=[(0,_)]) underlying22 jV I I I wL e2z (zD I (Pc.arr (Pc.here _) (0:Int) 0 dC) (wH oM oM) zO) zoj nP) I I I ?_
  rintro ei ey ⟨ee,rfl,aw⟩
  refine zP (A:=[]) (ρ:=rpI) aw ?_;intro h1 M ar;refine xL (A:=[]) (zU (ρ:=rpI) (bytes:=8) underlying22 jV I I I I nP I I J.up ar bO bO) I I I ?_
  rintro ca ew ⟨bw,rfl,av⟩
  refine go9 ?_;refine gqL ((f+1),(H++[p]),ca,bw,h1) ?_ ?_
  · exact⟨mle,av,⟨by omega,(zI6 bk ao bh).1⟩,(zI6 bk ao bh).2⟩
  omega
 have hO:∀u,u<L.length->H.getD u (0:Int)=pZ L 0 1 u:=λu hu=>ao u oM;have bi:H.length=L.length:=by omega
 refine uV ?_;refine gcL (ι:=Nat×Mem) (λ(v,am)=>(MLe mf am/\(v<=L.length/\∀a,a<v->¬eM L 0 1 a/\∀b,b<L.length->¬zCG L 0 1 a b),[(0,vL),(8,C),(11,vI ↑v)],[.gs 3 1 C H.length G],am,L.length-v)) (0,mf) ?_ ?_
 · exact⟨mle,by omega,λa h=>by omega⟩
 rintro⟨v,am⟩ ⟨dj,fa,ai⟩
 refine yW ?_;refine gc9 (λbo=>?_) λbo=>?_
 ·
  refine go9 ?_;refine lX (xI [] v underlying76 uO rL) λeh ci=>(lX (xA uO ci) λeg ch=>(cL (ev1 I) call131 (λw hs=>pR hs ch oM (by first|omega|assumption|exact Nat.le_trans (Nat.not_lt.1 (D _ oM)) dC)) λef h1 M cg=>(cL (ev1 I) call48 (λw hs=>uD hs cg dC) λbz h2 an cf=>?_)));obtain rfl:bz=vI (yR (uW (L.getD v []) 0 1 (L.getD v []).length)):=cf;have df:=yX (uW (L.getD v []) 0 1 (L.getD v []).length);refine gc3 (λU=>?_) λU=>?_
  ·
   refine go9 ?_;refine gqL ((v+1),h2) ?_ ?_
   · exact⟨mle,by omega,wQ (Q:=λa=>¬eM L 0 1 a/\∀b,b<L.length->¬zCG L 0 1 a b) ai (yG2 (yH0 hF (hS v oM) U))⟩
   omega
  refine go8 ?_;refine gcL (ι:=Nat×Mem) (λ(w,mw)=>(MLe h2 mw/\((w<=L.length/\(0<w->¬eM L 0 1 v))/\∀b,b<w->¬zCG L 0 1 v b),[(0,vL),(8,C),(11,vI ↑v),(12,vI ↑w)],[.gs 3 1 C H.length G],mw,L.length-w)) (0,h2) ?_ ?_
  · exact⟨mle,⟨by omega,λh=>by omega⟩,λb h=>by omega⟩
  rintro⟨w,mw⟩ ⟨dw,⟨ez,db⟩,ah⟩
  refine yW ?_;refine gc9 (λbn=>?_) λbn=>?_
  ·
   refine go5 ?_;refine zK 33 _ [] [(0,.q),(1,.q),(2,.q),(3,.q),(4,.q),(5,.q),(6,.q),(7,.q),(8,.q),(9,.q),(10,.q),(11,.q),(12,.q),(13,.q),(14,.q),(15,.q),(16,.q),(17,.q),(18,.q),(19,.q),(20,.q),(21,.q),(22,.q),(23,.q),(24,.q),(25,.q),(26,.q),(27,.q),(28,.q),(29,.c),(30,.q),(31,.q),(32,.q)] yA nX (wJ zou) nX (λr hr=>hr) (go2 ?_);refine w_q I (λh' L' hh hR=>(yU v (hR _ mh0) underlying22 sizeOf3 I I I bO nP).cv (show _=zI 1 C ((v*1+0)) from congrArg (zI 1 C) zo3)) I (aD (F:=λv_=>rpI.Is mw v_ (H.getD v (0:Int))) I (wM ty3 (Pc.arr (Pc.here _) (0:Int) v bO) I nP I J.up I) (tQ mh0) I ?_);intro dv be;obtain⟨rfl,dm,de⟩:=kS be;refine go2 ?_;refine jH ((H.getD v (0:Int))<(0:Int)) (λad=>?_) (λad=>?_)
   ·
    rw[xM ad];refine go23 ?_;refine w_c I (yGG I I I (go22 ?_));refine wK I I I ?_;refine⟨_,?_,(Rp.Is.cast (oT _) (by exact(show uA L 0 1=33/\sJ L 0 1=[] from zEK oM D hS hX (.inl ⟨v,by omega,zRH U (hO v oM) zo4⟩)).2.symm))⟩;rw[(show uA L 0 1=33/\sJ L 0 1=[] from zEK oM D hS hX (.inl ⟨v,by omega,zRH U (hO v oM) zo4⟩)).1]
   rw[yH ad];refine yS I I I (λh' L' hh hR=>yZ I) I (yS I I I (λh' L' hh hR=>yZ I) I (go1 ?_));refine yS I I I (λh' L' hh hR=>yZ I) I ?_;refine jH ((↑w:Int)≠(↑v:Int)) (λac=>?_) (λac=>?_)
   ·
    rw[xM ac];refine yS I I I (λh' L' hh hR=>yZ I) I (yS I I I (λh' L' hh hR=>yZ I) I (yS I I I (λh' L' hh hR=>(yU w (hR _ mh0) underlying22 sizeOf3 I I I bO nP).cv (show _=zI 1 C ((w*1+0)) from congrArg (zI 1 C) zo3)) I (lQ (F:=λv_=>rpI.Is mw v_ (H.getD w (0:Int))) I I I (wM ty3 (Pc.arr (Pc.here _) (0:Int) w bO) I nP I J.up I) (tQ mh0) I ?_)));intro du bd;obtain⟨rfl,dl,dd⟩:=kS bd;refine yS I I I (λh' L' hh hR=>yZ I) I (yS I I I (λh' L' hh hR=>yZ I) I (yS I I I (λh' L' hh hR=>(yU v (hR _ mh0) underlying22 sizeOf3 I I I bO nP).cv (show _=zI 1 C ((v*1+0)) from congrArg (zI 1 C) zo3)) I (lQ (F:=λv_=>rpI.Is mw v_ (H.getD v (0:Int))) I I I (wM ty3 (Pc.arr (Pc.here _) (0:Int) v bO) I nP I J.up I) (tQ mh0) I ?_)));intro dt bc;obtain⟨rfl,dk,dc⟩:=kS bc;refine go2 ?_;refine yS I I I (λh' L' hh hR=>yZ I) I ?_;refine jH ((H.getD w (0:Int))=(H.getD v (0:Int))) (λab=>?_) (λab=>?_)
    ·
     rw[xM ab];refine yS I I I (λh' L' hh hR=>yZ I) I (yS I I I (λh' L' hh hR=>yZ I) I (oX I (xI [] w underlying76 uO rL) λdr bb=>(oX I (xA uO bb) λdq ba=>(yS I I I (λh' L' hh hR=>yZ I) I (yS I I I (λh' L' hh hR=>yZ I) I (oX I (xI [] v underlying76 uO rL) λdp az=>(oX I (xA uO az) λdn ay=>?_)))))));refine w_c I (zA6 I I (sC (ev2 I I) call133 (λw hs=>zDP hs ba ay oM (by first|omega|assumption|exact Nat.le_trans (Nat.not_lt.1 (D _ oM)) dC) (by first|omega|assumption|exact Nat.le_trans (Nat.not_lt.1 (D _ oM)) dC)) λap h3 bj ax=>?_));obtain rfl:ap=vI (wiZ (L.getD w []) (L.getD v []) 0 1):=ax;have bx:=mV (L.getD w []) (L.getD v []) 0 1 (L.getD v []).length;refine gc5 (λO=>?_) λO=>?_
     ·
      have aj:zCG L 0 1 v w:=⟨⟨⟨by omega,by have:=zBJ (hO v oM) zo4;rw[<-hO v oM];omega⟩,by rw[<-hO w oM,<-hO v oM];assumption⟩,O⟩;refine zAG ?_;refine wK I I I ?_;refine⟨_,?_,(Rp.Is.cast (oT _) (by exact(show uA L 0 1=33/\sJ L 0 1=[] from zEK oM D hS hX (.inr ⟨v,w,by omega,by omega,aj⟩)).2.symm))⟩;rw[(show uA L 0 1=33/\sJ L 0 1=[] from zEK oM D hS hX (.inr ⟨v,w,by omega,by omega,aj⟩)).1]
     refine go8 ?_;refine gqL ((w+1),h3) ?_ ?_
     · exact⟨mle,⟨by omega,λ_=>zBJ (hO v oM) zo4⟩,wQ (Q:=λb=>¬zCG L 0 1 v b) ah (λe=>O e.2)⟩
     omega
    rw[yH ab];refine go8 ?_;refine w_c I (lW I I I I (tZ ?_));refine gqL ((w+1),mw) ?_ ?_
    · exact⟨mle,⟨by omega,λ_=>zBJ (hO v oM) zo4⟩,wQ (Q:=λb=>¬zCG L 0 1 v b) ah (λe=>absurd e.1.2 (by rw[<-hO w oM,<-hO v oM];assumption))⟩
    omega
   rw[yH ac];refine uG ?_;refine yS I I I (λh' L' hh hR=>yZ I) I (go8 ?_);refine w_c I (lW I I I I (tZ ?_));refine gqL ((w+1),mw) ?_ ?_
   · exact⟨mle,⟨by omega,λ_=>zBJ (hO v oM) zo4⟩,wQ (Q:=λb=>¬zCG L 0 1 v b) ah (λe=>absurd e.1.1.1 oM)⟩
   omega
  refine qM ?_;refine gqL ((v+1),mw) ?_ ?_
  · exact⟨mle,by omega,wQ (Q:=λa=>¬eM L 0 1 a/\∀b,b<L.length->¬zCG L 0 1 a b) ai ⟨db oM,λb hb=>ah b oM⟩⟩
  omega
 have hB:∀a b,a<L.length->b<L.length->¬zCG L 0 1 a b:=λa b ha hb=>(ai a oM).2 b hb;have hL:∀a,a<L.length->¬eM L 0 1 a:=λa ha=>(ai a oM).1;refine sO ?_;refine wS (A:=[]) (ρ:=rpI) J.up ?_;intro h1 M aq;refine wK I I I ?_;refine⟨_,?_,(Rp.Is.cast aq (by exact(show uA L 0 1=0/\sJ L 0 1=H from zXM oM D hS hX hL hB bi hO).2.symm))⟩;rw[(show uA L 0 1=0/\sJ L 0 1=H from zXM oM D hS hX hL hB bi hO).1]
theorem zF4{k m n j:Nat}{vs:Value}{s:Sq}(rs:(tSd k m n j).Is h0 vs s){f:Nat}{vix:Value}{ix:(List Int)}(rix:(rpS rpI).Is h0 vix ix)(hcd0:k<=1000)(hcd1:m<=100000)(hcd2:n<=100000)(hcd3:okS s)(hcd4:f<s.2.1.length)(hcd5:nmP s f)(hcd6:ix.length=s.1.length):
 Calls Tryz.prog 90 #[vs,vI ↑f,vix] w0 (Ret w0 h0 (λh r=>(tFc (4*m+11) (m+n+11)).Is h r (nfF s ix f))):=by
 have id:=hcd3.1.1.1;have ic:=hcd3.1.1.2;have eu:=dW s f;have ik:=yH4 hcd4 hcd5;have cj:=hcd3.2.1 f hcd4;have ew:=aT (s:=s) (f:=↑f) hcd3.2.1;refine cb3 121 vs (vI ↑f) vix func90 hs ?_;refine go2 ?_;refine nB rs λb3 au ak=>(nA (ρ:=(tFc 1 1)) (X:=((zT,(0:Rat)),([],([]:List Nat)))) jE (yC (yC (xO (yI dC)) (yI dC)) (yC wG gH)) λb6 ar dc=>(go4 ?_));refine lX (xB jB pH ak) λhp eo=>(go1 ?_);refine cL (ev2 I I) call111 (λw hs=>zF5 (f:=f) hs eo oM oM oM (by first|omega|exact hcd3.big) (by first|omega|exact hcd3.big) (by first|omega|exact hcd3.big) (by first|omega|exact hcd3.big)) λao h1 ij en=>(go4 ?_);refine zK 15 _ [(14,(8,53,[.bool false,.slice none 0 0,.slice none 0 0,.bool false,.slice none 0 0,.slice none 0 0,.bool false,.slice none 0 0,.slice none 0 0,.bool false,.slice none 0 0,.slice none 0 0,.slice none 0 0,.string ⟨#[]⟩]))] [(0,.q),(1,.q),(2,.q),(3,.q),(4,.q),(5,.q),(7,.q),(8,.q),(9,.q),(10,.q),(11,.q),(12,.q),(6,.c),(13,.q),(14,.a),(15,.t)] yA (jM.cons I I (uR jE I I) jM.nil) (wJ zou) (uU I I kU) (λr hr=>hr) (go1 ?_);refine wX I (xB kR (Pc.snd (Pc.fst pH)) ak) λho em=>(go1 ?_);refine wX I (xI zA f underlying36 pV em) λhn el=>(wX I (xF underlying53 sizeOf50 (Pc.fst pH) el) λhm ek=>(wX I (xA bG ek) λhl ej=>(go1 ?_)));refine wX I (xB kR (Pc.snd (Pc.fst pH)) ak) λhj eg=>(go1 ?_);refine wX I (xI zA f underlying36 pV eg) λhf ef=>(wX I (xF underlying53 sizeOf9 (Pc.snd (Pc.snd pH)) ef) λhd ee=>(wX I (xA ty9 ee) λhc ed=>?_));obtain⟨rfl,cp⟩:=kL ed;refine w_c I (sC (ev1 I) call66 (λw hs=>zTN hs ej oM oM) λhk h2 ii eh=>(wX I (xV (ρ:=(rpP (tPl (4*m+10) (m+n+10)) (rpP rpV qI))) (xZ (ps':=[(0,_),(2,_)]) underlying53 jE I I (bN underlying53) e4z I (yC (yC (xO (yI oM)) (yI oM)) (yC gV gH)) (zD I (Pc.fst (Pc.here _)) eh (zD I (Pc.snd (Pc.snd (Pc.here _))) (cY cp) zO)))) λhb ec=>?_));refine w_a I I (λb8=>?_);have db:(rpP (tPl 1 1) (rpP rpV qI)).R h2 [.bool false,.slice none 0 0,.slice none 0 0,.bool false,.slice none 0 0,.slice none 0 0,.bool false,.slice none 0 0,.slice none 0 0,.bool false,.slice none 0 0,.slice none 0 0,.slice none 0 0,.string ⟨#[]⟩] ((zT,(0:Rat)),((Value.slice none 0 0),([]:List Nat))):=(yC (yC (xO (yI dC)) (yI dC)) (yC gV gH));have bx:=(Le.p (Le.p (Le.t (Le.q (l:=4*m+10) oM)) (Le.q (l:=m+n+10) oM)) (Le.refl _)).R db;refine yK (A:=[]) I (uB sizeOf53 pH bx ec) λcq cf=>(tZ ?_);refine xG 22 1 ?_;have ca:=RL.nil (ρ:=rpS rpI) (h:=h2);refine xG 22 1 ?_;have bz:=RL.nil (ρ:=rpS rpI) (h:=h2);refine gcL (ι:=Nat×List (List Int)×List (List Int)×List Value×Value×List Value×Value×List Value×Mem) (λ(i,D,G,U,C,M,H,J,ma)=>(MLe h2 ma/\((rpP (tPl (4*m+11) (m+n+11)) (rpP rpV qI)).R ma U (scZ (s.2.1.getD f zA).1,(H,(s.2.1.getD f zA).2.2))/\RL (rpS rpI) ma M D/\RL (rpS rpI) ma J G/\H.oneCell'=true/\i<=(s.2.1.getD f zA).2.1.length/\D=zAF s ix f i/\G=ouL s ix f i),[(1,vI ↑f),(2,vix),(3,vP b3 0),(6,vP b6 0),(7,ao),(8,vP b8 0),(9,C),(10,vI ↑i)],[.gs 22 1 H G.length J,.gs 22 1 C D.length M,.var b8 53 U,.var b6 53 ar,.var b3 39 au],ma,(s.2.1.getD f zA).2.1.length-i)) (0,[],[],cq,(.slice none 0 0),[],(.slice none 0 0),[],h2) ?_ ?_
 · exact⟨mle,((Le.p (Le.p (Le.t (Le.q (l:=4*m+11) oM)) (Le.q (l:=m+n+11) oM)) (Le.refl _)).R cf),ca,bz,I,by omega,I,I⟩
 rintro⟨i,D,G,U,C,M,H,J,ma⟩ ⟨ft,ab,aa,ad,bp,ie,hD,hG⟩
 refine yW ?_;have io:D.length<=i:=by rw[hD];exact zP5 s ix f i
 have il:G.length<=i:=by rw[hG];exact pX _ _ i
 refine gc9 (λco=>?_) λco=>?_
 ·
  refine zAG ?_;refine xG 3 1 ?_;have bg:=RL.nil (ρ:=rpI) (h:=ma);refine gcL (ι:=Nat×List Int×Value×List Value×Mem) (λ(q,EL,Z,ah,mb)=>(MLe ma mb/\(RL rpI mb ah EL/\q<=((s.2.1.getD f zA).2.1.getD i []).length/\EL=nwL s ix f i q),[(1,vI ↑f),(2,vix),(3,vP b3 0),(6,vP b6 0),(7,ao),(8,vP b8 0),(9,C),(10,vI ↑i),(11,Z),(12,vI ↑q)],[.gs 3 1 Z EL.length ah,.gs 22 1 H G.length J,.gs 22 1 C D.length M,.var b8 53 U,.var b6 53 ar,.var b3 39 au],mb,((s.2.1.getD f zA).2.1.getD i []).length-q)) (0,[],(.slice none 0 0),[],ma) ?_ ?_
  · exact⟨mle,bg,by omega,I⟩
  rintro⟨q,EL,Z,ah,mb⟩ ⟨fs,aj,ia,hE⟩
  refine yW ?_;have im:EL.length=q:=by rw[hE];exact yY _ _
  have ci:=cj.2 i oM;refine go5 ?_;refine lX (xB kR (Pc.snd (Pc.fst pH)) ak) λha eb=>(go1 ?_);refine lX (xI zA f underlying36 pV eb) λgz ea=>(lX (xF underlying53 sizeOf51 (Pc.snd (Pc.fst pH)) ea) λgy dz=>(lX (xA pW dz) λgx dy=>(go1 ?_)));refine lX (xI [] i underlying51 fK dy) λgw dx=>(lX (xA fK dx) λgu hq=>(gc4 (λcn=>?_) λcn=>?_))
  ·
   refine go8 ?_;refine lX (xB kR (Pc.snd (Pc.fst pH)) ak) λgt dw=>(go1 ?_);refine lX (xI zA f underlying36 pV dw) λgr dv=>(lX (xF underlying53 sizeOf51 (Pc.snd (Pc.fst pH)) dv) λgq du=>(lX (xA pW du) λgo dt=>(go1 ?_)));refine lX (xI [] i underlying51 fK dt) λgn dr=>(lX (xA fK dr) λgm dq=>(go1 ?_));refine lX (xI (0:Int) q underlying22 ty3 dq) λgk dp=>(lX (xA ty3 dp) λgj dn=>?_);obtain⟨rfl,fv,fp⟩:=kS dn;refine zHW (F:=λv_=>AtP rpI mb v_ (ix.getD ((((s.2.1.getD f zA).2.1.getD i []).getD q 0).toNat) (0:Int))) (rI (0:Int) ((((s.2.1.getD f zA).2.1.getD i []).getD q 0).toNat) underlying22 ty3 I I rix.up (by(have:=hcd5 i oM q oM;omega)) (by(have:=hcd5 i oM q oM;omega)) nP) zBN I ?_;intro gh dm;refine lX (xA ty3 dm) λgg dl=>?_;obtain⟨rfl,fu,fo⟩:=kS dl;refine zG (zL (ρ:=rpI) (m:=1) (xs:=[(ix.getD ((((s.2.1.getD f zA).2.1.getD i []).getD q 0).toNat) (0:Int))]) (ps':=[(0,_)]) underlying22 jV I I I wL e2z (zD I (Pc.arr (Pc.here _) (0:Int) 0 dC) (wH oM oM) zO) zoj nP) I I I ?_
   rintro gf hw ⟨fx,rfl,ce⟩
   refine zP (A:=[]) (ρ:=rpI) ce ?_;intro h3 cm bc;refine xL (A:=[]) (vX (zU (ρ:=rpI) (bytes:=8) underlying22 jV I I I I nP I I aj.up bc bO bO)) I I I ?_
   rintro da hv ⟨fq,cu,rfl,cd⟩
   refine go9 ?_;refine gqL ((q+1),(EL++[(ix.getD ((((s.2.1.getD f zA).2.1.getD i []).getD q 0).toNat) (0:Int))]),da,cu,h3) ?_ ?_
   · exact⟨mle,cd,by omega,by rw[hE];rfl⟩
   omega
  have eq:q=((s.2.1.getD f zA).2.1.getD i []).length:=by omega
  have ci:=cj.2 i oM;refine go8 ?_;refine zP (A:=[]) (ρ:=rpI) aj.up ?_;intro h3 cm bb;refine cL (ev1 I) call138 (λw hs=>zPH hs bb oM) λbw h4 cl am=>?_;replace am:=Rp.Is.cast (y:=(nfL s ix f i)) am (by rw[hE,eq];rfl);refine go8 ?_;refine lX (xI [] i underlying76 uO en) λge dk=>(lX (xA uO dk) λgc dj=>(cL (ev1 I) call131 (λw hs=>pR hs dj oM (by first|omega|(have:=ew.2 i;rw[<-eu.2 i] at this;omega))) λgb h5 ih di=>(cL (ev1 I) call48 (λw hs=>uD hs di dC) λcz h6 ig dh=>?_)));obtain rfl:cz=vI (yR (uW ((gR s f).getD i []) 0 1 ((gR s f).getD i []).length)):=dh;have ep:=yX (uW ((gR s f).getD i []) 0 1 ((gR s f).getD i []).length);refine gc3 (λac=>?_) λac=>?_
  ·
   refine go3 ?_;refine lX (tX (xB pW (Pc.snd (Pc.fst pH)) ab)) λga df=>?_;subst df;refine go1 ?_;refine zG (zL (ρ:=(rpS rpI)) (m:=1) (xs:=[(nfL s ix f i)]) (ps':=[(0,_)]) underlying51 qX I I I wG e2z (zD I (Pc.arr (Pc.here _) [] 0 dC) am.up zO) zoj nP) I I I ?_
   rintro fz hu ⟨fw,rfl,cc⟩
   refine zP (A:=[]) (ρ:=(rpS rpI)) cc ?_;intro h7 br ba;refine xL (A:=[]) (vX (zU (ρ:=(rpS rpI)) (bytes:=24) underlying51 qX I I I I nP I I ad.up ba bO bO)) I I I ?_
   rintro cy ht ⟨av,ct,rfl,cb⟩
   refine go1 ?_;refine zW (A:=[_,_]) (uB sizeOf51 (Pc.snd (Pc.fst pH)) ab (oS av)) λbu bm=>(qM ?_);refine gqL ((i+1),D,(G++[(nfL s ix f i)]),bu,C,M,cy,ct,h7) ?_ ?_
   · exact⟨mle,bm,aa.up,cb,av,by omega,by rw[hD];exact(if_pos ac).symm,by rw[hG];exact zA2 (p:=zD5 s f) ac⟩
   omega
  refine go5 ?_;refine gv (jZ mh1 underlying51 I) I (go5 ?_);refine gcL (ι:=Nat×Mem) (λ(O,mk)=>(MLe h6 mk/\(O<=D.length/\aM (zYJ (nfL s ix f i) D) D.length=aM (zYJ (nfL s ix f i) D) O),[(1,vI ↑f),(2,vix),(3,vP b3 0),(6,vP b6 0),(7,ao),(8,vP b8 0),(9,C),(10,vI ↑i),(11,bw),(13,vI ↑O)],[.gs 22 1 H G.length J,.gs 22 1 C D.length M,.var b8 53 U,.var b6 53 ar,.var b3 39 au],mk,O)) (D.length,h6) ?_ ?_
  · exact⟨mle,by omega,I⟩
  rintro⟨O,mk⟩ ⟨fr,ib,ck⟩
  refine yW ?_;refine go5 ?_;refine qB (ι:=Mem) 10 (λm_=>MLe mk m_) (λ_=>[(97,vB (((0:Int)<(↑O:Int))/\((cI (nfL s ix f i) (D.getD (O-1) []))<(0:Int)))),(1,vI ↑f),(2,vix),(3,vP b3 0),(6,vP b6 0),(7,ao),(8,vP b8 0),(9,C),(10,vI ↑i),(11,bw),(13,vI ↑O)]) (λ_=>[.gs 22 1 H G.length J,.gs 22 1 C D.length M,.var b8 53 U,.var b6 53 ar,.var b3 39 au]) (λm_=>m_) ?_ ?_
  ·
   refine zY ((0:Int)<(↑O:Int)) (λhg=>?_) (λhg=>?_)
   ·
    refine gT hg I (go9 ?_);refine gv ((yU (O-1) mh1 underlying51 sizeOf22 I I oM oM nP).cv (show _=zI 1 C (((O-1)*1+0)) from congrArg (zI 1 C) zo3)) I (go1 ?_);refine zHW (F:=λv_=>(rpS rpI).Is mk v_ (D.getD (O-1) [])) (wM fK (Pc.arr (Pc.here _) [] (O-1) oM) I nP I aa.up I) (tQ mh1) I ?_;intro fy de;refine go1 ?_;refine cL (ev2 I I) call139 (λw hs=>zDU hs am.up de) λcw h7 br dd=>?_;obtain rfl:cw=vI (cI (nfL s ix f i) (D.getD (O-1) [])):=dd;have ev:=zAJ (nfL s ix f i) (D.getD (O-1) []);refine go4 ?_;refine zS h7 br ⟨?_,I,I,I,I,I,I,I,I,I,I,trivial⟩ I I;exact congrArg some (xD hg)
   refine gF hg I (uG ?_);refine zS mk (MLe.refl _) ⟨?_,I,I,I,I,I,I,I,I,I,I,trivial⟩ I I;exact congrArg some (xE hg)
  intro ap bv;refine tY ?_;refine gc2 (λan=>?_) λan=>?_
  ·
   refine go9 ?_;refine gqL ((O-1),ap) ?_ ?_ (he:=⟨I,I,I,I,I,I,I,I,I,congrArg (λz=>some (vI z)) oM,trivial⟩)
   · exact⟨mle,by omega,by rw[ck];exact zQD oM an.2⟩
   omega
  refine go8 ?_;refine zG (zL (ρ:=(rpS rpI)) (m:=1) (xs:=[[]]) (ps':=[(0,_)]) underlying51 qX I I I wG e2z (zD I (Pc.arr (Pc.here _) [] 0 dC) (oT _) zO) zoj nP) I I I ?_
  rintro fi fm ⟨fc,rfl,bj⟩
  refine zP (A:=[]) (ρ:=(rpS rpI)) bj ?_;intro h7 br az;refine xL (A:=[_]) (vX (zU (ρ:=(rpS rpI)) (bytes:=24) underlying51 qX I I I I nP I I aa.up az bO bO)) I I I ?_
  rintro ai fl ⟨er,fb,rfl,bi⟩
  refine go4 ?_;refine lH (A:=[_]) (by rw[lAz];exact Nat.succ_pos _) (λob ip bn bo=>?_);refine qG (A:=[_]) 8 [] [(0,.q),(1,.q),(2,.q),(3,.q),(4,.q),(5,.q),(6,.q),(7,.c)] yA nX zou nX (go3 ?_);refine wI I (λ_ _=>jI (O+1) underlying51 sizeOf22 I I ⟨_,_,bn,bo⟩ oM zo0) I (go2 ?_);refine wI I (λ_ _=>jI O underlying51 sizeOf22 I I ⟨_,_,bn,bo⟩ oM zo0) I ?_;refine w_c I (fF (A:=[_]) (λX=>mB (ρ:=(rpS rpI)) O bn bo underlying51 sizeOf22 I I zo0 bi) I (xJ zoy) ?_)
  rintro fh fk ⟨ez,rfl,bf⟩
  refine go6 ?_;refine gv ((yU O mh1 underlying51 sizeOf22 I I oM (by rw[fL zo0];simp only[lAz,lC,lN];omega) nP).cv (show _=zI 1 ai ((O*1+0)) from congrArg (zI 1 ai) zo3)) I (fT (A:=[_]) (F:=λc_=>RL (rpS rpI) h7 c_ ((sE (D++[[]]) O).set O (nfL s ix f i))) (rU sizeOf22 (Pc.arr (Pc.here _) [] O (by rw[fL zo0];simp only[lAz,lC,lN];omega)) I nP I I bf am.up I) ?_);intro bt be;refine go8 ?_;refine gqL ((i+1),((sE (D++[[]]) O).set O (nfL s ix f i)),G,U,ai,bt,H,J,h7) ?_ ?_
  · exact⟨mle,ab.up,be,ad.up,bp,by omega,by rw[nZ oM];have es:aM (zYJ (nfL s ix f i) D) D.length=O:=by{rw[ck];exact zHC (λe=>an ⟨by omega,e.2⟩)};rw[<-es,hD];exact(if_neg ac).symm,by rw[hG];exact zA3 (p:=zD5 s f) ac⟩
  omega
 have ei:i=(s.2.1.getD f zA).2.1.length:=by omega
 refine go8 ?_;refine lX (tX (xB pW (Pc.snd (Pc.fst pH)) ab)) λfg ch=>?_;subst ch;refine go1 ?_;refine zP (A:=[_]) (ρ:=(rpS rpI)) aa.up ?_;intro h3 cm ay;refine xL (A:=[]) (vX (zU (ρ:=(rpS rpI)) (bytes:=24) underlying51 qX I I I I nP I I ad.up ay bO bO)) I I I ?_
 rintro ff fj ⟨bq,fa,rfl,bh⟩
 refine go1 ?_;refine zW (A:=[_]) (uB sizeOf51 (Pc.snd (Pc.fst pH)) ab (oS bq)) λbs ae=>(go4 ?_);refine zP (A:=[]) (ρ:=(rpS rpI)) bh ?_;intro h4 cl ax;replace ae:=ae.mono cl;have bl:(tFc (4*m+11) (m+n+11)).R h4 bs ((scZ (s.2.1.getD f zA).1,(H,(s.2.1.getD f zA).2.2)).1,((G++D),((scZ (s.2.1.getD f zA).1,(H,(s.2.1.getD f zA).2.2)).2).2)):=zEV ae ax;refine lX (xB pV pH bl) λfe cg=>?_;have aw:=(Le.p (Le.p (Le.t (Le.q (l:=4*m+11) oM)) (Le.q (l:=m+n+11) oM)) (Le.refl _)).R dc;refine zW (A:=[_]) (uB sizeOf53 pH aw cg) λey bk=>(go3 ?_);refine wT (kJ (t:=6) pV mh1 I bk) ?_;intro fd aq bd;refine yV (λE S=>zV I aq E S) ?_;exact(Rp.Is.cast bd (by rw[hD,hG,ei];rfl))
theorem zTM{k m n j:Nat}{vs:Value}{s:Sq}(rs:(tSd k m n j).Is h0 vs s)(hcd0:s.2.1.length<=100000):
 Calls Tryz.prog 141 #[vs] w0 (Ret w0 h0 (λh r=>(rpS tE5).Is h r (szZ s))):=by
 refine cb1 52 vs func141 hs ?_;refine go2 ?_;refine nB rs λb1 au M=>(rA ?_);refine xG 200 5 ?_;have ai:=RL.nil (ρ:=rpP rpI (rpP rpI (rpP rpI (rpP rpI rpI)))) (h:=h0);refine gcL (ι:=Nat×List (Int×Int×Int×Int×Int)×Value×List Value×Mem) (λ(f,D,G,H,mf)=>(MLe h0 mf/\(RL tE5 mf H D/\f<=s.2.1.length/\D=yFQ s f),[(1,vP b1 0),(3,G),(4,vI ↑f)],[.gs 200 5 G D.length H,.var b1 39 au],mf,s.2.1.length-f)) (0,[],(.slice none 0 0),[],h0) ?_ ?_
 · exact⟨mle,ai,by omega,I⟩
 rintro⟨f,D,G,H,mf⟩ ⟨bj,J,ci,hD⟩
 refine yW ?_;have cj:D.length<=f:=by rw[hD];exact pX _ _ f
 refine go5 ?_;refine lX (xB kR (Pc.snd (Pc.fst pH)) M) λv7 r7=>(gc4 (λbi=>?_) λbi=>?_)
 ·
  refine go7 ?_;refine lX (xB kR (Pc.snd (Pc.fst pH)) M) λca bg=>(go1 ?_);refine lX (xI zA f underlying36 pV bg) λbz bf=>(lX (xF underlying53 sizeOf51 (Pc.snd (Pc.fst pH)) bf) λbx be=>(lX (xA pW be) λbw bd=>(cL (ev1 I) call178 (λw hs=>iK hs bd) λax h1 ap bc=>?_)));obtain rfl:ax=vB (vfP (((s.2.1.getD f zA).2).1)):=bc;refine go1 ?_;refine qB (ι:=Mem) 6 (λm_=>MLe h1 m_) (λ_=>[(25,vB ((¬(vfP (((s.2.1.getD f zA).2).1)))\/(¬(nmP s (↑f:Int).toNat)))),(1,vP b1 0),(3,G),(4,vI ↑f)]) (λ_=>[.gs 200 5 G D.length H,.var b1 39 au]) (λm_=>m_) ?_ ?_
  ·
   refine zY (¬(vfP (((s.2.1.getD f zA).2).1))) (λC=>?_) (λC=>?_)
   ·
    refine gT C I (go6 ?_);refine zS h1 (MLe.refl _) ⟨?_,I,I,I,trivial⟩ I I;exact congrArg some (vD C)
   refine gF C I (go1 ?_);refine lX (xB jB pH M) λbv bb=>(go3 ?_);refine cL (ev2 I I) call158 (λw hs=>zIR hs bb oM oM oM (by first|omega|exact Nat.le_trans (Classical.not_not.1 C).1.2 dC|exactλl hl=>Nat.le_trans ((Classical.not_not.1 C).2 l hl).1.2 dC) (by first|omega|exact Nat.le_trans (Classical.not_not.1 C).1.2 dC|exactλl hl=>Nat.le_trans ((Classical.not_not.1 C).2 l hl).1.2 dC) (by first|omega|exact Nat.le_trans (Classical.not_not.1 C).1.2 dC|exactλl hl=>Nat.le_trans ((Classical.not_not.1 C).2 l hl).1.2 dC)) λaw h2 aa ba=>?_;obtain rfl:aw=vB (nmP s (↑f:Int).toNat):=ba;refine go4 ?_;refine zS h2 aa ⟨?_,I,I,I,trivial⟩ I I;exact congrArg some (vG C)
  intro U ao;refine tY ?_;refine gc2 (λO=>?_) λO=>?_
  ·
   have Z:szP s f:=O;refine go3 ?_;refine cL (vs:=[vI (1),_,vI (-1),vI (-1)]) e4z call179 (λw hs=>s8 hs dC dC oM oM dC dC dC dC) λbu h2 aa az=>(zG (zL (ρ:=tE5) (m:=1) (xs:=[dg (1:Int) (↑f:Int) (-1:Int) (-1:Int)]) (ps':=[(0,_)]) underlying133 jR I I I (yC wL (yC wL (yC wL (yC wL wL)))) e2z (zD I (Pc.arr (Pc.here _) e50 0 dC) az zO) zoi nP) I I I ?_)
   rintro bt ch ⟨bm,rfl,an⟩
   refine zP (A:=[]) (ρ:=tE5) an ?_;intro h3 bh ah;refine xL (A:=[]) (zU (ρ:=tE5) (bytes:=40) underlying133 jR I I I I nP I I J.up ah bO bO) I I I ?_
   rintro av cg ⟨ar,rfl,am⟩
   refine go9 ?_;refine gqL ((f+1),(D++[dg (1:Int) (↑f:Int) (-1:Int) (-1:Int)]),av,ar,h3) ?_ ?_
   · exact⟨mle,am,by omega,by rw[hD];exact zA2 Z⟩
   omega
  have Z:¬szP s f:=O;refine go8 ?_;refine gqL ((f+1),D,G,H,U) ?_ ?_
  · exact⟨mle,J.up,by omega,by rw[hD];exact zA3 Z⟩
  omega
 have ef:f=s.2.1.length:=by omega
 refine go9 ?_;refine lX (xB uO (Pc.fst pH) M) λbs cd=>(go2 ?_);refine gU 6 40 (vB (((512:Int)<(↑(s.1).length:Int))\/((256:Int)<(↑(s.2.1).length:Int)))) ?_ ?_
 ·
  refine zY ((512:Int)<(↑(s.1).length:Int)) (λC=>?_) (λC=>?_)
  ·
   refine gT C I (go6 ?_);refine gqU ?_;exact congrArg some (vD C)
  refine gF C I (go3 ?_);refine lX (xB kR (Pc.snd (Pc.fst pH)) M) λbr cc=>(go6 ?_);refine gqU ?_;exact congrArg some (vG C)
 refine gU 6 46 (vB ((((512:Int)<(↑(s.1).length:Int))\/((256:Int)<(↑(s.2.1).length:Int)))\/((1024:Int)<(↑(s.2.2).length:Int)))) ?_ ?_
 ·
  refine zY (((512:Int)<(↑(s.1).length:Int))\/((256:Int)<(↑(s.2.1).length:Int))) (λC=>?_) (λC=>?_)
  ·
   refine gT C I (go6 ?_);refine gqU ?_;exact congrArg some (vD C)
  refine gF C I (go3 ?_);refine lX (xB yE0 (Pc.snd (Pc.snd pH)) M) λbq cb=>(go6 ?_);refine gqU ?_;exact congrArg some (vG C)
 refine gc2 (λaq=>?_) λaq=>?_
 ·
  have ab:zN3 s:=by unfold zN3;omega
  refine go2 ?_;refine cL (vs:=[vI (2),vI (-1),vI (-1),vI (-1)]) e4z call179 (λw hs=>s8 hs dC dC dC dC dC dC dC dC) λbp h1 ap ay=>(zG (zL (ρ:=tE5) (m:=1) (xs:=[dg (2:Int) (-1:Int) (-1:Int) (-1:Int)]) (ps':=[(0,_)]) underlying133 jR I I I (yC wL (yC wL (yC wL (yC wL wL)))) e2z (zD I (Pc.arr (Pc.here _) e50 0 dC) ay zO) zoi nP) I I I ?_)
  rintro bo cf ⟨bl,rfl,ak⟩
  refine zP (A:=[]) (ρ:=tE5) ak ?_;intro h2 aa ae;refine xL (A:=[]) (zU (ρ:=tE5) (bytes:=40) underlying133 jR I I I I nP I I J.up ae bO bO) I I I ?_
  rintro bn ce ⟨bk,rfl,aj⟩
  refine uG ?_;refine wS (A:=[]) (ρ:=tE5) aj ?_;intro h3 bh ad;refine zC I I ?_;exact(Rp.Is.cast ad (by rw[hD,ef];exact(if_pos ab).symm))
 have ab:¬zN3 s:=by unfold zN3;omega
 refine go9 ?_;refine wS (A:=[]) (ρ:=tE5) J.up ?_;intro h1 ap ac;refine zC I I ?_;exact(Rp.Is.cast ac (by rw[hD,ef];exact(if_neg ab).symm))
theorem zTK{k m n j:Nat}{vs:Value}{s:Sq}(rs:(tSd k m n j).Is h0 vs s)(hcd0:s.1.length<=100000)(hcd1:k<=100000000):
 Calls Tryz.prog 142 #[vs] w0 (Ret w0 h0 (λh r=>(rpS tE5).Is h r (zLK s s.1.length))):=by
 refine cb1 35 vs func142 hs ?_;refine go2 ?_;refine nB rs λb1 aj U=>(rA ?_);refine xG 200 5 ?_;have aa:=RL.nil (ρ:=rpP rpI (rpP rpI (rpP rpI (rpP rpI rpI)))) (h:=h0);refine gcL (ι:=Nat×List (Int×Int×Int×Int×Int)×Value×List Value×Mem) (λ(f,D,C,G,mf)=>(MLe h0 mf/\(RL tE5 mf G D/\f<=s.1.length/\D=zLK s f),[(1,vP b1 0),(3,C),(4,vI ↑f)],[.gs 200 5 C D.length G,.var b1 39 aj],mf,s.1.length-f)) (0,[],(.slice none 0 0),[],h0) ?_ ?_
 · exact⟨mle,aa,by omega,I⟩
 rintro⟨f,D,C,G,mf⟩ ⟨ay,H,bo,hD⟩
 refine yW ?_;have bp:D.length<=f:=by rw[hD];exact pX _ _ f
 refine go5 ?_;refine lX (xB uO (Pc.fst pH) U) λv8 r8=>(gc4 (λah=>?_) λah=>?_)
 ·
  refine uG ?_;refine gcL (ι:=Nat×Mem) (λ(q,mb)=>(MLe mf mb/\(q<=f/\∀u,u<q->¬gp s.1 f=gp s.1 u),[(1,vP b1 0),(3,C),(4,vI ↑f),(5,vI ↑q)],[.gs 200 5 C D.length G,.var b1 39 aj],mb,f-q)) (0,mf) ?_ ?_
  · exact⟨mle,by omega,λu h=>by omega⟩
  rintro⟨q,mb⟩ ⟨az,bl,ad⟩
  refine yW ?_;refine gc8 (λae=>?_) λae=>?_
  ·
   refine go5 ?_;refine zK 11 _ [] [(0,.q),(1,.q),(2,.q),(3,.q),(4,.q),(5,.q),(6,.q),(7,.q),(8,.q),(9,.q),(10,.c)] yA nX zou nX (λr hr=>hr) (go1 ?_);refine wX I (xB uO (Pc.fst pH) U) λbi aw=>(go1 ?_);refine wX I (xI zT f underlying35 zM aw) λbh av=>(wX I (xA zM av) λbg au=>(go1 ?_));refine wX I (xB uO (Pc.fst pH) U) λbf ar=>(go1 ?_);refine wX I (xI zT q underlying35 zM ar) λbe aq=>(wX I (xA zM aq) λbd ap=>?_);refine w_c I (sC (ev2 I I) call35 (λw hs=>zIO hs au ap oM) λam h1 ax ao=>?_);obtain rfl:am=vB ((s.1.getD f zT)=(s.1.getD q zT)):=ao;refine gc2 (λJ=>?_) λJ=>?_
   ·
    have Z:twP s f:=⟨q,by omega,J⟩;refine go4 ?_;refine cL (vs:=[vI (37),vI (-1),vI (-1),_]) e4z call179 (λw hs=>s8 hs dC dC dC dC dC dC oM oM) λbc h2 bn an=>(zG (zL (ρ:=tE5) (m:=1) (xs:=[dg (37:Int) (-1:Int) (-1:Int) (↑f:Int)]) (ps':=[(0,_)]) underlying133 jR I I I (yC wL (yC wL (yC wL (yC wL wL)))) e2z (zD I (Pc.arr (Pc.here _) e50 0 dC) an zO) zoi nP) I I I ?_)
    rintro bb bk ⟨ba,rfl,ac⟩
    refine zP (A:=[]) (ρ:=tE5) ac ?_;intro h3 bm O;refine xL (A:=[]) (zU (ρ:=tE5) (bytes:=40) underlying133 jR I I I I nP I I H.up O bO bO) I I I ?_
    rintro ak bj ⟨ai,rfl,ab⟩
    refine rA ?_;refine gqL ((f+1),(D++[dg (37:Int) (-1:Int) (-1:Int) (↑f:Int)]),ak,ai,h3) ?_ ?_
    · exact⟨mle,ab,by omega,by rw[hD];exact zA2 Z⟩
    omega
   refine go8 ?_;refine gqL ((q+1),h1) ?_ ?_
   · exact⟨mle,by omega,wQ (Q:=λu=>¬gp s.1 f=gp s.1 u) ad J⟩
   omega
  have Z:¬twP s f:=λ⟨u,h1,h2⟩=>ad u oM h2;refine qM ?_;refine gqL ((f+1),D,C,G,mb) ?_ ?_
  · exact⟨mle,H.up,by omega,by rw[hD];exact zA3 Z⟩
  omega
 have ef:f=s.1.length:=by omega
 refine uV ?_;refine wS (A:=[]) (ρ:=tE5) H.up ?_;intro h1 ax M;refine zC I I ?_;exact(Rp.Is.cast M (by rw[hD,ef]))
theorem zPI{k m n j:Nat}{vs:Value}{s:Sq}(rs:(tSd k m n j).Is h0 vs s)(hcd0:k<=1000)(hcd1:m<=100000)(hcd2:n<=100000)(hcd3:s.1.length<=100000)(hcd4:∀f,f<s.2.1.length->(s.2.1.getD f zA).2.1.length<=10000/\∀l,l<(s.2.1.getD f zA).2.1.length->((s.2.1.getD f zA).2.1.getD l []).length<=10000)(hcd5:s.2.1.length<=1000)(hcd6:s.1.length<=100000)(hcd7:∀f,f<s.2.1.length->(s.2.1.getD f zA).2.1.length<=16/\∀l,l<(s.2.1.getD f zA).2.1.length->((s.2.1.getD f zA).2.1.getD l []).length<=64):
 Calls Tryz.prog 143 #[vs] w0 (Ret w0 h0 (λh r=>(rpS tE5).Is h r (plZ s))):=by
 refine cb1 74 vs func143 hs ?_;refine go2 ?_;refine nB rs λb1 aq an=>(zAG ?_);refine xG 200 5 ?_;have az:=RL.nil (ρ:=rpP rpI (rpP rpI (rpP rpI (rpP rpI rpI)))) (h:=h0);refine xG 200 5 ?_;have ay:=RL.nil (ρ:=rpP rpI (rpP rpI (rpP rpI (rpP rpI rpI)))) (h:=h0);refine gcL (ι:=Nat×List (Int×Int×Int×Int×Int)×List (Int×Int×Int×Int×Int)×Value×List Value×Value×List Value×Mem) (λ(f,D,G,ab,ac,J,aa,ma)=>(MLe h0 ma/\(RL tE5 ma ac D/\RL tE5 ma aa G/\f<=s.2.1.length/\D=zSI s f/\G=zPC s f),[(1,vP b1 0),(3,ab),(4,J),(5,vI ↑f)],[.gs 200 5 J G.length aa,.gs 200 5 ab D.length ac,.var b1 39 aq],ma,s.2.1.length-f)) (0,[],[],(.slice none 0 0),[],(.slice none 0 0),[],h0) ?_ ?_
 · exact⟨mle,az,ay,by omega,I,I⟩
 rintro⟨f,D,G,ab,ac,J,aa,ma⟩ ⟨cv,ae,ai,em,hD,hG⟩
 refine yW ?_;have eo:D.length<=f:=by rw[hD];exact pX _ _ f
 have en:G.length<=1024*f:=by rw[hG];exact zW2 hcd7 f oM
 have bi:=aT (s:=s) (f:=↑f) hcd7;refine go5 ?_;refine lX (xB kR (Pc.snd (Pc.fst pH)) an) λdz eb=>(gc4 (λbm=>?_) λbm=>?_)
 ·
  refine go4 ?_;refine qZ (ι:=List (Int×Int×Int×Int×Int)×Value×List Value×Mem) (λ(ZR,C,H,mz)=>MLe ma mz/\(RL tE5 mz H ZR/\ZR=zSI s (f+1))) (λ(ZR,C,H,mz)=>[(1,vP b1 0),(3,C),(4,J),(5,vI ↑f)]) (λ(ZR,C,H,mz)=>[.gs 200 5 J G.length aa,.gs 200 5 C ZR.length H,.var b1 39 aq]) (λ(ZR,C,H,mz)=>mz) ?_ ?_
  ·
   refine go3 ?_;refine lX (xB kR (Pc.snd (Pc.fst pH)) an) λdy cm=>(go1 ?_);refine lX (xI zA f underlying36 pV cm) λdx cl=>(lX (xF underlying53 sizeOf50 (Pc.fst pH) cl) λdw ck=>(lX (xF underlying50 sizeOf31 (Pc.fst pH) ck) λdv cj=>(lX (xA zM cj) λdu ci=>(cL (ev1 I) call80 (λw hs=>dP hs ci oM) λbs h1 aj ch=>?_))));obtain rfl:bs=vB ((((s.2.1.getD f zA).1).1)=zT):=ch;refine gc2 (λam=>?_) λam=>?_
   ·
    refine go3 ?_;refine cL (vs:=[vI (9),_,vI (-1),vI (-1)]) e4z call179 (λw hs=>s8 hs dC dC oM oM dC dC dC dC) λdt h2 bh cg=>(zG (zL (ρ:=tE5) (m:=1) (xs:=[dg (9:Int) (↑f:Int) (-1:Int) (-1:Int)]) (ps':=[(0,_)]) underlying133 jR I I I (yC wL (yC wL (yC wL (yC wL wL)))) e2z (zD I (Pc.arr (Pc.here _) e50 0 dC) cg zO) zoi nP) I I I ?_)
    rintro dr eg ⟨db,rfl,be⟩
    refine zP (A:=[]) (ρ:=tE5) be ?_;intro h3 bg aw;refine xL (A:=[_]) (zU (ρ:=tE5) (bytes:=40) underlying133 jR I I I I nP I I ae.up aw bO bO) I I I ?_
    rintro br ee ⟨bo,rfl,bd⟩
    refine go2 ?_;refine zS ((D++[dg (9:Int) (↑f:Int) (-1:Int) (-1:Int)]),br,bo,h3) ?_ e4z I I;refine⟨((aj.trans bh).trans bg),?_⟩;refine⟨bd,?_⟩;exact(by rw[hD];exact zA2 am)
   refine go1 ?_;refine zS (D,ab,ac,h1) ?_ e4z I I;refine⟨aj,?_⟩;refine⟨ae.up,?_⟩;exact(by rw[hD];exact zA3 am)
  rintro⟨ZR,C,H,mz⟩ ⟨cq,hZ⟩
  refine yW ?_;obtain⟨ax,hZ⟩:=hZ;refine go2 ?_;refine lX (xB jB pH an) λdq cf=>(go1 ?_);refine cL (ev2 I I) call118 (λw hs=>zDT hs cf oM oM (by first|omega|exact hcd4) (by first|omega|exact hcd4)) λba h1 aj bf=>(go9 ?_);refine gcL (ι:=Nat×List (Int×Int×Int×Int×Int)×Value×List Value×Mem) (λ(l,G1,O,Z,mb)=>(MLe h1 mb/\(RL tE5 mb Z G1/\l<=(vT s ↑f).length/\G1=zPC s f++ofL s f l),[(1,vP b1 0),(3,C),(4,O),(5,vI ↑f),(6,ba),(7,vI ↑l)],[.gs 200 5 O G1.length Z,.gs 200 5 C ZR.length H,.var b1 39 aq],mb,(vT s ↑f).length-l)) (0,G,J,aa,h1) ?_ ?_
  · exact⟨mle,ai.up,by omega,by rw[hG];exact(List.append_nil _).symm⟩
  rintro⟨l,G1,O,Z,mb⟩ ⟨cu,ah,eh,ap⟩
  refine yW ?_;have cp:=zFU (s:=s) hcd7 f l;have cz:G1.length<=1024*f+1024:=by rw[ap,lAz,<-hG];have:=bi.1;omega
  refine gc9 (λbl=>?_) λbl=>?_
  ·
   refine uG ?_;refine gcL (ι:=Nat×List (Int×Int×Int×Int×Int)×Value×List Value×Mem) (λ(i,G2,M,U,mc)=>(MLe mb mc/\(RL tE5 mc U G2/\i<=((vT s ↑f).getD l []).length/\G2=zPC s f++ofL s f l++ofX s f l i),[(1,vP b1 0),(3,C),(4,M),(5,vI ↑f),(6,ba),(7,vI ↑l),(8,vI ↑i)],[.gs 200 5 M G2.length U,.gs 200 5 C ZR.length H,.var b1 39 aq],mc,((vT s ↑f).getD l []).length-i)) (0,G1,O,Z,mb) ?_ ?_
   · exact⟨mle,ah,by omega,by rw[ap];exact(List.append_nil _).symm⟩
   rintro⟨i,G2,M,U,mc⟩ ⟨ct,ad,ej,ao⟩
   refine yW ?_;have cw:=bi.2 l;have co:(ofX s f l i).length<=i:=pX _ _ i;have cy:G2.length<=1024*f+2048:=by rw[ao,lAz,<-ap];omega
   refine go6 ?_;refine lX (xI [] l underlying76 uO bf) λdp ce=>(lX (xA uO ce) λdn ea=>(gc4 (λbk=>?_) λbk=>?_))
   ·
    refine go5 ?_;refine zK 15 _ [] [(0,.q),(1,.q),(2,.q),(3,.q),(4,.q),(5,.q),(6,.q),(7,.q),(8,.q),(9,.q),(10,.q),(11,.q),(12,.q),(13,.c),(14,.q)] yA nX (wJ zou) nX (λr hr=>hr) (go1 ?_);refine wX I (xB kR (Pc.snd (Pc.fst pH)) an) λdm cd=>(go1 ?_);refine wX I (xI zA f underlying36 pV cd) λdl cc=>(wX I (xF underlying53 sizeOf50 (Pc.fst pH) cc) λdk cb=>(wX I (xA bG cb) λdj ca=>(go2 ?_)));refine wX I (xI [] l underlying76 uO bf) λdi bz=>(wX I (xA uO bz) λdh bx=>(go1 ?_));refine wX I (xI zT i underlying35 zM bx) λdf bw=>(wX I (xA zM bw) λde bv=>?_);refine w_c I (sC (ev2 I I) call23 (λw hs=>zTJ hs ca bv oM oM oM) λbq h2 bh bu=>?_);obtain rfl:bq=vI (yR (xH ((s.2.1.getD f zA).1).1 (((vT s (↑f:Int)).getD l []).getD i zT)-((s.2.1.getD f zA).1).2)):=bu;have cn:=yX (xH ((s.2.1.getD f zA).1).1 (((vT s (↑f:Int)).getD l []).getD i zT)-((s.2.1.getD f zA).1).2);refine gc3 (λak=>?_) λak=>?_
    ·
     refine go5 ?_;refine cL (vs:=[vI (31),_,_,_]) e4z call179 (λw hs=>s8 hs dC dC oM oM oM oM oM oM) λdd h3 bg bt=>(zG (zL (ρ:=tE5) (m:=1) (xs:=[dg (31:Int) (↑f:Int) (↑l:Int) (↑i:Int)]) (ps':=[(0,_)]) underlying133 jR I I I (yC wL (yC wL (yC wL (yC wL wL)))) e2z (zD I (Pc.arr (Pc.here _) e50 0 dC) bt zO) zoi nP) I I I ?_)
     rintro dc ed ⟨da,rfl,bc⟩
     refine zP (A:=[]) (ρ:=tE5) bc ?_;intro h4 ek av;refine xL (A:=[]) (zU (ρ:=tE5) (bytes:=40) underlying133 jR I I I I nP I I ad.up av bO bO) I I I ?_
     rintro bp ec ⟨bn,rfl,bb⟩
     refine go9 ?_;refine gqL ((i+1),(G2++[dg (31:Int) (↑f:Int) (↑l:Int) (↑i:Int)]),bp,bn,h4) ?_ ?_
     · exact⟨mle,bb,by omega,by rw[ao,List.append_assoc,show ofX s f l i++_=_ from zA2 (p:=ofP s f l) ak];rfl⟩
     omega
    refine go8 ?_;refine gqL ((i+1),G2,M,U,h2) ?_ ?_
    · exact⟨mle,ad.up,by omega,by rw[ao,show ofX s f l i=_ from zA3 (p:=ofP s f l) ak];rfl⟩
    omega
   have ei:i=((vT s ↑f).getD l []).length:=by omega
   refine qM ?_;refine gqL ((l+1),G2,M,U,mc) ?_ ?_
   · exact⟨mle,ad.up,by omega,by rw[ao,ei,List.append_assoc];rfl⟩
   omega
  have el:l=(vT s ↑f).length:=by omega
  refine qM ?_;refine gqL ((f+1),ZR,G1,C,H,O,Z,mb) ?_ ?_
  · exact⟨mle,ax.up,ah,by omega,hZ,by rw[ap,el];rfl⟩
  omega
 have ef:f=s.2.1.length:=by omega
 refine go9 ?_;refine gv (jZ mh1 underlying133 I) I (gc3 (λbj=>?_) λbj=>?_)
 ·
  refine go8 ?_;refine wS (A:=[_]) (ρ:=tE5) ae.up ?_;intro h1 aj au;refine zC I I ?_;exact(Rp.Is.cast au (by rw[hD,ef];exact(if_pos (by rw[<-ef,<-hD];omega)).symm))
 refine go9 ?_;refine wS (A:=[]) (ρ:=tE5) ai.up ?_;intro h1 aj ar;refine zC I I ?_;exact(Rp.Is.cast ar (by rw[hG,ef];exact(if_neg (by rw[<-ef,<-hD];omega)).symm))
theorem zIQ{k:Nat}{vL:Value}{L:(List (List Tq))}(rL:(tLL k).Is h0 vL L)(hcd0:k<=100000)(hcd1:∀l,l<L.length->(L.getD l []).length<=1000)(hcd2:L.length<=100000):
 Calls Tryz.prog 86 #[vL] w0 (Ret w0 h0 (λ_ r=>r=vI (ouZ L))):=by
 refine cb1 21 vL func86 hs ?_;refine nR ?_;refine gcL (ι:=Nat×Mem) (λ(m,O)=>(MLe h0 O/\(m<=L.length),[(0,vL),(3,vI (s5 L m)),(4,vI ↑m)],[],O,L.length-m)) (0,h0) ?_ ?_
 · exact⟨mle,oM⟩
 rintro⟨m,O⟩ ⟨aa,ae⟩
 refine yW ?_;have hor:=zBB L m;have ah:=hcd1 m;refine gc9 (λZ=>?_) λZ=>?_
 ·
  refine go8 ?_;refine lX (xI [] m underlying76 uO rL) λad M=>(lX (xA uO M) λac J=>(cL (ev1 I) call131 (λw hs=>pR hs J oM oM) λab h1 aj H=>(cL (ev1 I) call48 (λw hs=>uD hs H dC) λD h2 ai G=>?_)));obtain rfl:D=vI (yR (uW (L.getD m []) 0 1 (L.getD m []).length)):=G;have U:=yX (uW (L.getD m []) 0 1 (L.getD m []).length);refine gc3 (λC=>?_) λC=>?_
  ·
   refine uV ?_;refine gqL ((m+1),h2) ?_ ?_ (he:=⟨I,congrArg (λz=>some (vI z)) (ou_t C),I,trivial⟩)
   · exact⟨mle,oM⟩
   omega
  refine go8 ?_;refine gqL ((m+1),h2) ?_ ?_ (he:=⟨I,congrArg (λz=>some (vI z)) (ou_f C),I,trivial⟩)
  · exact⟨mle,oM⟩
  omega
 refine uV ?_;refine zC I I ?_;have em:m=L.length:=by omega
 subst em
 rfl
theorem zTP{k m n j:Nat}{vs:Value}{s:Sq}(rs:(tSd k m n j).Is h0 vs s)(hcd0:k<=1000)(hcd1:m<=100000)(hcd2:n<=100000)(hcd3:okS s):
 Calls Tryz.prog 144 #[vs] w0 (Ret w0 h0 (λh r=>(rpS tE5).Is h r (neZ s))):=by
 have cl:=hcd3.1.1.1;have ck:=hcd3.1.1.2;refine cb1 45 vs func144 hs ?_;refine go2 ?_;refine nB rs λb1 bh aw=>(zAG ?_);refine xG 200 5 ?_;have ap:=RL.nil (ρ:=rpP rpI (rpP rpI (rpP rpI (rpP rpI rpI)))) (h:=h0);refine xG 200 5 ?_;have ao:=RL.nil (ρ:=rpP rpI (rpP rpI (rpP rpI (rpP rpI rpI)))) (h:=h0);refine gcL (ι:=Nat×List (Int×Int×Int×Int×Int)×List (Int×Int×Int×Int×Int)×Value×List Value×Value×List Value×Mem) (λ(f,D,G,O,U,J,M,ma)=>(MLe h0 ma/\(RL tE5 ma U D/\RL tE5 ma M G/\f<=s.2.1.length/\D=zZN s f/\G=yG5 s f),[(1,vP b1 0),(3,O),(4,J),(5,vI ↑f)],[.gs 200 5 J G.length M,.gs 200 5 O D.length U,.var b1 39 bh],ma,s.2.1.length-f)) (0,[],[],(.slice none 0 0),[],(.slice none 0 0),[],h0) ?_ ?_
 · exact⟨mle,ap,ao,by omega,I,I⟩
 rintro⟨f,D,G,O,U,J,M,ma⟩ ⟨bt,aa,Z,cm,hD,hG⟩
 refine yW ?_;have co:D.length<=f:=by rw[hD];exact pX _ _ f
 have cn:G.length<=f:=by rw[hG];exact pX _ _ f
 have bb:=dW s f;have bc:=aT (s:=s) (f:=↑f) hcd3.2.1;have cj:=zMY (gR s f) 0 1;refine go5 ?_;refine lX (xB kR (Pc.snd (Pc.fst pH)) aw) λcd ce=>(gc4 (λbe=>?_) λbe=>?_)
 ·
  refine go6 ?_;refine lX (xB jB pH aw) λcc bq=>(go1 ?_);refine cL (ev2 I I) call111 (λw hs=>zF5 (f:=f) hs bq oM oM oM (by first|omega|exact hcd3.big) (by first|omega|exact hcd3.big) (by first|omega|exact hcd3.big) (by first|omega|exact hcd3.big)) λbl h1 ba ax=>(go3 ?_);refine qZ (ι:=List (Int×Int×Int×Int×Int)×Value×List Value×Mem) (λ(ZR,H,C,mz)=>MLe h1 mz/\(RL tE5 mz C ZR/\ZR=zZN s (f+1))) (λ(ZR,H,C,mz)=>[(1,vP b1 0),(3,H),(4,J),(5,vI ↑f),(6,bl)]) (λ(ZR,H,C,mz)=>[.gs 200 5 J G.length M,.gs 200 5 H ZR.length C,.var b1 39 bh]) (λ(ZR,H,C,mz)=>mz) ?_ ?_
  ·
   refine go3 ?_;refine cL (ev1 I) call85 (λw hs=>zIN hs ax oM (by first|omega|exact hcd3.2.2 f oM)) λcb h2 an bp=>?_;obtain⟨ae,rfl,am⟩:=bp
   change (rpS rpI).Is h2 ae (sJ (gR s f) 0 1) at am
   refine sO ?_;refine cnd (λad=>?_) λad=>?_
   ·
    refine go4 ?_;refine cL (vs:=[_,_,vI (-1),vI (-1)]) e4z call179 (λw hs=>s8 hs oM oM oM oM dC dC dC dC) λca h3 az bo=>(zG (zL (ρ:=tE5) (m:=1) (xs:=[dg (uA (gR s f) 0 1) (↑f:Int) (-1:Int) (-1:Int)]) (ps':=[(0,_)]) underlying133 jR I I I (yC wL (yC wL (yC wL (yC wL wL)))) e2z (zD I (Pc.arr (Pc.here _) e50 0 dC) bo zO) zoi nP) I I I ?_)
    rintro bz ci ⟨bv,rfl,av⟩
    refine zP (A:=[]) (ρ:=tE5) av ?_;intro h4 ay ak;refine xL (A:=[_]) (zU (ρ:=tE5) (bytes:=40) underlying133 jR I I I I nP I I aa.up ak bO bO) I I I ?_
    rintro bk ch ⟨bg,rfl,au⟩
    refine go2 ?_;refine zS ((D++[dg (uA (gR s f) 0 1) (↑f:Int) (-1:Int) (-1:Int)]),bk,bg,h4) ?_ e5 I I;refine⟨((an.trans az).trans ay),?_⟩;refine⟨au,?_⟩;exact(by rw[hD];exact zA2 ad)
   refine go1 ?_;refine zS (D,O,U,h2) ?_ e5 I I;refine⟨an,?_⟩;refine⟨aa.up,?_⟩;exact(by rw[hD];exact zA3 ad)
  rintro⟨ZR,H,C,mz⟩ ⟨bs,hZ⟩
  refine yW ?_;obtain⟨ab,hZ⟩:=hZ;refine go3 ?_;refine cL (ev1 I) call86 (λw hs=>zIQ hs ax.up oM (by first|omega|exactλl hl=>(by rw[bb.2 l];exact Nat.le_trans (bc.2 l) dC)) (by first|omega|exactλl hl=>(by rw[bb.2 l];exact Nat.le_trans (bc.2 l) dC))) λbj h2 an bn=>?_;obtain rfl:bj=vI (ouZ (gR s f)):=bn;have br:=zBB (gR s f) (gR s f).length;refine gc3 (λac=>?_) λac=>?_
  ·
   refine go3 ?_;refine cL (vs:=[vI (33),_,vI (-1),vI (-1)]) e4z call179 (λw hs=>s8 hs dC dC oM oM dC dC dC dC) λbx h3 az bm=>(zG (zL (ρ:=tE5) (m:=1) (xs:=[dg (33:Int) (↑f:Int) (-1:Int) (-1:Int)]) (ps':=[(0,_)]) underlying133 jR I I I (yC wL (yC wL (yC wL (yC wL wL)))) e2z (zD I (Pc.arr (Pc.here _) e50 0 dC) bm zO) zoi nP) I I I ?_)
   rintro bw cg ⟨bu,rfl,ar⟩
   refine zP (A:=[]) (ρ:=tE5) ar ?_;intro h4 ay aj;refine xL (A:=[]) (zU (ρ:=tE5) (bytes:=40) underlying133 jR I I I I nP I I Z.up aj bO bO) I I I ?_
   rintro bi cf ⟨bf,rfl,aq⟩
   refine go9 ?_;refine gqL ((f+1),ZR,(G++[dg (33:Int) (↑f:Int) (-1:Int) (-1:Int)]),H,C,bi,bf,h4) ?_ ?_
   · exact⟨mle,ab.up,aq,by omega,hZ,by rw[hG];exact zA2 ac⟩
   omega
  refine go8 ?_;refine gqL ((f+1),ZR,G,H,C,J,M,h2) ?_ ?_
  · exact⟨mle,ab.up,Z.up,by omega,hZ,by rw[hG];exact zA3 ac⟩
  omega
 have ef:f=s.2.1.length:=by omega
 refine go9 ?_;refine gv (jZ mh1 underlying133 I) I (gc3 (λbd=>?_) λbd=>?_)
 ·
  refine go8 ?_;refine wS (A:=[_]) (ρ:=tE5) aa.up ?_;intro h1 ba ai;refine zC I I ?_;exact(Rp.Is.cast ai (by rw[hD,ef];exact(if_pos (by rw[<-ef,<-hD];omega)).symm))
 refine go9 ?_;refine wS (A:=[]) (ρ:=tE5) Z.up ?_;intro h1 ba ah;refine zC I I ?_;exact(Rp.Is.cast ah (by rw[hG,ef];exact(if_neg (by rw[<-ef,<-hD];omega)).symm))
theorem zTR{k m n j:Nat}{vs:Value}{s:Sq}(rs:(tSd k m n j).Is h0 vs s)(hcd0:k<=1000)(hcd1:m<=100000)(hcd2:n<=100000)(hcd3:okS s):
 Calls Tryz.prog 97 #[vs] w0 (Ret w0 h0 (λh r=>(rpS tE5).Is h r (zZF s))):=by
 have au:=hcd3.1.1.1;have ar:=hcd3.1.1.2;refine cb1 34 vs func97 hs ?_;refine go2 ?_;refine nB rs λb1 bb C=>(go6 ?_);refine lX (xB jB pH C) λv7 r7=>(cL (ev1 I) call141 (λw hs=>zTM hs r7 (by first|omega|exact hcd3|exact hcd3.big|exact hcd3.mem|exact hcd3.2.1)) λv8 h1 ba r8=>(zC5 (λJ=>?_) λJ=>?_))
 ·
  refine go8 ?_;refine zC I I ?_;exact(Rp.Is.cast r8 (by exact(if_pos oM).symm))
 refine go5 ?_;refine lX (xB jB pH C) λaq ae=>(cL (ev1 I) call142 (λw hs=>zTK hs ae (by first|omega|exact hcd3|exact hcd3.big|exact hcd3.mem|exact hcd3.2.1) oM) λap h2 az ad=>(zC5 (λH=>?_) λH=>?_))
 ·
  refine go8 ?_;refine zC I I ?_;exact(Rp.Is.cast ad (by exact((if_neg oM).trans (if_pos oM)).symm))
 refine go5 ?_;refine lX (xB jB pH C) λao ac=>(cL (ev1 I) call143 (λw hs=>zPI hs ac oM oM oM (by first|omega|exact hcd3|exact hcd3.big|exact hcd3.mem|exact hcd3.2.1) (by first|omega|exact hcd3|exact hcd3.big|exact hcd3.mem|exact hcd3.2.1) (by first|omega|exact hcd3|exact hcd3.big|exact hcd3.mem|exact hcd3.2.1) (by first|omega|exact hcd3|exact hcd3.big|exact hcd3.mem|exact hcd3.2.1) (by first|omega|exact hcd3|exact hcd3.big|exact hcd3.mem|exact hcd3.2.1)) λan h3 ay ab=>(zC5 (λG=>?_) λG=>?_))
 ·
  refine go8 ?_;refine zC I I ?_;exact(Rp.Is.cast ab (by exact((if_neg oM).trans ((if_neg oM).trans (if_pos oM))).symm))
 refine go5 ?_;refine lX (xB jB pH C) λam aa=>(cL (ev1 I) call144 (λw hs=>zTP hs aa oM oM oM (by first|omega|exact hcd3|exact hcd3.big|exact hcd3.mem|exact hcd3.2.1)) λak h4 ax Z=>(zC5 (λD=>?_) λD=>?_))
 ·
  refine go8 ?_;refine zC I I ?_;exact(Rp.Is.cast Z (by exact((if_neg oM).trans ((if_neg oM).trans ((if_neg oM).trans (if_pos oM)))).symm))
 refine go4 ?_;refine lX (xB jB pH C) λaj U=>(cL (ev1 I) call136 (λw hs=>zIS hs U (by first|omega|exact hcd3|exact hcd3.big|exact hcd3.mem|exact hcd3.2.1) (by first|omega|exact hcd3|exact hcd3.big|exact hcd3.mem|exact hcd3.2.1)) λai h5 aw O=>(cL (ev1 I) call145 (λw hs=>zMI hs O) λah h6 av M=>(go4 ?_)));refine zC I I ?_;exact(Rp.Is.cast M (by exact((if_neg oM).trans ((if_neg oM).trans ((if_neg oM).trans (if_neg oM)))).symm))
theorem zTL{k m n j:Nat}{vs:Value}{s:Sq}(rs:(tSd k m n j).Is h0 vs s)(hcd0:k<=1000)(hcd1:m<=100000)(hcd2:n<=100000)(hcd3:okS s):
 Calls Tryz.prog 62 #[vs] w0 (Ret w0 h0 (λ_ r=>r=vB (gK s))):=by
 refine cb1 7 vs func62 hs ?_;refine go2 ?_;refine nB rs λH G C=>(go5 ?_);refine lX (xB jB pH C) λv3 r3=>(cL (ev1 I) call97 (λw hs=>zTR hs r3 oM oM oM (by first|omega|exact hcd3)) λv4 h1 D r4=>(go6 ?_));refine zC I I ?_;exact kF (by unfold gK;omega)
theorem s7{k m n j:Nat}{vs:Value}{s:Sq}(rs:(tSd k m n j).Is h0 vs s)(hcd0:k<=1000)(hcd1:m<=100000)(hcd2:n<=100000)(hcd3:okS s):
 Calls Tryz.prog 47 #[vs] w0 (fW w0 h0 (λh r L_=>∃vF cs,(rpP (tLs (k+1)) (rpP rpV (rpS (rpP rpI (rpP rpI (rpQ (j+1))))))).Is h r (nrP s,(vF,nrE s))/\L_=[.gs 53 14 vF (nrF s).length cs]/\vF.oneCell'=true/\RL (tFc (4*m+12) (m+n+12)) h cs (nrF s))):=by
 have ie:=hcd3.1.1.1;have id:=hcd3.1.1.2;have ic:=hcd3.1.2;refine cb1 100 vs func47 hs ?_;refine go2 ?_;refine nB rs λb1 cu an=>(nA (ρ:=(rpP (tLs 1) (rpP rpV (rpS (rpP rpI (rpP rpI (rpQ 1))))))) (X:=([],((Value.slice none 0 0),[]))) qS (yC wG (yC gV wG)) λb2 ct di=>(go5 ?_));refine lX (xB jB pH an) λho fh=>(cL (ev1 I) call62 (λw hs=>zTL hs fh oM oM oM (by first|omega|exact hcd3)) λeg h1 im fg=>?_);obtain rfl:eg=vB (gK s):=fg;refine gc3 (λai=>?_) λai=>?_
 ·
  refine go2 ?_;refine lX (xV (ρ:=(rpP (tLs 1) (rpP rpV (rpS (rpP rpI (rpP rpI (rpQ 1))))))) (xZ (ps':=[]) underlying39 qS I I (rH underlying39) trivial I (yC wG (yC gV wG)) zO)) λhn ff=>(zW (A:=[]) (uB sizeOf39 pH di ff) λgf dh=>(go4 ?_));rw[show nrF s=[] from if_neg ai];refine aR 53 14 ?_;have db:=RL.nil (ρ:=rpP (tPl (4*m+12) (m+n+12)) (rpP tII qI)) (h:=h1);refine wT (kJ (t:=2) jB mh1 I dh) ?_;intro gj cf cz;refine kO (.cons_cons _ (List.nil_sublist _)) (λE S=>zV I cf E S) ?_;exact⟨_,_,(Rp.Is.cast (Rp.Is.le cz (Le.p (Le.s (Le.t (Le.q (l:=k+1) oM))) (Le.p (Le.refl _) (Le.s (Le.p (Le.refl _) (Le.p (Le.refl _) (Le.q (l:=j+1) oM))))))) (by rw[show nrP s=[] from if_neg ai,show nrE s=[] from if_neg ai])),I,I,db⟩
 refine go4 ?_;refine lX (xB jB pH an) λhm fe=>?_;have bd:gK s:=Classical.not_not.1 ai;have aw:=yFS bd;have ia:(fR s).length<=s.1.length:=zPA s s.1.length;refine cL (ev1 I) call89 (λw hs=>zTO hs fe oM (by first|omega|exact hcd3|exact aw) (by first|omega|exact hcd3|exact aw)) λee h2 il bb=>?_;replace bb:=Rp.Is.cast (y:=(fR s)) bb zo3;refine go6 ?_;refine lX (xB uO (Pc.fst pH) an) λhl hq=>(go1 ?_);refine zG (zIW (ρ:=rpI) (X:=(0:Int)) (by':=8) s.1.length underlying22 jV I I I I wL I I zo3 zo3 bO bO) I I I ?_
 rintro ed hw ⟨dr,rfl,df⟩
 refine go6 ?_;refine lX (xB yE0 (Pc.snd (Pc.snd pH)) an) λhk fd=>(zC2 237 5 ?_);have da:=RL.nil (ρ:=rpP rpI (rpP rpI (rpQ j))) (h:=h2);refine xL (A:=[]) (vX (zU (ρ:=(rpP rpI (rpP rpI (rpQ j)))) (bytes:=72) underlying37 zRL I I I I nP I I da fd bO bO)) I I I ?_
 rintro hj hv ⟨fy,gh,rfl,de⟩
 refine zP (A:=[]) (ρ:=(rpP rpI (rpP rpI (rpQ j)))) de ?_;intro h3 ik cy;refine lX (xV (ρ:=(rpP rpV (rpP rpV (rpS (rpP rpI (rpP rpI (rpQ (j+1)))))))) (xZ (ps':=[(2,_)]) underlying39 qS I I (rH underlying39) e2z I (yC gV (yC gV wG)) (zD I (Pc.snd (Pc.snd (Pc.here _))) (cy.le (Le.s (Le.p (Le.refl _) (Le.p (Le.refl _) (Le.q (l:=j+1) oM))))) zO))) λhg fc=>(nA (ρ:=(rpP rpV (rpP rpV (rpS (rpP rpI (rpP rpI (rpQ 1))))))) (X:=((Value.slice none 0 0),((Value.slice none 0 0),[]))) qS (yC gV (yC gV wG)) λb5 iu ej=>?_);have cw:=(Le.p (Le.refl _) (Le.p (Le.refl _) (Le.s (Le.p (Le.refl _) (Le.p (Le.refl _) (Le.q (l:=j+1) oM)))))).R ej;refine zW (A:=[]) (uB sizeOf39 pH cw fc) λdm bx=>(go9 ?_);refine xG 31 9 ?_;have bt:=RL.nil (ρ:=rpT (rpQ (k+1))) (h:=h3);refine gcL (ι:=Nat×List Int×List Tq×List Value×Value×List Value×Value×List Value×Mem) (λ(i,IX,PS,U,G,au,O,ar,ma)=>(MLe h3 ma/\((rpP rpV (rpP rpV (rpS (rpP rpI (rpP rpI (rpQ (j+1))))))).R ma U (O,(Value.slice none 0 0,s.2.2))/\RL rpI ma au IX/\RL (tPt (k+1)) ma ar PS/\O.oneCell'=true/\i<=(fR s).length/\IX=zHU s i/\PS=zXF s i),[(1,vP b1 0),(2,vP b2 0),(3,ee),(4,G),(5,vP b5 0),(6,vI ↑i)],[.gs 31 9 O PS.length ar,.var b5 39 U,.gs 3 1 G IX.length au,.var b2 39 ct,.var b1 39 cu],ma,(fR s).length-i)) (0,(List.replicate s.1.length (0:Int)),[],dm,ed,dr,(.slice none 0 0),[],h3) ?_ ?_
 · exact⟨mle,bx,df.up,bt,I,by omega,I,I⟩
 rintro⟨i,IX,PS,U,G,au,O,ar,ma⟩ ⟨gb,J,ay,ax,fl,ig,hI,hP⟩
 refine yW ?_;have ip:IX.length=s.1.length:=by rw[hI];exact zC0 s i
 have io:PS.length=i:=by rw[hP];exact yY _ _
 refine gc9 (λdk=>?_) λdk=>?_
 ·
  refine go9 ?_;refine lX (xI (0:Int) i underlying22 ty3 bb) λhf fb=>(lX (xA ty3 fb) λhd fa=>?_);obtain⟨rfl,ge,fx⟩:=kS fa;refine go1 ?_;refine gv ((yU (((fR s).getD i 0).toNat) mh2 underlying22 sizeOf3 I I (by(have:=oD (s:=s) (i:=s.1.length) (k:=i) (show i<(aI s s.1.length).length by show i<(fR s).length;omega);show _;have h2:0<=(fR s).getD i 0/\(fR s).getD i 0<↑s.1.length:=this;omega)) (by(have:=oD (s:=s) (i:=s.1.length) (k:=i) (show i<(aI s s.1.length).length by show i<(fR s).length;omega);show _;have h2:0<=(fR s).getD i 0/\(fR s).getD i 0<↑s.1.length:=this;omega)) nP).cv (show _=zI 1 G ((((fR s).getD i 0).toNat*1+0)) from congrArg (zI 1 G) zo3)) I (fT (A:=[_,_]) (F:=λc_=>RL rpI ma c_ (IX.set (((fR s).getD i 0).toNat) (↑i:Int))) (rU sizeOf3 (Pc.arr (Pc.here _) (0:Int) (((fR s).getD i 0).toNat) (by(have:=oD (s:=s) (i:=s.1.length) (k:=i) (show i<(aI s s.1.length).length by show i<(fR s).length;omega);show _;have h2:0<=(fR s).getD i 0/\(fR s).getD i 0<↑s.1.length:=this;omega))) I nP I I ay (wH oM oM) I) ?_);intro cq bs;refine go2 ?_;refine qG (A:=[]) 13 [] [(0,.q),(1,.q),(2,.q),(3,.q),(4,.q),(5,.q),(6,.q),(7,.q),(8,.q),(9,.q),(10,.c),(11,.c),(12,.q),(13,.t)] yA nX (wJ zou) nX (go1 ?_);refine wX I (tX (xB uO (Pc.fst pH) J)) λhc ez=>?_;subst ez;refine go1 ?_;refine wX I (xB uO (Pc.fst pH) an) λhb ey=>(go2 ?_);refine wX I (xI (0:Int) i underlying22 ty3 bb) λha ew=>(wX I (xA ty3 ew) λgz ev=>?_);obtain⟨rfl,gc,fw⟩:=kS ev;refine aD (F:=λv_=>AtP (tPt k) ma v_ (s.1.getD (((fR s).getD i 0).toNat) zT)) I (rI zT (((fR s).getD i 0).toNat) underlying35 zM I I ey (by(have:=oD (s:=s) (i:=s.1.length) (k:=i) (show i<(aI s s.1.length).length by show i<(fR s).length;omega);show _;have h2:0<=(fR s).getD i 0/\(fR s).getD i 0<↑s.1.length:=this;omega)) (by(have:=oD (s:=s) (i:=s.1.length) (k:=i) (show i<(aI s s.1.length).length by show i<(fR s).length;omega);show _;have h2:0<=(fR s).getD i 0/\(fR s).getD i 0<↑s.1.length:=this;omega)) nP) zBN I ?_;intro gy eu;refine wX I (xA zM eu) λgx es=>?_;refine w_c I (jN (λX=>zL (ρ:=(tPt (k+1))) (m:=1) (xs:=[(s.1.getD (((fR s).getD i 0).toNat) zT)]) (ps':=[(0,_)]) underlying35 yM I I I (xO (yI oM)) e2z (zD I (Pc.arr (Pc.here _) zT 0 dC) (es.le (Le.t (Le.q (l:=k+1) oM))) zO) zok nP) I ?_)
  rintro gw hu ⟨gg,rfl,dd⟩
  refine w_c I (xS (A:=[]) (ρ:=(tPt (k+1))) dd dK ?_);intro h4 cj bl;refine fF (A:=[]) (λX=>vX (zU (ρ:=(tPt (k+1))) (bytes:=168) underlying35 yM I I I I nP I I ax.up bl bO bO)) I (xJ zoy) ?_
  rintro ec ht ⟨be,dq,rfl,dc⟩
  refine go1 ?_;replace J:=J.mono cj;refine yK (A:=[_]) I (uB sizeOf35 (Pc.fst pH) J (oS be)) λcp bw=>(go8 ?_);refine gqL ((i+1),(IX.set (((fR s).getD i 0).toNat) (↑i:Int)),(PS++[(s.1.getD (((fR s).getD i 0).toNat) zT)]),cp,G,cq,ec,dq,h4) ?_ ?_
  · exact⟨mle,bw,bs.up,dc,be,by omega,by rw[hI];rfl,by rw[hP];rfl⟩
  omega
 have ei:i=(fR s).length:=by omega
 refine go8 ?_;refine zP (A:=[]) (ρ:=(tPt (k+1))) ax.up ?_;intro h4 cj bk;replace J:=J.mono cj;have bv:(rpP (tLs (k+1)) (rpP rpV (rpS (rpP rpI (rpP rpI (rpQ (j+1))))))).R h4 U (PS,(O,(Value.slice none 0 0,s.2.2)).2):=yAF J bk;refine go4 ?_;refine xG 53 14 ?_;have br:=RL.nil (ρ:=rpP (tPl (4*m+12) (m+n+12)) (rpP tII qI)) (h:=h4);refine zGX (A:=[_,_]) (ρ:=rpI) ay.up ?_;intro h5 ij bj;refine gcL (ι:=Nat×List Fc×Value×List Value×Value×List Value×Mem) (λ(f,Z,M,ae,D,ad,mb)=>(MLe h5 mb/\((rpS rpI).Is mb M (ixZ s)/\(rpP (tLs (k+1)) (rpP rpV (rpS (rpP rpI (rpP rpI (rpQ (j+1))))))).R mb ae (PS,(D,s.2.2))/\RL (tFc (4*m+12) (m+n+12)) mb ad Z/\D.oneCell'=true/\f<=s.2.1.length/\Z=s9 s f),[(1,vP b1 0),(2,vP b2 0),(4,M),(5,vP b5 0),(7,vI ↑f)],[.gs 53 14 D Z.length ad,.var b5 39 ae,.var b2 39 ct,.var b1 39 cu],mb,s.2.1.length-f)) (0,[],G,U,(.slice none 0 0),[],h5) ?_ ?_
 · exact⟨mle,(Rp.Is.cast bj (by rw[hI,ei];rfl)),bv.up,br.up,I,by omega,I⟩
 rintro⟨f,Z,M,ae,D,ad,mb⟩ ⟨ga,ak,H,aa,cg,fo,hF⟩
 refine yW ?_;have iq:Z.length=f:=by rw[hF];exact zPP s f
 have dl:=zXC hcd3 f fo;refine go5 ?_;refine lX (xB kR (Pc.snd (Pc.fst pH)) an) λgu hp=>(gc4 (λdj=>?_) λdj=>?_)
 ·
  refine go6 ?_;refine lX (xB jB pH an) λgt er=>(go2 ?_);refine cL (ev3 I I I) call90 (λw hs=>zF4 (f:=f) hs er ak oM oM oM (by first|omega|exact hcd3|exact aw f oM|exact zC0 s _) (by first|omega|exact hcd3|exact aw f oM|exact zC0 s _) (by first|omega|exact hcd3|exact aw f oM|exact zC0 s _) (by first|omega|exact hcd3|exact aw f oM|exact zC0 s _)) λgr h6 ii eq=>(nA (ρ:=(tFc 1 1)) (X:=((zT,(0:Rat)),([],([]:List Nat)))) jE (yC (yC (xO (yI dC)) (yI dC)) (yC wG gH)) λb8 ir eh=>?_);have bg:=(Le.p (Le.p (Le.t (Le.q (l:=4*m+11) oM)) (Le.q (l:=m+n+11) oM)) (Le.refl _)).R eh;refine zW (A:=[]) (uB sizeOf53 pH bg eq) λco am=>(go5 ?_);refine lX (tX (xB kR (Pc.snd (Pc.fst pH)) H)) λgq ep=>?_;subst ep;refine gv (jZ mh1 underlying36 I) I (go5 ?_);refine gcL (ι:=Nat×Mem) (λ(C,mk)=>(MLe h6 mk/\(C<=Z.length/\aM (zPY (nfF s (ixZ s) f) Z) Z.length=aM (zPY (nfF s (ixZ s) f) Z) C),[(1,vP b1 0),(2,vP b2 0),(4,M),(5,vP b5 0),(7,vI ↑f),(8,vP b8 0),(9,vI ↑C)],[.var b8 53 co,.gs 53 14 D Z.length ad,.var b5 39 ae,.var b2 39 ct,.var b1 39 cu],mk,C)) (Z.length,h6) ?_ ?_
  · exact⟨mle,by omega,I⟩
  rintro⟨C,mk⟩ ⟨fz,ib,ci⟩
  refine yW ?_;refine go2 ?_;refine zK 12 _ [] [(0,.q),(1,.q),(2,.q),(3,.q),(4,.q),(5,.q),(6,.q),(7,.q),(8,.q),(9,.q),(10,.c),(11,.q)] yA nX (wJ zou) nX (λr hr=>hr) (go3 ?_);refine jH ((0:Int)<(↑C:Int)) (λaq=>?_) (λaq=>?_)
  ·
   rw[xM aq];refine oX I (xB pV pH am) λgo eo=>(go1 ?_);refine oX I (tX (xB kR (Pc.snd (Pc.fst pH)) H)) λgn en=>?_;subst en;refine yS I I I (λh' L' hh hR=>yZ I) I (go1 ?_);refine yS I I I (λh' L' hh hR=>(yU (C-1) (hR _ mh1) underlying36 sizeOf53 I I oM oM nP).cv (show _=zI 1 D (((C-1)*14+0)) from congrArg (zI 1 D) zo3)) I (lQ (F:=λv_=>(tFc (4*m+12) (m+n+12)).Is mk v_ (Z.getD (C-1) zA)) I I I (wM pV (Pc.arr (Pc.here _) zA (C-1) oM) I nP I aa.up I) (tQ mh1) I ?_);intro gm em;refine w_c I (zA6 I I (sC (ev2 I I) call91 (λw hs=>zKD hs eo em (by first|omega|exact Nat.le_trans (zGA hcd3 oM) dC|exact Nat.le_trans (dl _ (by rw[hF];exact gC (by rw[<-hF];omega))) dC) (by first|omega|exact Nat.le_trans (zGA hcd3 oM) dC|exact Nat.le_trans (dl _ (by rw[hF];exact gC (by rw[<-hF];omega))) dC)) λeb h7 fm el=>?_));obtain rfl:eb=vB (lsF (nfF s (ixZ s) f) (Z.getD (C-1) zA)):=el;refine gc3 (λav=>?_) λav=>?_
   ·
    refine go9 ?_;refine gqL ((C-1),h7) ?_ ?_ (he:=⟨I,I,I,I,I,I,congrArg (λz=>some (vI z)) oM,trivial⟩)
    · exact⟨mle,by omega,by rw[ci];exact zQD oM av⟩
    omega
   refine go8 ?_;refine lX (tX (xB kR (Pc.snd (Pc.fst pH)) H)) λea ce=>?_;subst ce;refine lX (xV (ρ:=(tFc 1 1)) (xZ (ps':=[]) underlying53 jE I I (bN underlying53) trivial I (yC (yC (xO (yI dC)) (yI dC)) (yC wG gH)) zO)) λdz cd=>(zG (zL (ρ:=(tFc 1 1)) (m:=1) (xs:=[((zT,(0:Rat)),([],([]:List Nat)))]) (ps':=[(0,_)]) underlying36 jE I I I (yC (yC (xO (yI dC)) (yI dC)) (yC wG gH)) e2z (zD I (Pc.arr (Pc.here _) zA 0 dC) cd zO) zom nP) I I I ?_)
   rintro dy fk ⟨dp,rfl,ba⟩
   refine zP (A:=[]) (ρ:=(tFc 1 1)) ba ?_;intro h8 ih bi;refine xL (A:=[_]) (vX (zU (ρ:=(tFc (4*m+12) (m+n+12))) (bytes:=264) underlying36 jE I I I I nP I I aa.up (bi.le (Le.s (Le.p (Le.p (Le.t (Le.q (l:=4*m+12) oM)) (Le.q (l:=m+n+12) oM)) (Le.refl _)))) bO bO)) I I I ?_
   rintro aj fj ⟨ah,dn,rfl,az⟩
   refine go1 ?_;refine zW (A:=[_,_]) (uB sizeOf36 (Pc.snd (Pc.fst pH)) H (oS ah)) λcn ac=>(go3 ?_);refine lH (A:=[_]) (by rw[lAz];exact Nat.succ_pos _) (λob fu ao ap=>?_);refine qG (A:=[_]) 10 [] [(0,.q),(1,.q),(2,.q),(3,.q),(4,.q),(5,.q),(6,.q),(7,.q),(8,.q),(9,.c)] yA nX zou nX (go1 ?_);refine wX I (tX (xB kR (Pc.snd (Pc.fst pH)) ac)) λdx cc=>?_;subst cc;refine go2 ?_;refine wI I (λ_ _=>jI (C+1) underlying36 sizeOf53 I I ⟨_,_,ao,ap⟩ oM zo0) I (go1 ?_);refine wX I (tX (xB kR (Pc.snd (Pc.fst pH)) ac)) λdw cb=>?_;subst cb;refine go1 ?_;refine wI I (λ_ _=>jI C underlying36 sizeOf53 I I ⟨_,_,ao,ap⟩ oM zo0) I ?_;refine w_c I (fF (A:=[_]) (λX=>mB (ρ:=(tFc (4*m+12) (m+n+12))) C ao ap underlying36 sizeOf53 I I zo0 az) I (xJ zoy) ?_)
   rintro dv fi ⟨ft,rfl,bq⟩
   refine go4 ?_;refine lX (tX (xB kR (Pc.snd (Pc.fst pH)) ac)) λdu ca=>?_;subst ca;refine go1 ?_;refine lX (xB pV pH am) λdt bz=>(gv ((yU C mh1 underlying36 sizeOf53 I I oM (by rw[fL zo0];simp only[lAz,lC,lN];omega) nP).cv (show _=zI 1 aj ((C*14+0)) from congrArg (zI 1 aj) zo3)) I (fT (A:=[_]) (F:=λc_=>RL (tFc (4*m+12) (m+n+12)) h8 c_ ((sE (Z++[((zT,(0:Rat)),([],([]:List Nat)))]) C).set C (nfF s (ixZ s) f))) (rU sizeOf53 (Pc.arr (Pc.here _) zA C (by rw[fL zo0];simp only[lAz,lC,lN];omega)) I nP I I bq (bz.le (Le.p (Le.p (Le.t (Le.q (l:=4*m+12) oM)) (Le.q (l:=m+n+12) oM)) (Le.refl _))) I) ?_));intro cm bp;refine go8 ?_;refine yO (A:=[]) ?_;refine gqL ((f+1),((sE (Z++[((zT,(0:Rat)),([],([]:List Nat)))]) C).set C (nfF s (ixZ s) f)),M,cn,aj,cm,h8) ?_ ?_
   · exact⟨mle,ak.up,ac,bp,ah,by omega,by rw[nZ oM];have ch:aM (zPY (nfF s (ixZ s) f) Z) Z.length=C:=by{rw[ci];exact zHC (λe=>by first|omega|exact av e.2)};rw[<-ch,hF];rfl⟩
   omega
  rw[yH aq];refine go7 ?_;refine w_c I (lW I I I I (uV ?_));refine lX (tX (xB kR (Pc.snd (Pc.fst pH)) H)) λea ce=>?_;subst ce;refine lX (xV (ρ:=(tFc 1 1)) (xZ (ps':=[]) underlying53 jE I I (bN underlying53) trivial I (yC (yC (xO (yI dC)) (yI dC)) (yC wG gH)) zO)) λdz cd=>(zG (zL (ρ:=(tFc 1 1)) (m:=1) (xs:=[((zT,(0:Rat)),([],([]:List Nat)))]) (ps':=[(0,_)]) underlying36 jE I I I (yC (yC (xO (yI dC)) (yI dC)) (yC wG gH)) e2z (zD I (Pc.arr (Pc.here _) zA 0 dC) cd zO) zom nP) I I I ?_)
  rintro dy fk ⟨dp,rfl,ba⟩
  refine zP (A:=[]) (ρ:=(tFc 1 1)) ba ?_;intro h7 fm bh;refine xL (A:=[_]) (vX (zU (ρ:=(tFc (4*m+12) (m+n+12))) (bytes:=264) underlying36 jE I I I I nP I I aa.up (bh.le (Le.s (Le.p (Le.p (Le.t (Le.q (l:=4*m+12) oM)) (Le.q (l:=m+n+12) oM)) (Le.refl _)))) bO bO)) I I I ?_
  rintro aj fj ⟨ah,dn,rfl,az⟩
  refine go1 ?_;refine zW (A:=[_,_]) (uB sizeOf36 (Pc.snd (Pc.fst pH)) H (oS ah)) λcl ab=>(go3 ?_);refine lH (A:=[_]) (by rw[lAz];exact Nat.succ_pos _) (λob fu ao ap=>?_);refine qG (A:=[_]) 10 [] [(0,.q),(1,.q),(2,.q),(3,.q),(4,.q),(5,.q),(6,.q),(7,.q),(8,.q),(9,.c)] yA nX zou nX (go1 ?_);refine wX I (tX (xB kR (Pc.snd (Pc.fst pH)) ab)) λdx cc=>?_;subst cc;refine go2 ?_;refine wI I (λ_ _=>jI (C+1) underlying36 sizeOf53 I I ⟨_,_,ao,ap⟩ oM zo0) I (go1 ?_);refine wX I (tX (xB kR (Pc.snd (Pc.fst pH)) ab)) λdw cb=>?_;subst cb;refine go1 ?_;refine wI I (λ_ _=>jI C underlying36 sizeOf53 I I ⟨_,_,ao,ap⟩ oM zo0) I ?_;refine w_c I (fF (A:=[_]) (λX=>mB (ρ:=(tFc (4*m+12) (m+n+12))) C ao ap underlying36 sizeOf53 I I zo0 az) I (xJ zoy) ?_)
  rintro dv fi ⟨fs,rfl,bo⟩
  refine go4 ?_;refine lX (tX (xB kR (Pc.snd (Pc.fst pH)) ab)) λdu ca=>?_;subst ca;refine go1 ?_;refine lX (xB pV pH am) λdt bz=>(gv ((yU C mh1 underlying36 sizeOf53 I I oM (by rw[fL zo0];simp only[lAz,lC,lN];omega) nP).cv (show _=zI 1 aj ((C*14+0)) from congrArg (zI 1 aj) zo3)) I (fT (A:=[_]) (F:=λc_=>RL (tFc (4*m+12) (m+n+12)) h7 c_ ((sE (Z++[((zT,(0:Rat)),([],([]:List Nat)))]) C).set C (nfF s (ixZ s) f))) (rU sizeOf53 (Pc.arr (Pc.here _) zA C (by rw[fL zo0];simp only[lAz,lC,lN];omega)) I nP I I bo (bz.le (Le.p (Le.p (Le.t (Le.q (l:=4*m+12) oM)) (Le.q (l:=m+n+12) oM)) (Le.refl _))) I) ?_));intro ck bn;refine go8 ?_;refine yO (A:=[]) ?_;refine gqL ((f+1),((sE (Z++[((zT,(0:Rat)),([],([]:List Nat)))]) C).set C (nfF s (ixZ s) f)),M,cl,aj,ck,h7) ?_ ?_
  · exact⟨mle,ak.up,ab,bn,ah,by omega,by rw[nZ oM];have ch:aM (zPY (nfF s (ixZ s) f) Z) Z.length=C:=by{rw[ci];exact zHC (λe=>by first|omega|exact av e.2)};rw[<-ch,hF];rfl⟩
  omega
 have ef:f=s.2.1.length:=by omega
 refine go7 ?_;refine lX (xB jB pH H) λgk ek=>?_;have bf:=(Le.p (Le.s (Le.t (Le.q (l:=k+1) oM))) (Le.p (Le.refl _) (Le.s (Le.p (Le.refl _) (Le.p (Le.refl _) (Le.q (l:=j+1) oM)))))).R di;refine zW (A:=[_,_]) (uB sizeOf39 pH bf ek) λfr bu=>(go3 ?_);have fq:Z=nrF s:=by rw[hF,ef];exact(if_pos bd).symm
 have fp:PS=nrP s:=by rw[hP,ei];exact(if_pos bd).symm
 subst fq;subst fp;refine wT (kJ (t:=2) jB mh2 I bu) ?_;intro fv bc bm;refine kO (.cons_cons _ (List.nil_sublist _)) (λE S=>zV I bc E S) ?_;exact⟨_,_,(Rp.Is.cast bm (by rw[show nrE s=s.2.2 from if_pos bd])),I,cg,aa.up⟩
end
end Go.Proofs.YtpkaegemlpaenaaGreat
namespace Bk
open Classical
def triT(P:Nat->P2)(n:Nat):Prop:=∀i j k,i<j->j<k->k<n->0<cr (P i) (P j) (P k)
def edgeT(P:Nat->P2)(n:Nat):Prop:=∀i k,i<n->2<=k->k<n->0<cr (P i) (P ((i+1)%n)) (P ((i+k)%n))
def lp(t:Rat)(a b:P2):P2:=(a.1+t*(b.1-a.1),a.2+t*(b.2-a.2))
def ex(P:Nat->P2)(n m:Nat):P2:=P (m%n)
abbrev Mk:=Nat×Bool
def mkP(P:Nat->P2)(n:Nat)(t:Nat->Rat)(M:Mk):P2:=if M.2 then lp (t M.1) (ex P n M.1) (ex P n (M.1+1)) else ex P n M.1
def mkLt(A B:Mk):Prop:=A.1<B.1\/(A.1=B.1/\A.2=false/\B.2=true)
def chg(s:Nat->Int)(n m:Nat):Prop:=s m*s ((m+1)%n)<0
noncomputable def mks(s:Nat->Int)(n:Nat):Nat->List Mk
  |0=>[]
  |m+1=>mks s n m++(if s m<=0 then[(m,false)] else[])++(if chg s n m then[(m,true)] else[])
def inC(P:Nat->P2)(n:Nat)(p:P2):Prop:=∀m,m<n->0<=cr (P m) (P ((m+1)%n)) p
def afZ(w:Rat×Rat×Rat)(p:P2):Rat:=w.1+w.2.1*p.1+w.2.2*p.2
def mkS(S:Nat->Int)(M:Mk):Prop:=if M.2 then S M.1*S (M.1+1)<0 else S M.1<=0
def nxM(L:List Mk)(n q:Nat):Mk:=if q+1<L.length then L.getD (q+1) (0,false) else((L.getD 0 (0,false)).1+n,(L.getD 0 (0,false)).2)
section
variable {s:Nat->Int}{n:Nat}
end
structure Cfg(P:Nat->P2)(n:Nat)(t:Nat->Rat)(s:Nat->Int)(w:Rat×Rat×Rat):Prop where
 h3:3<=n
 tri:triT P n
 per:∀m,t (m%n)=t m
 cross:∀m,m<n->chg s n m->(0<t m/\t m<1)/\afZ w (lp (t m) (P m) (P ((m+1)%n)))=0
 neg:∀m,m<n->(s m<0↔afZ w (P m)<0)
 zero:∀m,m<n->(s m=0↔afZ w (P m)=0)
section
variable {P:Nat->P2}{n:Nat}{t:Nat->Rat}{s:Nat->Int}{w:Rat×Rat×Rat}
def cx(u v:P2):Rat:=u.1*v.2-v.1*u.2
def arC(P:Nat->P2)(n:Nat):Nat->Rat
  |0=>0
  |m+1=>arC P n m+cx (P m) (P ((m+1)%n))
def arO(P:Nat->P2)(n:Nat)(o:P2):Nat->Rat
  |0=>0
  |m+1=>arO P n o m+cr o (P m) (P ((m+1)%n))
noncomputable def om(S:Nat->Int)(t:Nat->Rat)(e:Nat):Rat:=
 if S e<=0/\S (e+1)<=0 then 1 else if S e<0/\0<S (e+1) then t e else if 0<S e/\S (e+1)<0 then 1-t e else 0
noncomputable def yJQ(S:Nat->Int)(t:Nat->Rat)(k:Nat->Rat):Nat->Rat
  |0=>0
  |e+1=>yJQ S t k e+om S t e*k e
noncomputable def uM(S:Nat->Int)(t:Nat->Rat)(k:Nat->Rat)(M:Mk):Rat:=yJQ S t k M.1+if M.2=true/\S M.1<0 then t M.1*k M.1 else 0
end
def ngW(w:Rat×Rat×Rat):Rat×Rat×Rat:=(-w.1,-w.2.1,-w.2.2)
section
variable {P:Nat->P2}{n:Nat}{t:Nat->Rat}{s:Nat->Int}{w:Rat×Rat×Rat}
end
noncomputable def pt2(pl:Pl)(p:Pt):P2:=pr p (axI pl.1) (axJ pl.1)
def zG7(pl:Pl)(l:List Pt):Prop:=
 (3<=l.length/\¬pl.1=zT)/\(∀m,m<l.length->sdZ pl (gp l m)=0)/\∀m k,m<l.length->2<=k->k<l.length->0<orZ (pt2 pl (gp l m)) (pt2 pl (nx l m)) (pt2 pl (gp l ((m+k)%l.length)))
noncomputable def mk3(c:Pl)(l:List Pt)(M:Mk):Pt:=if M.2 then btw c (gp l M.1) (nx l M.1) else gp l M.1
noncomputable def sgB(c:Pl)(l:List Pt)(m:Nat):Int:=sdZ c (gp l m)
noncomputable def sgF(c:Pl)(l:List Pt)(m:Nat):Int:=-sdZ c (gp l m)
noncomputable def tC(c:Pl)(l:List Pt)(m:Nat):Rat:=yLE c (gp l (m%l.length)) (nx l (m%l.length))
def y5(a b c:Pt):Rat:=xH a (xQ b c)
theorem yIH{pl:Pl}{a b c:Pt}(hn:¬pl.1=zT)(ha:sdZ pl a=0)(hb:sdZ pl b=0)(hc:sdZ pl c=0):yR (xH (xQ (uL b a) (uL c a)) pl.1)=orZ (pt2 pl a) (pt2 pl b) (pt2 pl c):=by
 have C:¬pl.1.at (axK pl.1)=0:=λe=>hn ((zSF _).1 e);have h1:=zUZ pl (qJ pl a) (qJ pl b) (qJ pl c) C;rw[zCZ C ha,zCZ C hb,zCZ C hc,yEE] at h1;exact h1.symm
theorem yII(a b c n:Pt):xH (xQ (uL b a) (uL c a)) n=y5 (uL b a) (uL c a) n:=by
 unfold y5 xH xQ uL;grind
end Bk
namespace Bk
open Go Go.RowKit
open Classical
theorem zLN{k:Nat}{h:Mem}{v:Value}{p:T3 Rat}(s:(rpT (rpQ k)).Is h v p):lq p.x<=k/\lq p.y<=k/\lq p.z<=k:=by
 obtain⟨cs,⟨a,b,_,G,c,d,_,D,C⟩,_⟩:=s;exact⟨G.2,D.2,C.2⟩
theorem zE5{K k:Nat}{h:Mem}{v:Value}{p:T3 Rat}(s:(rpT (rpQ K)).Is h v p)(h1:lq p.x<=k)(h2:lq p.y<=k)(h3:lq p.z<=k):(rpT (rpQ k)).Is h v p:=by
 obtain⟨cs,⟨a,b,e,G,c,d,J,D,C⟩,H⟩:=s;exact⟨cs,⟨a,b,e,⟨G.1,h1⟩,c,d,J,⟨D.1,h2⟩,⟨C.1,h3⟩⟩,H⟩
theorem zJU{a b:Rat}(h:¬(¬smB a\/¬smB b)):(smB a/\smB b)/\(-72057594037927936<=smZ a*smZ b/\smZ a*smZ b<=72057594037927936):=by
 have h1:smB a/\smB b:=by
  constructor
  · exact Classical.not_not.1 λe=>h (.inl e)
  · exact Classical.not_not.1 λe=>h (.inr e)
 have O:=(sY h1.1).2;have M:=(sY h1.2).2;refine⟨h1,?_⟩;have C:∀{x y:Int},0<=x->x<268435456->0<=y->y<268435456->0<=x*y/\x*y<=72057594037927936:=by
  intro x y hx G hy D;have J:=Int.mul_nonneg hx hy;have H:x*y<=268435456*268435456:=Int.mul_le_mul zot zot hy zot;omega
 generalize smZ a=u at *;generalize smZ b=v at *
 rcases Int.le_total 0 u with hu|hu<;>rcases Int.le_total 0 v with hv|hv
 · have:=C hu zot hv zot;omega
 · have:=C hu zot (y:=-v) zot zot
   rw[Int.mul_neg] at this;omega
 · have:=C (x:=-u) zot zot hv zot
   rw[Int.neg_mul] at this;omega
 · have:=C (x:=-u) (y:=-v) zot zot zot zot
   rw[Int.neg_mul_neg] at this;omega
theorem zVL{s:Pl}{p:Pt}(hx:smB s.1.x/\smB p.x)(hy:smB s.1.y/\smB p.y)(hz:smB s.1.z/\smB p.z)(hd:smB s.2):zHK ((0:Int)+smZ s.1.x*smZ p.x+smZ s.1.y*smZ p.y+smZ s.1.z*smZ p.z-smZ s.2)=sdZ s p:=by
 rw[<-mA];unfold sdZ hgt xH
 congr 1
 rw[Rat.intCast_sub,Rat.intCast_add,Rat.intCast_add,Rat.intCast_add,Rat.intCast_mul,Rat.intCast_mul,Rat.intCast_mul];rw[<-(sY hx.1).1,<-(sY hx.2).1,<-(sY hy.1).1,<-(sY hy.2).1,<-(sY hz.1).1,<-(sY hz.2).1,<-(sY hd).1];have e:((0:Int):Rat)=0:=I;rw[e];grind
theorem zVM(s:Pl)(p:Pt):xT (xH s.1 p) s.2=sdZ s p:=zG8 _ _
end Bk
namespace Bk
open Classical
def zJP(p q:Pt):Prop:=p.x=q.x/\p.y=q.y
noncomputable def y4(B:List Pt)(p:Pt):Nat->Int
  |0=>-1
  |j+1=>if zJP (B.getD j zT) p then(j:Int) else y4 B p j
theorem zG1(B:List Pt)(p:Pt):∀j,-1<=y4 B p j/\y4 B p j<j\/(j=0/\y4 B p j= -1)
  |0=>.inr ⟨rfl,rfl⟩
  |j+1=>by
   have h:=zG1 B p j;unfold y4
   split
   · exact .inl zot
   · exact .inl zot
theorem fd_t{B:List Pt}{p:Pt}{j:Nat}(h:zJP (B.getD j zT) p):(j:Int)=y4 B p (j+1):=(if_pos h).symm
theorem yH9{B:List Pt}{p:Pt}{j:Nat}(h:¬zJP (B.getD j zT) p):y4 B p j=y4 B p (j+1):=(if_neg h).symm
noncomputable def fdZ(B:List Pt)(p:Pt):Int:=y4 B p B.length
noncomputable def adB(B:List Pt)(p:Pt):List Pt:=if fdZ B p<0 then B++[p] else B
noncomputable def adN(B:List Pt)(p:Pt):Int:=if fdZ B p<0 then(B.length:Int) else fdZ B p
noncomputable def plB(B:List Pt)(x:List Pt):Nat->List Pt
  |0=>B
  |k+1=>adB (plB B x k) (x.getD k zT)
noncomputable def plN(B:List Pt)(x:List Pt):Nat->List Int:=uZ λk=>adN (plB B x k) (x.getD k zT)
noncomputable def ptB(L:List (List Pt)):Nat->List Pt
  |0=>[]
  |i+1=>plB (ptB L i) (L.getD i []) (L.getD i []).length
noncomputable def ptN(L:List (List Pt)):Nat->List (List Int):=uZ λi=>plN (ptB L i) (L.getD i []) (L.getD i []).length
def eU(L:List (List Pt)):Nat->Nat
  |0=>0
  |i+1=>eU L i+(L.getD i []).length
theorem yDC(B:List Pt)(p:Pt):(adB B p).length<=B.length+1:=by
 unfold adB;split
 · rw[lAz,List.length_singleton];exact Nat.le_refl _
 · omega
theorem zJ2(B x:List Pt):∀k,(plB B x k).length<=B.length+k
  |0=>Nat.le_refl _
  |k+1=>by
   have h1:=zJ2 B x k;have h2:=yDC (plB B x k) (x.getD k zT)
   show(adB _ _).length<=_
   omega
theorem zJ0(L:List (List Pt)):∀i,(ptB L i).length<=eU L i
  |0=>Nat.le_refl _
  |i+1=>by
   have h1:=zJ0 L i;have h2:=zJ2 (ptB L i) (L.getD i []) (L.getD i []).length
   show(plB _ _ _).length<=eU L i+_
   omega
theorem zY5{L:List (List Pt)}(h:∀m,m<L.length->(L.getD m []).length<=64):∀i,i<=L.length->eU L i<=64*i
  |0,_=>Nat.le_refl _
  |i+1,hi=>by
   have h1:=zY5 h i zot;have h2:=h i zot
   show eU L i+_<=_
   omega
theorem yB3{L:List (List Pt)}(h:uA L 0 1=0):L.length<=16/\∀m,m<L.length->(L.getD m []).length<=64:=by
 unfold uA at h
 split at h
 · omega
 · rename_i h1
   exact⟨Nat.not_lt.1 λe=>h1 (.inl e),λm C=>Nat.not_lt.1 λe=>h1 (.inr ⟨m,C,e⟩)⟩
section
variable (L:List (List Pt))(lo hi:Rat)
noncomputable def bsZ:List Pt:=ptB L L.length
noncomputable def bxZ:List (List Int):=ptN L L.length
noncomputable def zS3:Nat->List Pt:=uZ λi=>T3.mk ((bsZ L).getD (i%(bsZ L).length) zT).x ((bsZ L).getD (i%(bsZ L).length) zT).y (if((bsZ L).length:Int)<=(i:Int) then hi else lo)
noncomputable def ppZ:List Pt:=zS3 L lo hi (2*(bsZ L).length)
noncomputable def zZP:Nat->List (List Int):=uZ λi=>zCH ((bxZ L).getD i []) ((bxZ L).getD i []).length
noncomputable def tpL(i:Nat):Nat->List Int:=uZ λk=>((bxZ L).getD i []).getD k 0+((bsZ L).length:Int)
noncomputable def zU3:Nat->List (List Int):=uZ λi=>tpL L i ((bxZ L).getD i []).length
noncomputable def nmS(i k:Nat):List Nat:=[115]++qP (((i:Int):Int):Rat)++[46]++qP (((k:Int):Int):Rat)
noncomputable def sdA(i k:Nat):Int:=((bxZ L).getD i []).getD k 0
noncomputable def sdB(i k:Nat):Int:=((bxZ L).getD i []).getD ((k+1)%((bxZ L).getD i []).length) 0
noncomputable def sdN(i k:Nat):Pt:=T3.mk (((ppZ L lo hi).getD (sdB L i k).toNat zT).y-((ppZ L lo hi).getD (sdA L i k).toNat zT).y) (-(((ppZ L lo hi).getD (sdB L i k).toNat zT).x-((ppZ L lo hi).getD (sdA L i k).toNat zT).x)) (0:Rat)
noncomputable def sdF(i k:Nat):Fc:=((sdN L lo hi i k,xH (sdN L lo hi i k) ((ppZ L lo hi).getD (sdA L i k).toNat zT)),[[sdA L i k,sdB L i k,sdB L i k+((bsZ L).length:Int),sdA L i k+((bsZ L).length:Int)]],nmS i k)
noncomputable def sfX(i:Nat):Nat->List Fc:=uZ λk=>sdF L lo hi i k
noncomputable def zLV:Nat->List Fc:=tS λi=>sfX L lo hi i ((bxZ L).getD i []).length
noncomputable def btF:Fc:=((T3.mk (0:Rat) (0:Rat) (-((1:Int):Rat)),-lo),zZP L (bxZ L).length,[98,111,116,116,111,109])
noncomputable def tpF:Fc:=((T3.mk (0:Rat) (0:Rat) ((1:Int):Rat),hi),zU3 L (bxZ L).length,[116,111,112])
noncomputable def prR:Sd:=(ppZ L lo hi,zLV L lo hi (bxZ L).length++[btF L lo,tpF L hi],[])
def prB:Prop:=512<2*(bsZ L).length\/256<eU L L.length+2
noncomputable def prE:Int:=if ¬uA L 0 1=0 then uA L 0 1 else if ¬ouZ L=1 then 33 else if 0<=xT lo hi then 9 else if prB L then 2 else 0
noncomputable def prP:List Pt:=if prE L lo hi=0 then nrP (prR L lo hi) else[]
noncomputable def prF:List Fc:=if prE L lo hi=0 then nrF (prR L lo hi) else[]
end
section
variable {L:List (List Pt)}{lo hi:Rat}
theorem yKM(h1:uA L 0 1=0)(h2:ouZ L=1)(h3:¬0<=xT lo hi)(h4:¬prB L):prE L lo hi=0/\prP L lo hi=nrP (prR L lo hi)/\prF L lo hi=nrF (prR L lo hi):=by
 have e:prE L lo hi=0:=by unfold prE;rw[if_neg (λe=>e h1),if_neg (λe=>e h2),if_neg h3,if_neg h4]
 exact⟨e,if_pos e,if_pos e⟩
theorem zQY{n:Int}(h:prE L lo hi=n)(hn:¬n=0):prE L lo hi=n/\prP L lo hi=[]/\prF L lo hi=[]:=⟨h,if_neg (by rw[h];exact hn),if_neg (by rw[h];exact hn)⟩
theorem pr_1(h1:¬uA L 0 1=0):prE L lo hi=uA L 0 1/\prP L lo hi=[]/\prF L lo hi=[]:=zQY (if_pos h1) h1
theorem yKL(h1:uA L 0 1=0)(h2:¬ouZ L=1):prE L lo hi=33/\prP L lo hi=[]/\prF L lo hi=[]:=zQY (by unfold prE;rw[if_neg (λe=>e h1),if_pos h2]) zow
theorem pr_9(h1:uA L 0 1=0)(h2:ouZ L=1)(h3:0<=xT lo hi):prE L lo hi=9/\prP L lo hi=[]/\prF L lo hi=[]:=zQY (by unfold prE;rw[if_neg (λe=>e h1),if_neg (λe=>e h2),if_pos h3]) zow
theorem pr_2(h1:uA L 0 1=0)(h2:ouZ L=1)(h3:¬0<=xT lo hi)(h4:prB L):prE L lo hi=2/\prP L lo hi=[]/\prF L lo hi=[]:=zQY (by unfold prE;rw[if_neg (λe=>e h1),if_neg (λe=>e h2),if_neg h3,if_pos h4]) zow
theorem zUP(B:List Pt)(p:Pt):0<=adN B p/\adN B p<(adB B p).length:=by
 have h:=zG1 B p B.length;unfold adN adB fdZ
 split
 · rw[lAz,List.length_singleton];omega
 · omega
theorem yJL(B:List Pt)(p:Pt):B.length<=(adB B p).length:=by
 unfold adB;split
 · rw[lAz];omega
 · omega
theorem zWL(B x:List Pt){k n:Nat}(h:k<=n):(plB B x k).length<=(plB B x n).length:=by
 induction n with
 |zero=>rw[show k=0 by omega];exact Nat.le_refl _
 |succ n ih=>
  rcases Nat.lt_or_ge k (n+1) with h1|h1
  · exact Nat.le_trans (ih zot) (yJL _ _)
  · rw[show k=n+1 by omega];exact Nat.le_refl _
theorem yGR{i n:Nat}(h:i<=n):(ptB L i).length<=(ptB L n).length:=by
 induction n with
 |zero=>rw[show i=0 by omega];exact Nat.le_refl _
 |succ n ih=>
  rcases Nat.lt_or_ge i (n+1) with h1|h1
  · exact Nat.le_trans (ih zot) (zWL (ptB L n) (L.getD n []) (k:=0) (Nat.zero_le _))
  · rw[show i=n+1 by omega];exact Nat.le_refl _
theorem yJB:(bxZ L).length=L.length:=yY _ _
theorem zZI{i:Nat}(h:i<L.length):(bxZ L).getD i []=plN (ptB L i) (L.getD i []) (L.getD i []).length:=uT _ _ h
theorem zK9{i:Nat}(h:i<L.length):((bxZ L).getD i []).length=(L.getD i []).length:=by rw[zZI h];exact yY _ _
theorem zN1{i k:Nat}(h:i<L.length)(hk:k<((bxZ L).getD i []).length):0<=((bxZ L).getD i []).getD k 0/\((bxZ L).getD i []).getD k 0<↑(bsZ L).length:=by
 rw[zK9 h] at hk;rw[zZI h];unfold plN;rw[uT _ _ hk];obtain⟨h1,h2⟩:=zUP (plB (ptB L i) (L.getD i []) k) ((L.getD i []).getD k zT);have h3:=zWL (ptB L i) (L.getD i []) (show k+1<=(L.getD i []).length from hk);have H:=yGR (L:=L) (show i+1<=L.length from h);have G:(plB (ptB L i) (L.getD i []) (k+1)).length=(adB (plB (ptB L i) (L.getD i []) k) ((L.getD i []).getD k zT)).length:=I;have D:(ptB L (i+1)).length=(plB (ptB L i) (L.getD i []) (L.getD i []).length).length:=I;have C:(bsZ L).length=(ptB L L.length).length:=I;exact⟨h1,by omega⟩
theorem zOV:(ppZ L lo hi).length=2*(bsZ L).length:=yY _ _
theorem zVQ{n:Nat}(hn:n<=L.length):(zLV L lo hi n).length=eU L n:=by
 induction n with
 |zero=>rfl
 |succ n ih=>
  show List.length (zLV L lo hi n++sfX L lo hi n ((bxZ L).getD n []).length)=eU L n+_
  rw[lAz,ih zot,show(sfX L lo hi n ((bxZ L).getD n []).length).length=_ from yY _ _,zK9 zot]
end
end Bk
namespace Bk
open Go Go.RowKit
section
variable {P:Program}{n:Nat}{w0:World}{h0:Mem}{e:List (Nat×Value)}{L:List Res}{h:Mem}{Q:Exit->Act->World->Prop}{ds:Option Tmp}{ty:TypeId}{ps:String}{af:Array Edge}{gd:Option (Nat×Bool)}{α β:Type}
variable {E:TypeId}{cs:List Value}{v:Value}{ρ:Rp α}{σ:Rp β}{g:List α->β}{s:List α->β->List α}{xs:List α}{off k:Nat}
theorem zJ9{w:World}{h':Mem}(hm:.gs E ρ.n v xs.length cs∈L)(pc:Pc (rpA xs.length ρ) off σ g s)(hp:0<σ.n)(r:RL ρ h cs xs)(S:St w0 h0 L h' w):
 ∃b o',∀d,zI 1 v (off+d)=vP b (o'+off+d):=by
 have G:off+σ.n<=xs.length*ρ.n:=pc.fits;have D:=r.len;obtain⟨b,o',H,C,_⟩:=zLP (l:=1) (zJ4 hm S) zow (show off+1<=cs.length by omega);refine⟨b,o',λd=>?_⟩;rw[C];simp[zI,jY,Nat.add_assoc]
theorem rX{x:Operand}(pc:Pc (rpA xs.length ρ) off σ g s)(hk:k=off)(hp:0<σ.n)(r:RL ρ h cs xs)(hm:.gs E ρ.n v xs.length cs∈L)(hx:zJ e x=some (zI 1 v k)):
 OpV P n w0 h0 ⟨ds,.nilCheck x,ty,ps,af,gd⟩ e L h (zI 1 v k):=by
 subst hk;intro a w D S;obtain⟨b,o',H⟩:=zJ9 hm pc hp r S;have C:=H 0;rw[Nat.add_zero,Nat.add_zero] at C;rw[C] at hx ⊢;exact gO hx a w D S
theorem qU{t:TypeId}{x:Operand}{f:Nat}{fs:Array Field}{fl:Field}{m:Nat}(pc:Pc (rpA xs.length ρ) off σ g s)(hk:k=off)(hp:0<σ.n)(r:RL ρ h cs xs)(hm:.gs E ρ.n v xs.length cs∈L)(ht:P.underlying t=some (.struct fs))(hf:fs[f]?=some fl)(hsz:∀w,(Go.sizeOf fl.type).run P w=.ok (m+1) w)(hx:zJ e x=some (zI 1 v k)):
 OpV P n w0 h0 ⟨ds,.fieldAddr t x f,ty,ps,af,gd⟩ e L h (zI 1 v (k+fl.offset)):=by
 subst hk;intro a w D S;obtain⟨b,o',H⟩:=zJ9 hm pc hp r S;have C:=H 0;rw[Nat.add_zero,Nat.add_zero] at C;rw[H];rw[C] at hx;exact xU ht hf hsz hx a w D S
theorem sT{t E':TypeId}{x y:Operand}{m sz:Nat}{q:Int}(i:Nat)(pc:Pc (rpA xs.length ρ) off σ g s)(hk:k=off)(hp:0<σ.n)(r:RL ρ h cs xs)(hm:.gs E ρ.n v xs.length cs∈L)(ht:P.underlying t=some (.array m E'))(hsz:∀w,(Go.sizeOf E').run P w=.ok sz w)(hx:zJ e x=some (zI 1 v k))(hy:zJ e y=some (vI q))(hq:q=(i:Int))(hi:i<m):
 OpV P n w0 h0 ⟨ds,.indexAddr t x y,ty,ps,af,gd⟩ e L h (zI 1 v (k+i*sz)):=by
 subst hk;intro a w D S;obtain⟨b,o',H⟩:=zJ9 hm pc hp r S;have C:=H 0;rw[Nat.add_zero,Nat.add_zero] at C;rw[H];rw[C] at hx;exact yG i ht hsz hx hy hq hi a w D S
end
end Bk
